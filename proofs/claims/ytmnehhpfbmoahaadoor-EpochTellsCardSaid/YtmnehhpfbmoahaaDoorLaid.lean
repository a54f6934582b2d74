/- What the listed variables hold, as an array that is read. -/
import Derived.Test.YtmnehhpfbmoahaaDoorRead
import Derived.Test.YtmnehhpfbmoahaaDoorArr
namespace Go.Alm
open Go Go.RowKit Go.ChangeShapes Go.WideShapes Go.ChangeAt
section
variable {H : Type} {enc : TypeId × Value → H} {P : Program} {w : World}
theorem words_of_trod {base : Nat} {sp : Nat → Bool} {held : Bool} {fuel t e : Nat} {cs : List Value} {K : List Int} {p : List MemPlace} (ht : P.underlying t = some (.array 64 e)) (he : P.underlying e = some (.int .u32)) (hz : P.cellsOf e = 1) (hK : K.length = 64)
    (h : DataW.trod enc P w base sp held fuel t cs = some (.agg (K.map fun k => .lit (.int .u32 k)), p)) : ∀ i, i < 64 → cs[i]? = (K[i]?).map (.int .u32 ·) := by
  intro i hi
  obtain ⟨xs, m, _, hx, hlen, hxl, hget⟩ := DataW.trod_array ht h
  simp only [Prod.mk.injEq, DataW.agg.injEq] at hx
  have h1 := hget i hi
  have hs : i < xs.length := by omega
  obtain ⟨y, hy⟩ : ∃ y, xs[i]? = some y := ⟨xs[i], by simp [hs]⟩
  rw [hy] at h1
  obtain ⟨k, e1, e2, _⟩ := DataW.trod_int he h1
  rw [hz, Nat.mul_one] at e1
  have hy2 : y.1 = .lit (.int .u32 k) := by rw [e2]
  have hm : (K.map fun k => (DataW.lit (Lit.int IntKind.u32 k) : DataW H))[i]? = some (.lit (.int .u32 k)) := by
    rw [hx.1, List.getElem?_map, hy, Option.map_some, hy2]
  rw [List.getElem?_map] at hm
  obtain ⟨k', hk', hkk⟩ := Option.map_eq_some_iff.1 hm
  simp only [DataW.lit.injEq, Lit.int.injEq, true_and] at hkk
  subst hkk
  rw [hk', Option.map_some]
  have : (List.take 1 (List.drop i cs))[0]? = some (Value.int .u32 k') := by rw [e1]; rfl
  simpa using this
theorem keys_of_laid {n : String} {g t e f : Nat} {cs : Array Value} {p : List MemPlace} {D : DataW H} {base : Nat} {sp : Nat → Bool} {held : Bool} (hg : P.globalNamed n = some g) (hv : w.var? P n = some cs) (ht : P.underlying t = some (.array 64 e)) (he : P.underlying e = some (.int .u32)) (hz : P.cellsOf e = 1)
    (hd : DataW.trod enc P w base sp held f t cs.toList = some (D, p)) (hD : D = .agg ((KL.map fun k => (k.toNat : Int)).map fun k => .lit (.int .u32 k))) : Rd w (some ⟨g, 0, none⟩) (hw KL).toList := by
  subst hD
  have h := words_of_trod ht he hz (by rfl) hd
  intro i u hi
  have h64 : i < 64 := by
    have := (List.getElem?_eq_some_iff.1 hi).1
    simpa [hw] using this
  refine ⟨_, rfl, ?_⟩
  have hadd : (⟨g, 0, none⟩ : Addr).add i = ⟨g, i, none⟩ := by unfold Addr.add; split <;> simp_all
  rw [hadd, Go.World.var?_cell hg hv i, ← Array.getElem?_toList, h i h64]
  rw [KL_get i h64] at hi
  rw [← hi]
  have hl : KL.length = 64 := rfl
  simp [show i < KL.length by omega]
end
end Go.Alm
