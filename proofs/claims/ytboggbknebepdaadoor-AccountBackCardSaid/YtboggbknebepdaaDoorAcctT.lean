/- An account out of a row's reading. -/
import Derived.Test.YtboggbknebepdaaDoorAcc
import Derived.Test.YtboggbknebepdaaDoorReadT
namespace Go.Alm
open Go Go.RowKit Go.ChangeShapes Go.WideShapes Go.ChangeAt
section
variable {H : Type} {enc : TypeId × Value → H} {P : Program} {w : World} {base : Nat} {sp : Nat → Bool} {held : Bool} {fuel t e : Nat} {cs : List Value} {x : DataW H × List MemPlace}
theorem acct_of_trod {fs : Array Field} {ts tu tn : Nat} (he : P.underlying e = some (.struct fs)) (hfs : fs.toList.map (fun f => (f.type, f.offset)) = [(ts, 0), (tu, 1), (tn, 2)])
    (hs : P.underlying ts = some .string) (hu : P.underlying tu = some (.int .u64)) (hn : P.underlying tn = some (.int .u32)) (zs : P.cellsOf ts = 1) (zu : P.cellsOf tu = 1) (zn : P.cellsOf tn = 1) (ze : P.cellsOf e = 3)
    (h : DataW.trod enc P w base sp held fuel e cs = some x) : ∃ y : Acct, cs = y.cells.toList ∧ y.Ok := by
  obtain ⟨xs, n, _, _, hlen, hxl, hget⟩ := DataW.trod_struct he h
  rw [ze] at hlen
  have hsz : fs.size = 3 := by have := congrArg List.length hfs; simpa using this
  have get : ∀ (i a b : Nat), i < 3 → ([(ts, 0), (tu, 1), (tn, 2)] : List (TypeId × Nat))[i]? = some (a, b) → ∃ z, DataW.trod enc P w base sp held n a ((cs.drop b).take (P.cellsOf a)) = some z := fun i a b hi5 hL => by
    obtain ⟨f, hf, rfl, rfl⟩ := field_of hfs i hL
    have h1 := hget i f hf
    have hs : i < xs.length := by omega
    exact ⟨xs[i], by rw [h1]; simp [hs]⟩
  obtain ⟨z0, g0⟩ := get 0 ts 0 (by decide) rfl
  obtain ⟨z1, g1⟩ := get 1 tu 1 (by decide) rfl
  obtain ⟨z2, g2⟩ := get 2 tn 2 (by decide) rfl
  obtain ⟨s, e0, _, hsl⟩ := DataW.trod_string hs g0
  obtain ⟨m, e1, _, w1⟩ := DataW.trod_int hu g1
  obtain ⟨q, e2, _, w2⟩ := DataW.trod_int hn g2
  rw [zs] at e0; rw [zu] at e1; rw [zn] at e2
  simp only [Lit.wf, Bool.and_eq_true, decide_eq_true_eq] at w1 w2
  have c1 : IntKind.u64.min = 0 := by decide
  have c2 : IntKind.u64.max = 18446744073709551615 := by decide
  have c3 : IntKind.u32.min = 0 := by decide
  have c4 : IntKind.u32.max = 4294967295 := by decide
  refine ⟨⟨s, m.toNat, q.toNat⟩, ?_, ⟨hsl, by simp only; omega, by simp only; omega⟩⟩
  have hm : ((m.toNat : Nat) : Int) = m := Int.toNat_of_nonneg (by omega)
  have hq : ((q.toNat : Nat) : Int) = q := Int.toNat_of_nonneg (by omega)
  have es : cs = (cs.drop 0).take 1 ++ ((cs.drop 1).take 1 ++ (cs.drop 2).take 1) := by
    have s2 : (cs.drop 1).take 1 ++ (cs.drop 2).take 1 = cs.drop 1 := by
      have : (cs.drop 2).take 1 = (cs.drop 1).drop 1 := by rw [List.drop_drop, List.take_of_length_le (by rw [List.length_drop]; omega)]
      rw [this, List.take_append_drop]
    rw [s2, List.drop_zero, List.take_append_drop]
  rw [es, e0, e1, e2]
  simp [Acct.cells, hm, hq]
end
end Go.Alm
