/- What a row's reading says of memory; what a row asks of memory behind a call. -/
import Derived.Test.YtmnehhpfbmoahaaDoorThing
import Derived.ProofKit
import Derived.OpenShut
namespace Go.Alm
open Go Go.RowKit Go.ChangeShapes Go.WideShapes Go.ChangeAt

section
variable {H : Type} {enc : TypeId × Value → H} {P : Program} {w : World} {base : Nat} {sp : Nat → Bool} {held : Bool} {fuel t e : Nat} {cs : List Value} {x : DataW H × List MemPlace}

theorem some_of_bind {α β : Type} {o : Option α} {f : α → Option β} {y : Option β} (h : o.bind f = y) (hy : y.isSome = true) : ∃ a, o = some a ∧ f a = y := by
  cases o with
  | none => simp at h; subst h; cases hy
  | some a => exact ⟨a, rfl, by simpa using h⟩

theorem bytes_of_trod (ht : P.underlying t = some (.slice e)) (he : P.underlying e = some (.int .u8)) (hz : P.cellsOf e = 1) (h : DataW.trod enc P w base sp held fuel t cs = some x) :
    ∃ ao l cap, cs = [.slice ao (l : List Nat).length cap] ∧ Rd w ao (B l) ∧ Byt l ∧ l.length ≤ cap ∧ cap ≤ maxLen := by
  rcases DataW.trod_slice ht h with ⟨rfl, _⟩ | ⟨a, len, cap, elems, rest, n, _, rfl, _, _, hlc, hcm, hel, hget, _⟩
  · exact ⟨none, [], 0, rfl, Rd.nil _ _, Byt.nil, Nat.le_refl _, Nat.zero_le _⟩
  · have key : ∀ i, i < len → ∃ m : Nat, m < 256 ∧ w.cell? (a.add i) = some (.int .u8 (m : Int)) := fun i hi => by
      have h1 := hget i hi
      have hs : (elems[i]?).isSome = true := by simp [hel, hi]
      obtain ⟨c, hc, hy⟩ := some_of_bind h1 hs
      obtain ⟨y, hy'⟩ := Option.isSome_iff_exists.1 hs
      rw [hy'] at hy
      obtain ⟨m, rfl, _, hwf⟩ := DataW.trod_int he hy
      rw [hz, Nat.mul_one] at hc
      have hcell := (World.cells?_some hc).2.2 0 (by decide)
      have hadd : (a.add i).add 0 = a.add i := rfl
      rw [hadd] at hcell
      simp only [Lit.wf, Bool.and_eq_true, decide_eq_true_eq] at hwf
      have e1 : IntKind.u8.min = 0 := by decide
      have e2 : IntKind.u8.max = 255 := by decide
      refine ⟨m.toNat, by omega, ?_⟩
      rw [hcell]
      have : ((m.toNat : Nat) : Int) = m := Int.toNat_of_nonneg (by omega)
      rw [this]; rfl
    let f : Nat → Nat := fun i => match w.cell? (a.add i) with | some (.int .u8 m) => m.toNat | _ => 0
    have hf : ∀ i, i < len → f i < 256 ∧ w.cell? (a.add i) = some (.int .u8 (f i : Int)) := fun i hi => by
      obtain ⟨m, hm, hc⟩ := key i hi
      have : f i = m := by simp only [f, hc]; rfl
      rw [this]; exact ⟨hm, hc⟩
    refine ⟨some a, (List.range len).map f, cap, by simp, ?_, ?_, by simpa using hlc, hcm⟩
    · intro j u hj
      have hjl : j < len := by
        have := (List.getElem?_eq_some_iff.1 hj).1
        simpa [B] using this
      refine ⟨a, rfl, ?_⟩
      rw [(hf j hjl).2]
      simp [B, hjl] at hj
      rw [hj]
    · intro b hb
      obtain ⟨i, hi, rfl⟩ := List.mem_map.1 hb
      exact (hf i (List.mem_range.1 hi)).1

theorem ints_of_trod {n : Nat} (ht : P.underlying t = some (.array n e)) (he : P.underlying e = some (.int .u8)) (hz : P.cellsOf e = 1) (hzt : P.cellsOf t = n) (h : DataW.trod enc P w base sp held fuel t cs = some x) :
    ∃ l : List Nat, l.length = n ∧ cs = B l ∧ Byt l := by
  obtain ⟨xs, m, _, _, hlen, hxl, hget⟩ := DataW.trod_array ht h
  rw [hzt] at hlen
  have key : ∀ i, i < n → ∃ q : Nat, q < 256 ∧ cs[i]? = some (.int .u8 (q : Int)) := fun i hi => by
    have h1 := hget i hi
    have hs : (xs[i]?).isSome = true := by simp [hxl, hi]
    obtain ⟨y, hy⟩ := Option.isSome_iff_exists.1 hs
    rw [hy] at h1
    obtain ⟨q, hq, _, hwf⟩ := DataW.trod_int he h1
    rw [hz, Nat.mul_one] at hq
    simp only [Lit.wf, Bool.and_eq_true, decide_eq_true_eq] at hwf
    have e1 : IntKind.u8.min = 0 := by decide
    have e2 : IntKind.u8.max = 255 := by decide
    have hi' : i < cs.length := by omega
    rw [List.drop_eq_getElem_cons hi'] at hq
    simp only [List.take_succ_cons, List.take_zero, List.cons.injEq, and_true] at hq
    refine ⟨q.toNat, by omega, ?_⟩
    have : ((q.toNat : Nat) : Int) = q := Int.toNat_of_nonneg (by omega)
    rw [this, ← hq]
    simp [hi']
  let f : Nat → Nat := fun i => match cs[i]? with | some (.int .u8 m) => m.toNat | _ => 0
  have hf : ∀ i, i < n → f i < 256 ∧ cs[i]? = some (.int .u8 (f i : Int)) := fun i hi => by
    obtain ⟨m, hm, hc⟩ := key i hi
    have : f i = m := by simp only [f, hc]; rfl
    rw [this]; exact ⟨hm, hc⟩
  refine ⟨(List.range n).map f, by simp, ?_, ?_⟩
  · apply List.ext_getElem?
    intro i
    by_cases hi : i < n
    · rw [(hf i hi).2]; simp [B, hi]
    · rw [List.getElem?_eq_none (by omega)]; simp [B, hi]
  · intro b hb
    obtain ⟨i, hi, rfl⟩ := List.mem_map.1 hb
    exact (hf i (List.mem_range.1 hi)).1

/-- Behind a call that has touched nothing old. -/
theorem post_of_fr {f : Func} {s : ChangeSpec} {apart fresh handsOn again : Bool} {W W' : World} {args : Array Value} {v : Value} {ds gs : List (DataW H)} {before pa pv : List MemPlace}
    (hW : DataW.Whole enc P f.params.toList s.vars apart W args.toList ds gs before)
    (hres : ∀ (b : Nat) (sp : Nat → Bool) (hd : Bool), DataW.TrodAll enc P W' b sp hd f.resultTypes.toList (v.resultList f.resultTypes.size) (s.fn H (ds ++ gs)).results [])
    (hargs : ∀ sp : Nat → Bool, (∀ p ∈ before, sp p.block = true) → DataW.TrodAll enc P W' 0 sp true f.params.toList args.toList (s.fn H (ds ++ gs)).args pa)
    (hvars : ∀ sp : Nat → Bool, (∀ p ∈ before, sp p.block = true) → DataW.TrodVars enc P W' sp s.vars (s.fn H (ds ++ gs)).vars pv)
    (hps : before = pa ++ pv) (hF : Fr W W' N0)
    (hok : ∀ (j : Nat) (t : TypeId) (r : Value), f.resultTypes[j]? = some t → (v.resultList f.resultTypes.size)[j]? = some r → Value.okWide P W' .any 0 t r) :
    s.post enc P f apart fresh handsOn again W args v W' := by
  have hold : ∀ p ∈ before, (fun b => decide (b < W.heap.size)) p.block = true := fun p hp => by simpa using hW.lt p hp
  refine ⟨ds, gs, before, [], pa, pv, hW, hres _ _ _, hargs _ hold, hvars _ hold, hF.below.frame _, fun _ => ?_⟩
  have hlt := fun p hp => hW.lt p hp
  obtain ⟨_, _, _, _, _, hz, hn⟩ := hW
  refine ⟨hok, _, _, ([] ++ pa) ++ pv, ⟨[] ++ pa, pv, trodAll_append (hargs _ (fun _ _ => rfl)) (hres _ _ _), hvars _ (fun _ _ => rfl), rfl, ?_, ?_⟩, ?_⟩
  · intro b off hp
    have hp' : MemPlace.cell b off ∈ before := by rw [hps]; simpa using hp
    rw [hF.below.frozen (p := ⟨b, off, none⟩) (hlt _ hp')]
    exact hz b off hp'
  · intro ha
    have := hn ha
    rw [hps] at this
    simpa using this
  · intro p hp _
    rw [hps]
    simpa using hp
end
end Go.Alm
