/- Layer 4's things out of a row's reading. -/
import Derived.Test.YtmnehhpfbmoahaaDoorRead
namespace Go.Alm
open Go Go.RowKit Go.ChangeShapes Go.WideShapes Go.ChangeAt

theorem add_add (a : Addr) (m n : Nat) : (a.add m).add n = a.add (m + n) := by
  unfold Addr.add
  by_cases hn : m = 0 <;> by_cases hj0 : n = 0 <;> simp [hn, hj0, Nat.add_assoc]
theorem field_of {fs : Array Field} {L : List (TypeId × Nat)} (h : fs.toList.map (fun f => (f.type, f.offset)) = L) (i : Nat) {a b : Nat} (hi : L[i]? = some (a, b)) : ∃ f, fs[i]? = some f ∧ f.type = a ∧ f.offset = b := by
  subst h
  rw [List.getElem?_map, Option.map_eq_some_iff] at hi
  obtain ⟨f, hf, he⟩ := hi
  simp only [Prod.mk.injEq] at he
  exact ⟨f, by simpa using hf, he.1, he.2⟩

section
variable {H : Type} {enc : TypeId × Value → H} {P : Program} {w : World} {base : Nat} {sp : Nat → Bool} {held : Bool} {fuel t e : Nat} {cs : List Value} {x : DataW H × List MemPlace}

theorem thing_of_trod {fs : Array Field} {ti tu th tb e8 e8' : Nat} (he : P.underlying e = some (.struct fs)) (hfs : fs.toList.map (fun f => (f.type, f.offset)) = [(ti, 0), (tu, 1), (th, 2), (tb, 34), (ti, 35)])
    (hi : P.underlying ti = some (.int .i64)) (hu : P.underlying tu = some (.int .u64)) (hh : P.underlying th = some (.array 32 e8)) (hb : P.underlying tb = some (.slice e8')) (h8 : P.underlying e8 = some (.int .u8)) (h8' : P.underlying e8' = some (.int .u8))
    (zi : P.cellsOf ti = 1) (zu : P.cellsOf tu = 1) (zh : P.cellsOf th = 32) (zb : P.cellsOf tb = 1) (z8 : P.cellsOf e8 = 1) (z8' : P.cellsOf e8' = 1) (ze : P.cellsOf e = 36)
    (h : DataW.trod enc P w base sp held fuel e cs = some x) : ∃ y : Thing, cs = y.cells.toList ∧ y.Ok ∧ Rd w y.ao (B y.b) := by
  obtain ⟨xs, n, _, _, hlen, hxl, hget⟩ := DataW.trod_struct he h
  rw [ze] at hlen
  have hsz : fs.size = 5 := by have := congrArg List.length hfs; simpa using this
  have get : ∀ (i a b : Nat), i < 5 → ([(ti, 0), (tu, 1), (th, 2), (tb, 34), (ti, 35)] : List (TypeId × Nat))[i]? = some (a, b) → ∃ z, DataW.trod enc P w base sp held n a ((cs.drop b).take (P.cellsOf a)) = some z := fun i a b hi5 hL => by
    obtain ⟨f, hf, rfl, rfl⟩ := field_of hfs i hL
    have h1 := hget i f hf
    have hs : i < xs.length := by omega
    exact ⟨xs[i], by rw [h1]; simp [hs]⟩
  obtain ⟨z0, g0⟩ := get 0 ti 0 (by decide) rfl
  obtain ⟨z1, g1⟩ := get 1 tu 1 (by decide) rfl
  obtain ⟨z2, g2⟩ := get 2 th 2 (by decide) rfl
  obtain ⟨z3, g3⟩ := get 3 tb 34 (by decide) rfl
  obtain ⟨z4, g4⟩ := get 4 ti 35 (by decide) rfl
  obtain ⟨k, e0, _, w0⟩ := DataW.trod_int hi g0
  obtain ⟨m, e1, _, w1⟩ := DataW.trod_int hu g1
  obtain ⟨l, hl, e2, Bl⟩ := ints_of_trod hh h8 z8 zh g2
  obtain ⟨ao, b, cap, e3, hR, Bb, hbc, hcm⟩ := bytes_of_trod hb h8' z8' g3
  obtain ⟨q, e4, _, w4⟩ := DataW.trod_int hi g4
  rw [zi] at e0 e4; rw [zu] at e1; rw [zh] at e2; rw [zb] at e3
  simp only [Lit.wf, Bool.and_eq_true, decide_eq_true_eq] at w0 w1 w4
  have c1 : IntKind.u64.min = 0 := by decide
  have c2 : IntKind.u64.max = 18446744073709551615 := by decide
  have c3 : IntKind.i64.max = 9223372036854775807 := by decide
  refine ⟨⟨k, m.toNat, l, ao, cap, b, q⟩, ?_, ⟨by simp only; omega, hl, Bl, Bb, hbc, hcm, by simp only; omega⟩, hR⟩
  have hm : ((m.toNat : Nat) : Int) = m := Int.toNat_of_nonneg (by omega)
  have es : cs = (cs.drop 0).take 1 ++ ((cs.drop 1).take 1 ++ ((cs.drop 2).take 32 ++ ((cs.drop 34).take 1 ++ (cs.drop 35).take 1))) := by
    have s4 : (cs.drop 34).take 1 ++ (cs.drop 35).take 1 = cs.drop 34 := by
      have : (cs.drop 35).take 1 = (cs.drop 34).drop 1 := by rw [List.drop_drop, List.take_of_length_le (by rw [List.length_drop]; omega)]
      rw [this, List.take_append_drop]
    have s3 : (cs.drop 2).take 32 ++ cs.drop 34 = cs.drop 2 := by
      have : cs.drop 34 = (cs.drop 2).drop 32 := by rw [List.drop_drop]
      rw [this, List.take_append_drop]
    have s2 : (cs.drop 1).take 1 ++ cs.drop 2 = cs.drop 1 := by
      have : cs.drop 2 = (cs.drop 1).drop 1 := by rw [List.drop_drop]
      rw [this, List.take_append_drop]
    rw [s4, s3, s2, List.drop_zero, List.take_append_drop]
  rw [es, e0, e1, e2, e3, e4]
  unfold Thing.cells
  rw [Array.toList_append, Array.toList_append, hv_B hl]
  simp [hm]

theorem things_of_trod {fs : Array Field} {ti tu th tb e8 e8' : Nat} (ht : P.underlying t = some (.slice e)) (he : P.underlying e = some (.struct fs)) (hfs : fs.toList.map (fun f => (f.type, f.offset)) = [(ti, 0), (tu, 1), (th, 2), (tb, 34), (ti, 35)])
    (hi : P.underlying ti = some (.int .i64)) (hu : P.underlying tu = some (.int .u64)) (hh : P.underlying th = some (.array 32 e8)) (hb : P.underlying tb = some (.slice e8')) (h8 : P.underlying e8 = some (.int .u8)) (h8' : P.underlying e8' = some (.int .u8))
    (zi : P.cellsOf ti = 1) (zu : P.cellsOf tu = 1) (zh : P.cellsOf th = 32) (zb : P.cellsOf tb = 1) (z8 : P.cellsOf e8 = 1) (z8' : P.cellsOf e8' = 1) (ze : P.cellsOf e = 36)
    (h : DataW.trod enc P w base sp held fuel t cs = some x) : ∃ ao ts cap, cs = [.slice ao (ts : List Thing).length cap] ∧ ThingsAt w.heap.size w ao ts ∧ ts.length ≤ cap ∧ cap ≤ maxLen := by
  rcases DataW.trod_slice ht h with ⟨rfl, _⟩ | ⟨a, len, cap, elems, rest, n, _, rfl, _, _, hlc, hcm, hel, hget, _⟩
  · exact ⟨none, [], 0, rfl, ⟨Rd.nil _ _, fun _ h => (by cases h), Sub.nil, fun _ h => (by cases h), fun _ h => (by cases h), Nat.le_refl _⟩, Nat.le_refl _, Nat.zero_le _⟩
  · have key : ∀ i, i < len → ∃ y : Thing, y.Ok ∧ Rd w y.ao (B y.b) ∧ ∀ j, j < 36 → w.cell? ((a.add (i * 36)).add j) = y.cells.toList[j]? := fun i hi' => by
      have h1 := hget i hi'
      have hs : (elems[i]?).isSome = true := by simp [hel, hi']
      obtain ⟨c, hc, hy⟩ := some_of_bind h1 hs
      obtain ⟨y, hy'⟩ := Option.isSome_iff_exists.1 hs
      rw [hy'] at hy
      obtain ⟨z, ez, ok, hR⟩ := thing_of_trod he hfs hi hu hh hb h8 h8' zi zu zh zb z8 z8' ze hy
      rw [ze] at hc
      have hcc := (World.cells?_some hc).2.2
      rw [ez] at hcc
      exact ⟨z, ok, hR, hcc⟩
    let f : Nat → Thing := fun i => if h : i < len then Classical.choose (key i h) else ⟨0, 0, [], none, 0, [], 0⟩
    have hf : ∀ i, i < len → (f i).Ok ∧ Rd w (f i).ao (B (f i).b) ∧ ∀ j, j < 36 → w.cell? ((a.add (i * 36)).add j) = (f i).cells.toList[j]? := fun i hi' => by
      have : f i = Classical.choose (key i hi') := by simp only [f, dif_pos hi']
      rw [this]; exact Classical.choose_spec (key i hi')
    have hmem : ∀ y ∈ (List.range len).map f, ∃ i, i < len ∧ y = f i := fun y hy => by
      obtain ⟨i, hi', rfl⟩ := List.mem_map.1 hy
      exact ⟨i, List.mem_range.1 hi', rfl⟩
    have hRd : Rd w (some a) (cellsT ((List.range len).map f)) := fun j u hj => by
      have hjl := (List.getElem?_eq_some_iff.1 hj).1
      rw [cellsT_length, List.length_map, List.length_range] at hjl
      have hdiv : j / 36 < len := by omega
      have hg := cellsT_get ((List.range len).map f) (j / 36) (f (j / 36)) (by simp [hdiv])
      have hm : j % 36 < 36 := Nat.mod_lt _ (by decide)
      have hu : (f (j / 36)).cells.toList[j % 36]? = some u := by
        rw [← hg, List.getElem?_take, if_pos hm, List.getElem?_drop, show j / 36 * 36 + j % 36 = j by omega]
        exact hj
      refine ⟨a, rfl, ?_⟩
      have hc := (hf _ hdiv).2.2 _ hm
      have e : (a.add (j / 36 * 36)).add (j % 36) = a.add j := by rw [add_add, show j / 36 * 36 + j % 36 = j by omega]
      rw [e] at hc
      rw [hc, hu]
    refine ⟨some a, (List.range len).map f, cap, by simp, ⟨hRd, ?_, hRd.in, ?_, ?_, Nat.le_refl _⟩, by simpa using hlc, hcm⟩
    · intro y hy; obtain ⟨i, hi', rfl⟩ := hmem y hy; exact (hf i hi').2.1
    · intro y hy; obtain ⟨i, hi', rfl⟩ := hmem y hy; exact (hf i hi').2.1.in
    · intro y hy; obtain ⟨i, hi', rfl⟩ := hmem y hy; exact (hf i hi').1
end
end Go.Alm
