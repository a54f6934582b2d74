/- What a memo is asked of, as it stands in memory; a map of those that were. -/
import Derived.Test.YtboggbknebepdaaDoorTagL
import Derived.Test.YtboggbknebepdaaDoorShb
import Derived.Test.YtboggbknebepdaaDoorReadT
namespace Go.Alm
open Go Go.RowKit Go.ChangeShapes Go.WideShapes Go.ChangeAt
def cellsK (qs : List TKey) : List Value := qs.flatMap fun x => x.cells.toList
theorem size_tkey (x : TKey) : x.cells.size = 33 := by simp [TKey.cells, hv]
theorem cellsK_cons (x : TKey) (qs : List TKey) : cellsK (x :: qs) = x.cells.toList ++ cellsK qs := rfl
theorem cellsK_length : ∀ qs : List TKey, (cellsK qs).length = qs.length * 33
  | [] => rfl
  | x :: qs => by rw [cellsK_cons, List.length_append, cellsK_length qs, Array.length_toList, size_tkey, List.length_cons]; omega
theorem cellsK_get : ∀ (qs : List TKey) (k : Nat) (x : TKey), qs[k]? = some x → ((cellsK qs).drop (k * 33)).take 33 = x.cells.toList
  | [], k, x, h => by simp at h
  | y :: qs, 0, x, h => by
    simp only [List.getElem?_cons_zero, Option.some.injEq] at h
    subst h
    rw [Nat.zero_mul, List.drop_zero, cellsK_cons]
    exact List.take_left' (by rw [Array.length_toList, size_tkey])
  | y :: qs, k + 1, x, h => by
    rw [List.getElem?_cons_succ] at h
    have e : (k + 1) * 33 = y.cells.toList.length + k * 33 := by rw [Array.length_toList, size_tkey]; omega
    rw [cellsK_cons, e, ← List.drop_drop, List.drop_left, cellsK_get qs k x h]
def kvI (ks : List TKey) : List (Value × Value) := ks.map fun x => (.agg x.cells, .int .i64 1)
theorem kvI_in {ks : List TKey} {x : TKey} (h : x ∈ ks) : (∀ v', (Value.agg x.cells, v') ∈ kvI ks → v' = .int .i64 1) ∧ ∃ v', (Value.agg x.cells, v') ∈ kvI ks := by
  constructor
  · intro v' hv'
    obtain ⟨y, _, he⟩ := List.mem_map.1 hv'
    simp only [Prod.mk.injEq] at he
    exact he.2.symm
  · exact ⟨_, List.mem_map.2 ⟨x, h, rfl⟩⟩
theorem kvI_no {ks : List TKey} {x : TKey} (h : x ∉ ks) : ∀ p ∈ kvI ks, p.1 ≠ .agg x.cells := fun p hp he => by
  obtain ⟨y, hy, rfl⟩ := List.mem_map.1 hp
  simp only [Value.agg.injEq] at he
  have := TKey.inj he
  subst this
  exact h hy
theorem kvI_length (ks : List TKey) : (kvI ks).length = ks.length := by simp [kvI]
theorem kvI_snoc (ks : List TKey) (x : TKey) : kvI ks ++ [(.agg x.cells, .int .i64 1)] = kvI (ks ++ [x]) := by simp [kvI]
theorem addK_length (ks : List TKey) (x : TKey) (room : Nat) : (addK ks x room).length ≤ ks.length + 1 := by unfold addK; split <;> simp
section
variable {H : Type} {enc : TypeId × Value → H} {P : Program} {w : World} {base : Nat} {sp : Nat → Bool} {held : Bool} {fuel t e : Nat} {cs : List Value} {x : DataW H × List MemPlace}
theorem i64_of_trod {v : Int} {d : DataW H} {p : List MemPlace} (ht : P.underlying t = some (.int .i64)) (h : DataW.Trod enc P w base sp held t (.int .i64 v) d p) : -9223372036854775808 ≤ v ∧ v ≤ 9223372036854775807 := by
  obtain ⟨fu, hf⟩ := h
  obtain ⟨m, e1, _, hwf⟩ := DataW.trod_int ht hf
  have : v = m := by simpa [Value.cells] using e1
  subst this
  simp only [Lit.wf, Bool.and_eq_true, decide_eq_true_eq] at hwf
  have c1 : IntKind.i64.min = -9223372036854775808 := by decide
  have c2 : IntKind.i64.max = 9223372036854775807 := by decide
  omega
theorem ask_of_trod {fs : Array Field} {ts th e8 : Nat} (he : P.underlying e = some (.struct fs)) (hfs : fs.toList.map (fun f => (f.type, f.offset)) = [(ts, 0), (th, 1)])
    (hs : P.underlying ts = some .string) (hh : P.underlying th = some (.array 32 e8)) (h8 : P.underlying e8 = some (.int .u8)) (zs : P.cellsOf ts = 1) (zh : P.cellsOf th = 32) (z8 : P.cellsOf e8 = 1) (ze : P.cellsOf e = 33)
    (h : DataW.trod enc P w base sp held fuel e cs = some x) : ∃ y : TKey, cs = y.cells.toList := by
  obtain ⟨xs, n, _, _, hlen, hxl, hget⟩ := DataW.trod_struct he h
  rw [ze] at hlen
  have hsz : fs.size = 2 := by have := congrArg List.length hfs; simpa using this
  have get : ∀ (i a b : Nat), i < 2 → ([(ts, 0), (th, 1)] : List (TypeId × Nat))[i]? = some (a, b) → ∃ z, DataW.trod enc P w base sp held n a ((cs.drop b).take (P.cellsOf a)) = some z := fun i a b hi5 hL => by
    obtain ⟨f, hf, rfl, rfl⟩ := field_of hfs i hL
    have h1 := hget i f hf
    have hs : i < xs.length := by omega
    exact ⟨xs[i], by rw [h1]; simp [hs]⟩
  obtain ⟨z0, g0⟩ := get 0 ts 0 (by decide) rfl
  obtain ⟨z1, g1⟩ := get 1 th 1 (by decide) rfl
  obtain ⟨s, e0, _, hsl⟩ := DataW.trod_string hs g0
  obtain ⟨l, hl, e1, Bl⟩ := ints_of_trod hh h8 z8 zh g1
  rw [zs] at e0; rw [zh] at e1
  refine ⟨⟨s, l, hl, Bl, hsl⟩, ?_⟩
  have es : cs = (cs.drop 0).take 1 ++ (cs.drop 1).take 32 := by
    have : (cs.drop 1).take 32 = cs.drop 1 := List.take_of_length_le (by rw [List.length_drop]; omega)
    rw [this, List.drop_zero, List.take_append_drop]
  rw [es, e0, e1]
  unfold TKey.cells
  rw [Array.toList_append, hv_B hl]
theorem asks_of_trod {fs : Array Field} {ts th e8 : Nat} (ht : P.underlying t = some (.slice e)) (he : P.underlying e = some (.struct fs)) (hfs : fs.toList.map (fun f => (f.type, f.offset)) = [(ts, 0), (th, 1)])
    (hs : P.underlying ts = some .string) (hh : P.underlying th = some (.array 32 e8)) (h8 : P.underlying e8 = some (.int .u8)) (zs : P.cellsOf ts = 1) (zh : P.cellsOf th = 32) (z8 : P.cellsOf e8 = 1) (ze : P.cellsOf e = 33)
    (h : DataW.trod enc P w base sp held fuel t cs = some x) : ∃ ao qs cap, cs = [.slice ao (qs : List TKey).length cap] ∧ Rd w ao (cellsK qs) ∧ qs.length ≤ cap ∧ cap ≤ maxLen := by
  rcases DataW.trod_slice ht h with ⟨rfl, _⟩ | ⟨a, len, cap, elems, rest, n, _, rfl, _, _, hlc, hcm, hel, hget, _⟩
  · exact ⟨none, [], 0, rfl, Rd.nil _ _, Nat.le_refl _, Nat.zero_le _⟩
  · have key : ∀ i, i < len → ∃ y : TKey, ∀ j, j < 33 → w.cell? ((a.add (i * 33)).add j) = y.cells.toList[j]? := fun i hi' => by
      have h1 := hget i hi'
      have hs' : (elems[i]?).isSome = true := by simp [hel, hi']
      obtain ⟨c, hc, hy⟩ := some_of_bind h1 hs'
      obtain ⟨y, hy'⟩ := Option.isSome_iff_exists.1 hs'
      rw [hy'] at hy
      obtain ⟨z, ez⟩ := ask_of_trod he hfs hs hh h8 zs zh z8 ze hy
      rw [ze] at hc
      have hcc := (World.cells?_some hc).2.2
      rw [ez] at hcc
      exact ⟨z, hcc⟩
    let f : Nat → TKey := fun i => if h : i < len then Classical.choose (key i h) else K0
    have hf : ∀ i, i < len → ∀ j, j < 33 → w.cell? ((a.add (i * 33)).add j) = (f i).cells.toList[j]? := fun i hi' => by
      have : f i = Classical.choose (key i hi') := by simp only [f, dif_pos hi']
      rw [this]; exact Classical.choose_spec (key i hi')
    refine ⟨some a, (List.range len).map f, cap, by simp, fun j u hj => ?_, by simpa using hlc, hcm⟩
    have hjl := (List.getElem?_eq_some_iff.1 hj).1
    rw [cellsK_length, List.length_map, List.length_range] at hjl
    have hdiv : j / 33 < len := by omega
    have hg := cellsK_get ((List.range len).map f) (j / 33) (f (j / 33)) (by simp [hdiv])
    have hm : j % 33 < 33 := Nat.mod_lt _ (by decide)
    have hu : (f (j / 33)).cells.toList[j % 33]? = some u := by
      rw [← hg, List.getElem?_take, if_pos hm, List.getElem?_drop, show j / 33 * 33 + j % 33 = j by omega]
      exact hj
    refine ⟨a, rfl, ?_⟩
    have hc := hf _ hdiv _ hm
    have e : (a.add (j / 33 * 33)).add (j % 33) = a.add j := by rw [add_add, show j / 33 * 33 + j % 33 = j by omega]
    rw [e] at hc
    rw [hc, hu]
end
end Go.Alm
