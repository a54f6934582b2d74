/- Maps, as lists of keys and values; the memo of layer 3. -/
import Derived.Test.YtmnehhpfbmoahaaDoorTag
import Derived.Test.YtmnehhpfbmoahaaDoorDeep
import Derived.DeepKeys4
import Derived.Laws.IdiomMaps
namespace Go.Alm
open Go Go.RowKit

/-- A map's block: its keys and values in the order in which they came. -/
def MapAt (P : Program) (k : TypeId) (w : World) (mb : Nat) (kv : List (Value × Value)) : Prop :=
  ∃ es clock, w.heap[mb]? = some (.map es clock) ∧ es.toList.map (fun e => (e.key, e.val)) = kv ∧ ∀ p ∈ kv, ∃ l, keyOf P k p.1 = some l
theorem MapAt.keep {P : Program} {k : TypeId} {w w' : World} {mb : Nat} {kv : List (Value × Value)} {S : Nat → Prop} (h : MapAt P k w mb kv) (F : Fr w w' S) (d : Dis (One mb) S) : MapAt P k w' mb kv := by
  obtain ⟨es, cl, hb, hk, hg⟩ := h
  exact ⟨es, cl, F.keep hb d, hk, hg⟩
theorem MapAt.in {P : Program} {k : TypeId} {w : World} {mb : Nat} {kv : List (Value × Value)} (h : MapAt P k w mb kv) : In w (One mb) := by
  obtain ⟨es, cl, hb, _, _⟩ := h
  exact In.one hb
theorem MapAt.nil {P : Program} {k : TypeId} {w : World} {mb : Nat} (h : w.heap[mb]? = some (.map #[] 0)) : MapAt P k w mb [] := ⟨#[], 0, h, rfl, fun _ h => (by cases h)⟩
theorem keyOf_deep {P : Program} {k : Nat} {cs : Array Value} (hs : isAggT P k = true) (hk : P.keyType k = true) (hn : cs.size = P.cellsOf k) (k1 : (leaves P (P.types.size + 1) k).map (·.map some) = some (cs.toList.map kindV)) (w1 : WfA cs) : ∃ l, keyOf P k (.agg cs) = some l := by
  obtain ⟨L, hL, e1⟩ := Option.map_eq_some_iff.1 k1
  have g1 := keyLits_leaves (P.types.size + 1) k L hL cs.toList e1.symm w1
  have hf : Value.formed P k (.agg cs) = true := by
    unfold isAggT at hs
    unfold Value.formed
    split at hs <;> simp_all
  unfold isAggT at hs
  unfold keyOf
  split at hs
  all_goals first | (rename_i hu; rw [hu]; simp only [hk, hf, Bool.and_self, if_true]; rw [show (Value.agg cs).cells.toList = cs.toList from rfl, g1]; exact ⟨_, rfl⟩) | cases hs

section
variable {P : Program} {Q : Exit → Act → World → Prop} {a : Act} {w : World} {o : Oper} {K : Act → World → Prop} {mb : Nat} {kv : List (Value × Value)} {t k e : Nat}
def lookOf : Op → Option (Nat × Operand × Operand × Bool)
  | .lookup t x i ok => some (t, x, i, ok)
  | _ => none
def updOf : Op → Option (Nat × Operand × Operand × Operand)
  | .mapUpdate t m k x => some (t, m, k, x)
  | _ => none
def lenOf : Op → Option (Nat × Operand)
  | .call c => match c.callee, c.args.toList, c.argTypes.toList with
    | .builtin .len, [x], [t] => some (t, x)
    | _, _, _ => none
  | _ => none
theorem run_lookup (KL : WideMaps.KeyLaw P k) (x kx : Operand) (key z : Value) (ho : lookOf o.op = some (t, x, kx, true)) (ht : P.underlying t = some (.map k e)) (hz : (zeroValue e).run P w = .ok z w) (hx : a.eval x = .map (some mb)) (hkx : a.eval kx = key)
    (h : MapAt P k w mb kv) (hkey : ∃ l, keyOf P k key = some l) :
    ((∀ p ∈ kv, p.1 ≠ key) → (execOp a.eval o).run P w = .ok (.value (.tuple #[z, .bool false])) w) ∧
    (∀ v, (∀ v', (key, v') ∈ kv → v' = v) → (∃ v', (key, v') ∈ kv) → (execOp a.eval o).run P w = .ok (.value (.tuple #[v, .bool true])) w) := by
  obtain ⟨es, cl, hb, rfl, hg⟩ := h
  obtain ⟨l, hl⟩ := hkey
  have hgk : ∀ x ∈ es.toList, ∃ l, keyOf P k x.key = some l := fun x hx => hg _ (List.mem_map.2 ⟨x, hx, rfl⟩)
  unfold lookOf at ho
  split at ho
  · rename_i t' x' k' ok' hop
    simp only [Option.some.injEq, Prod.mk.injEq] at ho
    obtain ⟨rfl, rfl, rfl, rfl⟩ := ho
    have e1 : execOp a.eval o = (do pure (.value (← Instr.lookup t' (a.eval x') (a.eval k') true))) := by unfold execOp; simp only [hop]
    rcases KL.find w hl es.toList hgk with ⟨h1, h2⟩ | ⟨j, e0, h1, h2, h3⟩
    · refine ⟨fun _ => ?_, fun v _ hex => ?_⟩
      · rw [e1, hx, hkx]
        simp [Instr.lookup, run_underlying ht, MapKept.run_getObj_map hb, KL.check w _ hl, h1, hz, Result.andThen]
      · obtain ⟨v', hv'⟩ := hex
        obtain ⟨x, hx, he⟩ := List.mem_map.1 hv'
        exact absurd (congrArg Prod.fst he) (h2 x hx)
    · have hm : e0 ∈ es.toList := List.mem_of_getElem? h2
      refine ⟨fun hno => ?_, fun v huniq _ => ?_⟩
      · exact absurd h3 (hno _ (List.mem_map.2 ⟨e0, hm, rfl⟩))
      · have : e0.val = v := huniq _ (List.mem_map.2 ⟨e0, hm, by rw [h3]⟩)
        rw [e1, hx, hkx]
        simp [Instr.lookup, run_underlying ht, MapKept.run_getObj_map hb, KL.check w _ hl, h1, Result.andThen, this]
  · cases ho
theorem op_update (KL : WideMaps.KeyLaw P k) (x kx vx : Operand) (key val : Value) (ho : updOf o.op = some (t, x, kx, vx)) (ht : P.underlying t = some (.map k e)) (hx : a.eval x = .map (some mb)) (hkx : a.eval kx = key) (hvx : a.eval vx = val)
    (h : MapAt P k w mb kv) (hkey : ∃ l, keyOf P k key = some l) (hno : ∀ p ∈ kv, p.1 ≠ key)
    (kk : ∀ w', MapAt P k w' mb (kv ++ [(key, val)]) → w'.heap.size = w.heap.size → Fr w w' (One mb) → K (a.put o.dst undef) w') : OpW P o a w K Q := by
  obtain ⟨es, cl, hb, rfl, hg⟩ := h
  obtain ⟨l, hl⟩ := hkey
  have hgk : ∀ x ∈ es.toList, ∃ l, keyOf P k x.key = some l := fun x hx => hg _ (List.mem_map.2 ⟨x, hx, rfl⟩)
  unfold updOf at ho
  split at ho
  · rename_i t' x' k' v' hop
    simp only [Option.some.injEq, Prod.mk.injEq] at ho
    obtain ⟨rfl, rfl, rfl, rfl⟩ := ho
    have e1 : execOp a.eval o = (do Instr.mapUpdate t' (a.eval x') (a.eval k') (a.eval v'); pure .skip) := by unfold execOp; simp only [hop]
    rcases KL.find w hl es.toList hgk with ⟨h1, _⟩ | ⟨j, e0, _, h2, h3⟩
    · have hlt := lt_of_get hb
      have hget : (w.heap.setIfInBounds mb (.map (es.push ⟨key, val, cl⟩) (cl + 1)))[mb]? = some (.map (es.push ⟨key, val, cl⟩) (cl + 1)) := by simp [hlt]
      refine op_run_skip { w with heap := w.heap.setIfInBounds mb (.map (es.push ⟨key, val, cl⟩) (cl + 1)) } ?_ (kk _ ⟨_, _, hget, by simp, ?_⟩ (by simp) ⟨rfl, rfl, rfl, by simp, fun j _ hj => ?_⟩)
      · rw [e1, hx, hkx, hvx]
        simp [Instr.mapUpdate, run_underlying ht, MapKept.run_getObj_map hb, KL.check w _ hl, h1, MapKept.run_setObj_map _ hb, Result.andThen]
      · intro p hp
        rcases List.mem_append.1 hp with h | h
        · exact hg p h
        · rw [List.mem_singleton.1 h]; exact ⟨l, hl⟩
      · have : mb ≠ j := fun e => hj e.symm
        simp [this]
    · have hm : e0 ∈ es.toList := List.mem_of_getElem? h2
      exact absurd h3 (hno _ (List.mem_map.2 ⟨e0, hm, rfl⟩))
  · cases ho
theorem run_lenMap (x : Operand) (ho : lenOf o.op = some (t, x)) (ht : P.underlying t = some (.map k e)) (hx : a.eval x = .map (some mb)) (h : MapAt P k w mb kv) : (execOp a.eval o).run P w = .ok (.value (.int .i64 (kv.length : Int))) w := by
  obtain ⟨es, cl, hb, rfl, _⟩ := h
  unfold lenOf at ho
  split at ho
  · rename_i c hc
    split at ho
    · rename_i h1 h2 h3
      simp only [Option.some.injEq, Prod.mk.injEq] at ho
      obtain ⟨rfl, rfl⟩ := ho
      obtain ⟨cal, args, tys⟩ := c
      simp only at h1 h2 h3
      obtain rfl : args = #[_] := by rw [← Array.toArray_toList (xs := args), h2]
      obtain rfl : tys = #[_] := by rw [← Array.toArray_toList (xs := tys), h3]
      subst h1
      unfold execOp
      simp [hc, resolve, invoke, builtin, hx, Builtin.len_, run_underlying ht, MapKept.run_getObj_map hb, goInt, Result.andThen]
    · cases ho
  · cases ho
end

/-! ### the memo -/
/-- A name and a digest. -/
structure TKey where
  s : ByteArray
  h : List Nat
  hl : h.length = 32
  hb : Byt h
  hs : s.size ≤ maxLen
def TKey.cells (x : TKey) : Array Value := #[.string x.s] ++ hv x.h
theorem hv_inj {l m : List Nat} (hl : l.length = 32) (hm : m.length = 32) (h : hv l = hv m) : l = m := by
  have h2 := congrArg Array.toList h
  rw [hv_B hl, hv_B hm] at h2
  exact map_inj' (fun x y e => by injection e with _ e; omega) h2
theorem TKey.inj {x y : TKey} (h : x.cells = y.cells) : x = y := by
  obtain ⟨s, l, hl, hb, hs⟩ := x
  obtain ⟨s', l', hl', hb', hs'⟩ := y
  have h2 := congrArg Array.toList h
  simp only [TKey.cells, Array.toList_append, List.cons_append, List.nil_append, List.cons.injEq, Value.string.injEq] at h2
  obtain ⟨rfl, h3⟩ := h2
  have : l = l' := hv_inj hl hl' (Array.toList_inj.1 h3)
  subst this
  rfl
theorem TKey.wf (x : TKey) : WfA x.cells := (WfA.lit (l := [.string x.s]) ⟨x.hs, trivial⟩).app (WfA.hv x.hl x.hb)
/-- The digest of a name and one part. -/
def tag1 (nm h : List Nat) : List Nat := tagL nm [⟨none, 0, h⟩]
theorem tag1_eq (nm h : List Nat) (ao : Option Addr) (cap : Nat) : tagL nm [⟨ao, cap, h⟩] = tag1 nm h := rfl
def tagK (x : TKey) : List Nat := tag1 (sB x.s) x.h
def kvT (ks : List TKey) : List (Value × Value) := ks.map fun x => (.agg x.cells, .agg (hv (tagK x)))
instance (x y : TKey) : Decidable (x = y) := if h : x.s = y.s ∧ x.h = y.h then .isTrue (by obtain ⟨s, l, _, _, _⟩ := x; obtain ⟨s', l', _, _, _⟩ := y; obtain ⟨h1, h2⟩ := h; cases h1; cases h2; rfl) else .isFalse (fun e => h (by subst e; exact ⟨rfl, rfl⟩))
def addK (ks : List TKey) (x : TKey) (room : Nat) : List TKey := if x ∈ ks ∨ room ≤ ks.length then ks else ks ++ [x]
theorem kvT_in {ks : List TKey} {x : TKey} (h : x ∈ ks) : (∀ v', (Value.agg x.cells, v') ∈ kvT ks → v' = .agg (hv (tagK x))) ∧ ∃ v', (Value.agg x.cells, v') ∈ kvT ks := by
  constructor
  · intro v' hv'
    obtain ⟨y, _, he⟩ := List.mem_map.1 hv'
    simp only [Prod.mk.injEq, Value.agg.injEq] at he
    have := TKey.inj he.1
    subst this
    exact he.2.symm
  · exact ⟨_, List.mem_map.2 ⟨x, h, rfl⟩⟩
theorem kvT_no {ks : List TKey} {x : TKey} (h : x ∉ ks) : ∀ p ∈ kvT ks, p.1 ≠ .agg x.cells := fun p hp he => by
  obtain ⟨y, hy, rfl⟩ := List.mem_map.1 hp
  simp only [Value.agg.injEq] at he
  have := TKey.inj he
  subst this
  exact h hy
theorem kvT_length (ks : List TKey) : (kvT ks).length = ks.length := by simp [kvT]
theorem kvT_snoc (ks : List TKey) (x : TKey) : kvT ks ++ [(.agg x.cells, .agg (hv (tagK x)))] = kvT (ks ++ [x]) := by simp [kvT]
theorem parts0_le : (partsL []).length ≤ 800000 := by simp [partsL]
theorem parts1_le {ao : Option Addr} {cap : Nat} {l : List Nat} (h : l.length ≤ 700000) : (partsL [⟨ao, cap, l⟩]).length ≤ 800000 := by simp [partsL, partL_length]; omega
def memC (room mb : Nat) (last : TKey) (found : List Nat) (asked : Bool) : Array Value := #[.int .i64 (room : Int), .map (some mb)] ++ last.cells ++ hv found ++ #[.bool asked]
structure MemoAt (P : Program) (k tM : Nat) (w : World) (bm mb room : Nat) (ks : List TKey) (last : TKey) (found : List Nat) (asked : Bool) : Prop where
  blk : w.heap[bm]? = some (.cells (memC room mb last found asked) tM (0, 0))
  map : MapAt P k w mb (kvT ks)
  dis : Dis (One bm) (One mb)
  inv : asked = true → found = tagK last ∧ (last ∈ ks ∨ room ≤ ks.length)
theorem MemoAt.keep {P : Program} {k tM : Nat} {w w' : World} {bm mb room : Nat} {ks : List TKey} {last : TKey} {found : List Nat} {asked : Bool} {S : Nat → Prop} (h : MemoAt P k tM w bm mb room ks last found asked) (F : Fr w w' S) (d : Dis (Or2 (One bm) (One mb)) S) : MemoAt P k tM w' bm mb room ks last found asked :=
  ⟨F.keep h.blk d.left, h.map.keep F d.right, h.dis, h.inv⟩
theorem MemoAt.in {P : Program} {k tM : Nat} {w : World} {bm mb room : Nat} {ks : List TKey} {last : TKey} {found : List Nat} {asked : Bool} (h : MemoAt P k tM w bm mb room ks last found asked) : In w (Or2 (One bm) (One mb)) := fun i hi => by
  rcases hi with hi | hi
  · rw [hi]; exact lt_of_get h.blk
  · exact h.map.in i hi
def K0 : TKey := ⟨⟨#[]⟩, List.replicate 32 0, rfl, fun x hx => by have := List.eq_of_mem_replicate hx; omega, by decide⟩
theorem memo3 (asked : Bool) (last x : TKey) : asked = false ∨ (asked = true ∧ last = x) ∨ (asked = true ∧ last ≠ x) := by
  cases asked
  · exact .inl rfl
  · by_cases h : last = x
    · exact .inr (.inl ⟨rfl, h⟩)
    · exact .inr (.inr ⟨rfl, h⟩)
theorem addK_inv (ks : List TKey) (x : TKey) (room : Nat) : x ∈ addK ks x room ∨ room ≤ (addK ks x room).length := by
  unfold addK
  split
  · assumption
  · exact .inl (by simp)
theorem tagK_length (x : TKey) : (tagK x).length = 32 := tagL_length _ _
theorem tagK_byt (x : TKey) : Byt (tagK x) := tagL_byt _ _
end Go.Alm
