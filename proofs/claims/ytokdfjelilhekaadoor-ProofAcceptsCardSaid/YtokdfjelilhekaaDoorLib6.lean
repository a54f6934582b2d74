/- Plain lemmas and laws of the machine that the walks use; without conditions of their own. -/
import Derived.Test.YtokdfjelilhekaaDoorLib5
import Derived.Test.YtokdfjelilhekaaDoorLib3
import Derived.Test.YtokdfjelilhekaaDoorLib4
import Derived.RangeFuncKeeps
import Derived.Test.YtokdfjelilhekaaDoorLib2
/- Maps by the machine: a map's block as a list of keys and values. -/
namespace Go.Alm
open Go Go.RowKit
structure KT {α : Type} (P : Program) (k : TypeId) (kc : α → Value) (ok : α → Prop) : Prop where
  inj : ∀ a b, ok a → ok b → kc a = kc b → a = b
  check : ∀ (w : World) (em : Bool) a, ok a → (Instr.checkKey em 10000 k (kc a)).run P w = .ok () w
  find : ∀ (w : World) a, ok a → ∀ es : List MapEntry, (∀ e ∈ es, ∃ b, ok b ∧ e.key = kc b) →
    ((Instr.findKey k (kc a) es).run P w = .ok none w ∧ ∀ e ∈ es, e.key ≠ kc a) ∨ ∃ j e, (Instr.findKey k (kc a) es).run P w = .ok (some (j, e.val)) w ∧ es[j]? = some e ∧ e.key = kc a
  stays : ∀ (w : World) a, ok a → (Instr.keyThatStays (kc a) (kc a)).run P w = .ok (kc a) w
/-- Keys of a plain type. -/
theorem KT.plain {α : Type} {P : Program} {k : TypeId} {d : TypeDesc} (hd : P.underlying k = some d) {kc : α → Value} (hk : ∀ a, MapKept.IsKey d (kc a)) (inj : ∀ a b, kc a = kc b → a = b) : KT P k kc (fun _ => True) where
  inj a b _ _ := inj a b
  check w em a _ := MapKept.run_checkKey hd (hk a) em 9999
  find w a _ es hes := by
    rcases MapKept.findNow_spec (hk a) es 0 (fun x hx => by obtain ⟨b, _, e⟩ := hes x hx; rw [e]; exact hk b) with ⟨h1, h2⟩ | ⟨j, e, h1, h2, h3⟩
    · exact .inl ⟨MapKept.run_findKey hd h1, h2⟩
    · exact .inr ⟨j, e, by rw [MapKept.run_findKey hd h1, Nat.zero_add], h2, h3⟩
  stays w a _ := MapKept.run_keyThatStays (hk a)
def intK (n : Int) : Value := .int .i64 n
theorem KT.int {P : Program} {k : TypeId} (hd : P.underlying k = some (.int .i64)) : KT P k intK (fun _ => True) := KT.plain hd (fun _ => rfl) (fun a b h => by simpa [intK] using h)
/-- Keys that are aggregates. -/
theorem KT.agg {α : Type} {P : Program} {k : TypeId} (KL : WideMaps.KeyLaw P k) {kc : α → Value} {ok : α → Prop} (hk : ∀ a, ok a → ∃ l, keyOf P k (kc a) = some l) (inj : ∀ a b, ok a → ok b → kc a = kc b → a = b) : KT P k kc ok where
  inj := inj
  check w em a ha := by obtain ⟨l, hl⟩ := hk a ha; exact KL.check w em hl
  find w a ha es hes := by
    obtain ⟨l, hl⟩ := hk a ha
    exact KL.find w hl es fun e he => by obtain ⟨b, hb, e1⟩ := hes e he; rw [e1]; exact hk b hb
  stays w a ha := by obtain ⟨l, hl⟩ := hk a ha; exact KL.stays w hl

section
variable {α β : Type} [DecidableEq α]
def getM : List (α × β) → α → Option β
  | [], _ => none
  | x :: l, a => if x.1 = a then some x.2 else getM l a
def repM (l : List (α × β)) (a : α) (b : β) : List (α × β) := l.map fun x => if x.1 = a then (a, b) else x
def setM (l : List (α × β)) (a : α) (b : β) : List (α × β) := if (getM l a).isSome then repM l a b else l ++ [(a, b)]
def delM (l : List (α × β)) (a : α) : List (α × β) := l.filter fun x => decide (x.1 ≠ a)
theorem getM_none {l : List (α × β)} {a : α} : getM l a = none ↔ ∀ x ∈ l, x.1 ≠ a := by
  induction l with
  | nil => simp [getM]
  | cons x l ih =>
    unfold getM
    split
    · rename_i h; simp [h]
    · rename_i h; rw [ih]; simp [h]
theorem getM_some {l : List (α × β)} {a : α} {b : β} (h : getM l a = some b) : (a, b) ∈ l := by
  induction l with
  | nil => cases h
  | cons x l ih =>
    unfold getM at h
    split at h
    · rename_i e; cases h; cases x; cases e; exact .head _
    · exact .tail _ (ih h)
theorem getM_set (l : List (α × β)) (a : α) (b : β) (c : α) : getM (setM l a b) c = if a = c then some b else getM l c := by
  have h1 : ∀ m : List (α × β), getM (repM m a b) c = if a = c then (getM m c).map fun _ => b else getM m c := by
    intro m
    induction m with
    | nil => simp [repM, getM]
    | cons x m ih =>
      simp only [repM, List.map_cons] at ih ⊢
      by_cases e : x.1 = a
      · subst e
        rw [if_pos rfl, getM, ih]
        by_cases e2 : x.1 = c
        · subst e2; simp [getM]
        · simp [getM, e2]
      · rw [if_neg e, getM, ih]
        by_cases e2 : a = c
        · subst e2; simp [getM, e]
        · simp [getM, e2]
  have h2 : ∀ m : List (α × β), getM (m ++ [(a, b)]) c = match getM m c with | some d => some d | none => if a = c then some b else none := by
    intro m
    induction m with
    | nil => simp [getM]
    | cons x m ih =>
      simp only [List.cons_append, getM]
      split
      · rfl
      · exact ih
  unfold setM
  cases hq : getM l a with
  | none =>
    rw [if_neg (by simp), h2]
    by_cases e : a = c
    · subst e; rw [hq, if_pos rfl]
    · rw [if_neg e]; cases getM l c <;> simp [e]
  | some d =>
    rw [if_pos (by simp), h1]
    by_cases e : a = c
    · subst e; simp [hq]
    · rw [if_neg e, if_neg e]
theorem getM_del (l : List (α × β)) (a c : α) : getM (delM l a) c = if a = c then none else getM l c := by
  induction l with
  | nil => simp [delM, getM]
  | cons x l ih =>
    simp only [delM, List.filter_cons] at ih ⊢
    by_cases e : x.1 = a
    · rw [if_neg (by simp [e]), ih, getM]
      by_cases e2 : a = c
      · rw [if_pos e2, if_pos e2]
      · rw [if_neg e2, if_neg e2, if_neg (by rw [e]; exact e2)]
    · rw [if_pos (by simp [e]), getM, ih, getM]
      by_cases e2 : a = c
      · subst e2; simp [e]
      · simp [e2]
def keysM (l : List (α × β)) : List α := l.map (·.1)
theorem keysM_rep (l : List (α × β)) (a : α) (b : β) : keysM (repM l a b) = keysM l := by
  unfold keysM repM
  rw [List.map_map]
  refine List.map_congr_left fun x _ => ?_
  show (if x.1 = a then (a, b) else x).1 = x.1
  split
  · rename_i h; exact h.symm
  · rfl
theorem nodup_set {l : List (α × β)} (h : (keysM l).Nodup) (a : α) (b : β) : (keysM (setM l a b)).Nodup := by
  unfold setM
  split
  · rw [keysM_rep]; exact h
  · rename_i hq
    have hn : getM l a = none := by cases hg : getM l a with | none => rfl | some _ => rw [hg] at hq; exact absurd rfl hq
    unfold keysM at h ⊢
    rw [List.map_append, List.nodup_append]
    refine ⟨h, by simp, ?_⟩
    intro x hx y hy e
    simp only [List.map_cons, List.map_nil, List.mem_singleton] at hy
    obtain ⟨z, hz, rfl⟩ := List.mem_map.1 hx
    exact getM_none.1 hn z hz (e.trans hy)
theorem nodup_del {l : List (α × β)} (h : (keysM l).Nodup) (a : α) : (keysM (delM l a)).Nodup := h.sublist (List.Sublist.map _ List.filter_sublist)
end

def kvL {α β : Type} (kc : α → Value) (vc : β → Value) (l : List (α × β)) : List (Value × Value) := l.map fun x => (kc x.1, vc x.2)
structure MapT {α β : Type} (kc : α → Value) (ok : α → Prop) (vc : β → Value) (w : World) (mb : Nat) (l : List (α × β)) : Prop where
  es : ∃ es clock, w.heap[mb]? = some (.map es clock) ∧ es.toList.map (fun e => (e.key, e.val)) = kvL kc vc l ∧ MapKept.Stamped es clock
  ok : ∀ x ∈ l, ok x.1
theorem MapT.keep {α β : Type} {kc : α → Value} {ok : α → Prop} {vc : β → Value} {w w' : World} {mb : Nat} {l : List (α × β)} {S : Nat → Prop} (h : MapT kc ok vc w mb l) (F : Fr w w' S) (d : Dis (One mb) S) : MapT kc ok vc w' mb l := by
  obtain ⟨⟨es, cl, hb, hk, hg⟩, h2⟩ := h
  exact ⟨⟨es, cl, F.keep hb d, hk, hg⟩, h2⟩
theorem MapT.in {α β : Type} {kc : α → Value} {ok : α → Prop} {vc : β → Value} {w : World} {mb : Nat} {l : List (α × β)} (h : MapT kc ok vc w mb l) : In w (One mb) := by
  obtain ⟨⟨es, cl, hb, _, _⟩, _⟩ := h
  exact In.one hb
theorem MapT.nil {α β : Type} (kc : α → Value) (ok : α → Prop) (vc : β → Value) {w : World} {mb : Nat} (h : w.heap[mb]? = some (.map #[] 0)) : MapT kc ok vc w mb [] := ⟨⟨#[], 0, h, rfl, MapKept.stamped_empty 0⟩, fun _ h => (by cases h)⟩
def mapRe {α β : Type} (kc : α → Value) (ok : α → Prop) (vc : β → Value) (mb : Nat) (l : List (α × β)) : Re := ⟨One mb, fun w => MapT kc ok vc w mb l, fun _ h => h.in, fun _ _ _ h F d => h.keep F d⟩
theorem kv_mem {es : List MapEntry} {α β : Type} {kc : α → Value} {vc : β → Value} {l : List (α × β)} (h : es.map (fun e => (e.key, e.val)) = kvL kc vc l) {e : MapEntry} (he : e ∈ es) : ∃ x ∈ l, e.key = kc x.1 ∧ e.val = vc x.2 := by
  have : (e.key, e.val) ∈ kvL kc vc l := h ▸ List.mem_map.2 ⟨e, he, rfl⟩
  obtain ⟨x, hx, e1⟩ := List.mem_map.1 this
  simp only [Prod.mk.injEq] at e1
  exact ⟨x, hx, e1.1.symm, e1.2.symm⟩
theorem kv_mem2 {es : List MapEntry} {α β : Type} {kc : α → Value} {vc : β → Value} {l : List (α × β)} (h : es.map (fun e => (e.key, e.val)) = kvL kc vc l) {x : α × β} (hx : x ∈ l) : ∃ e ∈ es, e.key = kc x.1 ∧ e.val = vc x.2 := by
  have : (kc x.1, vc x.2) ∈ es.map (fun e => (e.key, e.val)) := h ▸ List.mem_map.2 ⟨x, hx, rfl⟩
  obtain ⟨e, he, e1⟩ := List.mem_map.1 this
  simp only [Prod.mk.injEq] at e1
  exact ⟨e, he, e1.1, e1.2⟩
theorem keysM_nodup {es : Array MapEntry} {clock : Nat} {α β : Type} {kc : α → Value} {vc : β → Value} {l : List (α × β)} (h : es.toList.map (fun e => (e.key, e.val)) = kvL kc vc l) (hs : MapKept.Stamped es clock) : (keysM l).Nodup := by
  have h1 : es.toList.map (·.key) = (keysM l).map kc := by
    have := congrArg (List.map Prod.fst) h
    rw [List.map_map] at this
    unfold kvL at this
    rw [List.map_map] at this
    unfold keysM
    rw [List.map_map]
    exact this
  have h2 := hs.2.2
  rw [h1] at h2
  exact (List.pairwise_map.1 h2).imp fun h e => h (by rw [e])
section
variable {α β : Type} [DecidableEq α] {P : Program} {Q : Exit → Act → World → Prop} {a : Act} {w : World} {o : Oper} {K : Act → World → Prop} {kc : α → Value} {ok : α → Prop} {vc : β → Value} {mb : Nat} {l : List (α × β)} {t k e : Nat}
def lookV (cok : Bool) (z : Value) (vc : β → Value) : Option β → Value
  | none => if cok then .tuple #[z, .bool false] else z
  | some b => if cok then .tuple #[vc b, .bool true] else vc b
theorem find_spec (T : KT P k kc ok) (h : MapT kc ok vc w mb l) (x : α) (hx : ok x) : ∃ es clock, w.heap[mb]? = some (.map es clock) ∧ es.toList.map (fun e => (e.key, e.val)) = kvL kc vc l ∧ MapKept.Stamped es clock ∧
    ((getM l x = none ∧ (Instr.findKey k (kc x) es.toList).run P w = .ok none w ∧ ∀ e ∈ es.toList, e.key ≠ kc x) ∨ ∃ b j e, getM l x = some b ∧ (Instr.findKey k (kc x) es.toList).run P w = .ok (some (j, vc b)) w ∧ es[j]? = some e ∧ e.key = kc x ∧ e.val = vc b) := by
  obtain ⟨⟨es, cl, hb, hkv, hs⟩, hok⟩ := h
  refine ⟨es, cl, hb, hkv, hs, ?_⟩
  have hnd := keysM_nodup hkv hs
  rcases T.find w x hx es.toList (fun e he => by obtain ⟨y, hy, h1, _⟩ := kv_mem hkv he; exact ⟨y.1, hok y hy, h1⟩) with ⟨h1, h2⟩ | ⟨j, e, h1, h2, h3⟩
  · refine .inl ⟨getM_none.2 fun y hy he => ?_, h1, h2⟩
    obtain ⟨e, he', e1, _⟩ := kv_mem2 hkv hy
    exact h2 e he' (by rw [e1, he])
  · have hm : e ∈ es.toList := List.mem_of_getElem? h2
    obtain ⟨y, hy, e1, e2⟩ := kv_mem hkv hm
    have hyx : y.1 = x := T.inj _ _ (hok y hy) hx (e1.symm.trans h3)
    refine .inr ⟨y.2, j, e, ?_, by rw [h1, e2], by simpa using h2, h3, e2⟩
    cases hg : getM l x with
    | none => exact absurd hyx (getM_none.1 hg y hy)
    | some b =>
      have hb2 := getM_some hg
      have : y = (x, b) := by
        have hp := List.pairwise_map.1 hnd
        obtain ⟨i, hi, ei⟩ := List.mem_iff_getElem.1 hy
        obtain ⟨i', hi', ei'⟩ := List.mem_iff_getElem.1 hb2
        rcases Nat.lt_trichotomy i i' with hlt | heq | hgt
        · have := List.pairwise_iff_getElem.1 hp i i' hi hi' hlt
          rw [ei, ei'] at this; exact absurd hyx this
        · subst heq; rw [← ei, ei']
        · have := List.pairwise_iff_getElem.1 hp i' i hi' hi hgt
          rw [ei, ei'] at this; exact absurd hyx.symm this
      rw [this]
theorem run_lookT (T : KT P k kc ok) (x kx : Operand) (y : α) (cok : Bool) (z : Value) (ho : lookOf o.op = some (t, x, kx, cok)) (ht : P.underlying t = some (.map k e)) (hz : zeroT P e = some z) (hx : a.eval x = .map (some mb)) (hkx : a.eval kx = kc y)
    (h : MapT kc ok vc w mb l) (hy : ok y) : (execOp a.eval o).run P w = .ok (.value (lookV cok z vc (getM l y))) w := by
  obtain ⟨es, cl, hb, _, _, hc⟩ := find_spec T h y hy
  unfold lookOf at ho
  split at ho
  · rename_i t' x' k' ok' hop
    simp only [Option.some.injEq, Prod.mk.injEq] at ho
    obtain ⟨rfl, rfl, rfl, rfl⟩ := ho
    have e1 : execOp a.eval o = (do pure (.value (← Instr.lookup t' (a.eval x') (a.eval k') ok'))) := by unfold execOp; simp only [hop]
    rcases hc with ⟨h1, h2, _⟩ | ⟨b, j, e0, h1, h2, _⟩
    · rw [e1, hx, hkx, h1]
      simp [Instr.lookup, run_underlying ht, MapKept.run_getObj_map hb, T.check w _ y hy, h2, zeroT_run hz, Result.andThen, lookV]
    · rw [e1, hx, hkx, h1]
      simp [Instr.lookup, run_underlying ht, MapKept.run_getObj_map hb, T.check w _ y hy, h2, Result.andThen, lookV]
  · cases ho
theorem run_lookNil {P : Program} {a : Act} {w : World} {o : Oper} {t k e : Nat} (x kx : Operand) (key : Value) (cok : Bool) (z : Value) (ho : lookOf o.op = some (t, x, kx, cok)) (ht : P.underlying t = some (.map k e)) (hz : zeroT P e = some z) (hx : a.eval x = .map none) (hkx : a.eval kx = key)
    (hc : (Instr.checkKey true 10000 k key).run P w = .ok () w) (hf : (Instr.findKey k key []).run P w = .ok none w) : (execOp a.eval o).run P w = .ok (.value (if cok then .tuple #[z, .bool false] else z)) w := by
  unfold lookOf at ho
  split at ho
  · rename_i t' x' k' ok' hop
    simp only [Option.some.injEq, Prod.mk.injEq] at ho
    obtain ⟨rfl, rfl, rfl, rfl⟩ := ho
    have e1 : execOp a.eval o = (do pure (.value (← Instr.lookup t' (a.eval x') (a.eval k') ok'))) := by unfold execOp; simp only [hop]
    rw [e1, hx, hkx]
    simp [Instr.lookup, run_underlying ht, hc, hf, zeroT_run hz, Result.andThen]
  · cases ho
theorem kv_rep {es : Array MapEntry} (T : KT P k kc ok) (h : es.toList.map (fun e => (e.key, e.val)) = kvL kc vc l) (hok : ∀ x ∈ l, ok x.1) {x : α} (hx : ok x) (b : β) {j : Nat} {e : MapEntry} (hj : es[j]? = some e) (he : e.key = kc x) (hnd : (es.toList.map (·.key)).Nodup) :
    (es.modify j fun e => { e with key := kc x, val := vc b }).toList.map (fun e => (e.key, e.val)) = kvL kc vc (repM l x b) := by
  have hlen : es.toList.length = l.length := by have := congrArg List.length h; simpa [kvL] using this
  refine List.ext_getElem? fun i => ?_
  have hi := congrArg (·[i]?) h
  simp only [kvL, List.getElem?_map] at hi
  simp only [kvL, repM, List.map_map, List.getElem?_map, Array.getElem?_toList, Array.getElem?_modify]
  by_cases hij : j = i
  · subst hij
    rw [if_pos rfl, hj]
    rw [Array.getElem?_toList, hj] at hi
    cases hl : l[j]? with
    | none => rw [hl] at hi; cases hi
    | some y =>
      rw [hl] at hi
      simp only [Option.map_some, Option.some.injEq, Prod.mk.injEq, Function.comp_apply] at hi ⊢
      have : y.1 = x := T.inj _ _ (hok y (List.mem_of_getElem? hl)) hx (hi.1.symm.trans he)
      simp [this]
  · rw [if_neg hij]
    rw [Array.getElem?_toList] at hi
    cases hl : l[i]? with
    | none => rw [hl] at hi; rw [hi]; rfl
    | some y =>
      rw [hl] at hi
      rw [hi]
      have : y.1 ≠ x := by
        intro e2
        cases hei : es[i]? with
        | none => rw [hei] at hi; cases hi
        | some e' =>
          rw [hei] at hi
          simp only [Option.map_some, Option.some.injEq, Prod.mk.injEq] at hi
          have hk : e'.key = e.key := by rw [hi.1, he, e2]
          have g1 : (es.toList.map (·.key))[i]? = some e'.key := by simp [hei]
          have g2 : (es.toList.map (·.key))[j]? = some e'.key := by simp [hj, hk]
          exact hij (((List.getElem?_inj (List.getElem?_eq_some_iff.1 g1).1 hnd).1 (g1.trans g2.symm)).symm)
      simp [this]
theorem op_mapset (T : KT P k kc ok) (x kx vx : Operand) (y : α) (b : β) (ho : updOf o.op = some (t, x, kx, vx)) (ht : P.underlying t = some (.map k e)) (hx : a.eval x = .map (some mb)) (hkx : a.eval kx = kc y) (hvx : a.eval vx = vc b)
    (h : MapT kc ok vc w mb l) (hy : ok y)
    (kk : ∀ w', MapT kc ok vc w' mb (setM l y b) → w'.heap.size = w.heap.size → Fr w w' (One mb) → K (a.put o.dst undef) w') : OpW P o a w K Q := by
  obtain ⟨es, cl, hb, hkv, hs, hc⟩ := find_spec T h y hy
  have hok := h.ok
  have hokS : ∀ x ∈ setM l y b, ok x.1 := by
    intro x hx
    unfold setM at hx
    split at hx
    · obtain ⟨z, hz, rfl⟩ := List.mem_map.1 hx
      show ok (if z.1 = y then (y, b) else z).1
      split
      · exact hy
      · exact hok z hz
    · rcases List.mem_append.1 hx with hx | hx
      · exact hok x hx
      · rw [List.mem_singleton.1 hx]; exact hy
  unfold updOf at ho
  split at ho
  · rename_i t' x' k' v' hop
    simp only [Option.some.injEq, Prod.mk.injEq] at ho
    obtain ⟨rfl, rfl, rfl, rfl⟩ := ho
    have e1 : execOp a.eval o = (do Instr.mapUpdate t' (a.eval x') (a.eval k') (a.eval v'); pure .skip) := by unfold execOp; simp only [hop]
    have hlt := lt_of_get hb
    have hF : ∀ (ob : Obj), Fr w { w with heap := w.heap.setIfInBounds mb ob } (One mb) := fun ob => ⟨rfl, rfl, rfl, by simp, fun j _ hj => by
      have : mb ≠ j := fun e => hj e.symm
      simp [this]⟩
    rcases hc with ⟨h1, h2, h3⟩ | ⟨b0, j, e0, h1, h2, h3, h4, h5⟩
    · have hset : setM l y b = l ++ [(y, b)] := by unfold setM; rw [h1]; rfl
      have hst : MapKept.Stamped (es.push ⟨kc y, vc b, cl⟩) (cl + 1) := by
        refine ⟨fun x hx => ?_, ?_, ?_⟩
        · simp only [Array.toList_push, List.mem_append, List.mem_singleton] at hx
          rcases hx with hx | rfl
          · have := hs.1 x hx; omega
          · exact Nat.lt_succ_self _
        · simp only [Array.toList_push, List.map_append, List.map_cons, List.map_nil]
          rw [List.nodup_append]
          refine ⟨hs.2.1, by simp, ?_⟩
          intro p hp q hq e
          obtain ⟨x, hx, rfl⟩ := List.mem_map.1 hp
          have := hs.1 x hx
          simp only [List.mem_singleton] at hq
          omega
        · simp only [Array.toList_push, List.map_append, List.map_cons, List.map_nil]
          rw [List.nodup_append]
          refine ⟨hs.2.2, by simp, ?_⟩
          intro p hp q hq e
          obtain ⟨x, hx, rfl⟩ := List.mem_map.1 hp
          simp only [List.mem_singleton] at hq
          exact h3 x hx (e.trans hq)
      refine op_run_skip { w with heap := w.heap.setIfInBounds mb (.map (es.push ⟨kc y, vc b, cl⟩) (cl + 1)) } ?_ (kk _ ⟨⟨_, _, by simp [hlt], ?_, hst⟩, hokS⟩ (by simp) (hF _))
      · rw [e1, hx, hkx, hvx]
        simp [Instr.mapUpdate, run_underlying ht, MapKept.run_getObj_map hb, T.check w _ y hy, h2, MapKept.run_setObj_map _ hb, Result.andThen]
      · rw [hset]
        simp [kvL] at hkv ⊢
        exact hkv
    · have hset : setM l y b = repM l y b := by unfold setM; rw [h1]; rfl
      have hst : MapKept.Stamped (es.modify j fun e => { e with key := kc y, val := vc b }) cl := by
        have hb1 : (es.modify j fun e => { e with key := kc y, val := vc b }).toList.map (·.born) = es.toList.map (·.born) := by
          refine List.ext_getElem? fun i => ?_
          simp only [List.getElem?_map, Array.getElem?_toList, Array.getElem?_modify]
          split
          · cases es[i]? <;> rfl
          · rfl
        have hk1 : (es.modify j fun e => { e with key := kc y, val := vc b }).toList.map (·.key) = es.toList.map (·.key) := by
          refine List.ext_getElem? fun i => ?_
          simp only [List.getElem?_map, Array.getElem?_toList, Array.getElem?_modify]
          split
          · rename_i hij; subst hij; rw [h3]; simp [h4]
          · rfl
        refine ⟨fun x hx => ?_, by rw [hb1]; exact hs.2.1, by rw [hk1]; exact hs.2.2⟩
        have : x.born ∈ (es.modify j fun e => { e with key := kc y, val := vc b }).toList.map (·.born) := List.mem_map.2 ⟨x, hx, rfl⟩
        rw [hb1] at this
        obtain ⟨z, hz, e2⟩ := List.mem_map.1 this
        rw [← e2]; exact hs.1 z hz
      refine op_run_skip { w with heap := w.heap.setIfInBounds mb (.map (es.modify j fun e => { e with key := kc y, val := vc b }) cl) } ?_ (kk _ ⟨⟨_, _, by simp [hlt], ?_, hst⟩, hokS⟩ (by simp) (hF _))
      · rw [e1, hx, hkx, hvx]
        simp [Instr.mapUpdate, run_underlying ht, MapKept.run_getObj_map hb, T.check w _ y hy, h2, h3, h4, T.stays w y hy, MapKept.run_setObj_map _ hb, Result.andThen]
      · rw [hset]; exact kv_rep T hkv hok hy b h3 h4 hs.2.2
  · cases ho
def delOf : Op → Option (Nat × Nat × Operand × Operand)
  | .call c => match c.callee, c.args.toList, c.argTypes.toList with
    | .builtin .delete, [x, kx], [t, k] => some (t, k, x, kx)
    | _, _, _ => none
  | _ => none
theorem toList_erase {es : Array MapEntry} {j : Nat} (h : j < es.size) : (es.eraseIdxIfInBounds j).toList = es.toList.eraseIdx j := by
  unfold Array.eraseIdxIfInBounds
  rw [dif_pos h, Array.toList_eraseIdx]
theorem delM_eraseL (T : KT P k kc ok) {x : α} (hx : ok x) : ∀ (L : List MapEntry) (l : List (α × β)) (j : Nat) (e : MapEntry), L.map (fun e => (e.key, e.val)) = kvL kc vc l → (∀ y ∈ l, ok y.1) → L[j]? = some e → e.key = kc x → (L.map (·.key)).Nodup →
    (L.eraseIdx j).map (fun e => (e.key, e.val)) = kvL kc vc (delM l x)
  | [], _, _, _, _, _, hj, _, _ => by cases hj
  | y :: L, [], _, _, h, _, _, _, _ => by simp [kvL] at h
  | y :: L, z :: l, j, e, h, hok, hj, he, hnd => by
    simp only [kvL, List.map_cons, List.cons.injEq, Prod.mk.injEq] at h
    obtain ⟨⟨h1, h2⟩, h3⟩ := h
    simp only [List.map_cons, List.nodup_cons] at hnd
    cases j with
    | zero =>
      simp only [List.getElem?_cons_zero, Option.some.injEq] at hj
      subst hj
      have hz : z.1 = x := T.inj _ _ (hok z (.head _)) hx (h1.symm.trans he)
      have hno : ∀ q ∈ l, q.1 ≠ x := by
        intro q hq e3
        have : kc q.1 ∈ L.map (·.key) := by
          obtain ⟨e', he', e1, _⟩ := kv_mem2 (vc := vc) h3 hq
          exact List.mem_map.2 ⟨e', he', e1⟩
        exact hnd.1 (by rw [he, ← e3]; exact this)
      rw [List.eraseIdx_cons_zero, delM, List.filter_cons, if_neg (by simp [hz]), List.filter_eq_self.2 (fun q hq => by simpa using hno q hq)]
      exact h3
    | succ j =>
      simp only [List.getElem?_cons_succ] at hj
      have hz : z.1 ≠ x := by
        intro e3
        exact hnd.1 (List.mem_map.2 ⟨e, List.mem_of_getElem? hj, by rw [he, h1, e3]⟩)
      rw [List.eraseIdx_cons_succ, delM, List.filter_cons, if_pos (by simp [hz])]
      simp only [kvL, List.map_cons, List.cons.injEq, Prod.mk.injEq]
      exact ⟨⟨h1, h2⟩, delM_eraseL T hx L l j e h3 (fun q hq => hok q (.tail _ hq)) hj he hnd.2⟩
theorem delM_erase {es : Array MapEntry} (T : KT P k kc ok) (h : es.toList.map (fun e => (e.key, e.val)) = kvL kc vc l) (hok : ∀ x ∈ l, ok x.1) {x : α} (hx : ok x) {j : Nat} {e : MapEntry} (hj : es[j]? = some e) (he : e.key = kc x) (hnd : (es.toList.map (·.key)).Nodup) :
    (es.eraseIdxIfInBounds j).toList.map (fun e => (e.key, e.val)) = kvL kc vc (delM l x) := by
  have hlt : j < es.size := by
    rcases Nat.lt_or_ge j es.size with h1 | h1
    · exact h1
    · rw [Array.getElem?_eq_none h1] at hj; cases hj
  rw [toList_erase hlt]
  exact delM_eraseL T hx es.toList l j e h hok (by simpa using hj) he hnd
theorem op_mapdel (T : KT P k kc ok) (x kx : Operand) (y : α) (ho : delOf o.op = some (t, k, x, kx)) (ht : P.underlying t = some (.map k e)) (hx : a.eval x = .map (some mb)) (hkx : a.eval kx = kc y)
    (h : MapT kc ok vc w mb l) (hy : ok y)
    (kk : ∀ w', MapT kc ok vc w' mb (delM l y) → w'.heap.size = w.heap.size → Fr w w' (One mb) → K (a.put o.dst (.tuple #[])) w') : OpW P o a w K Q := by
  obtain ⟨es, cl, hb, hkv, hs, hc⟩ := find_spec T h y hy
  have hok := h.ok
  have hokD : ∀ x ∈ delM l y, ok x.1 := fun x hx => hok x (List.mem_filter.1 hx).1
  have hlt := lt_of_get hb
  have hF : ∀ (ob : Obj), Fr w { w with heap := w.heap.setIfInBounds mb ob } (One mb) := fun ob => ⟨rfl, rfl, rfl, by simp, fun j _ hj => by
    have : mb ≠ j := fun e => hj e.symm
    simp [this]⟩
  unfold delOf at ho
  split at ho
  · rename_i c hcal
    split at ho
    · rename_i h1 h2 h3
      simp only [Option.some.injEq, Prod.mk.injEq] at ho
      obtain ⟨rfl, rfl, rfl, rfl⟩ := ho
      obtain ⟨cal, args, tys⟩ := c
      simp only at h1 h2 h3
      obtain rfl : args = #[_, _] := by rw [← Array.toArray_toList (xs := args), h2]
      obtain rfl : tys = #[_, _] := by rw [← Array.toArray_toList (xs := tys), h3]
      subst h1
      rcases hc with ⟨g1, g2, g3⟩ | ⟨b0, j, e0, g1, g2, g3, g4, g5⟩
      · have hd : delM l y = l := List.filter_eq_self.2 fun x hx => by simpa using getM_none.1 g1 x hx
        refine op_run (.tuple #[]) { w with heap := w.heap.setIfInBounds mb (.map es cl) } ?_ (kk _ ⟨⟨_, _, by simp [hlt], by rw [hd]; exact hkv, hs⟩, hokD⟩ (by simp) (hF _))
        unfold execOp
        simp [hcal, resolve, invoke, builtin, hx, hkx, Builtin.delete_, run_underlying ht, MapKept.run_getObj_map hb, T.check w _ y hy, g2, MapKept.run_setObj_map _ hb, Result.andThen]
      · have hst : MapKept.Stamped (es.eraseIdxIfInBounds j) cl := by
          have e1 : (es.eraseIdxIfInBounds j).toList = es.toList.eraseIdx j := toList_erase (by rcases Nat.lt_or_ge j es.size with h1 | h1; exact h1; rw [Array.getElem?_eq_none h1] at g3; cases g3)
          have hsub : (es.eraseIdxIfInBounds j).toList.Sublist es.toList := by rw [e1]; exact List.eraseIdx_sublist _ _
          exact ⟨fun x hx => hs.1 x (hsub.mem hx), hs.2.1.sublist (hsub.map _), hs.2.2.sublist (hsub.map _)⟩
        refine op_run (.tuple #[]) { w with heap := w.heap.setIfInBounds mb (.map (es.eraseIdxIfInBounds j) cl) } ?_ (kk _ ⟨⟨_, _, by simp [hlt], delM_erase T hkv hok hy g3 g4 hs.2.2, hst⟩, hokD⟩ (by simp) (hF _))
        unfold execOp
        simp [hcal, resolve, invoke, builtin, hx, hkx, Builtin.delete_, run_underlying ht, MapKept.run_getObj_map hb, T.check w _ y hy, g2, MapKept.run_setObj_map _ hb, Result.andThen]
    · cases ho
  · cases ho
omit [DecidableEq α] in
theorem run_lenT (x : Operand) (ho : lenOf o.op = some (t, x)) (ht : P.underlying t = some (.map k e)) (hx : a.eval x = .map (some mb)) (h : MapT kc ok vc w mb l) : (execOp a.eval o).run P w = .ok (.value (.int .i64 (l.length : Int))) w := by
  obtain ⟨⟨es, cl, hb, hkv, _⟩, _⟩ := h
  have hl : es.size = l.length := by have := congrArg List.length hkv; simpa [kvL] using this
  unfold lenOf at ho
  split at ho
  · rename_i c hc
    split at ho
    · rename_i h1 h2 h3
      simp only [Option.some.injEq, Prod.mk.injEq] at ho
      obtain ⟨rfl, rfl⟩ := ho
      obtain ⟨cal, args, tys⟩ := c
      simp only at h1 h2 h3
      obtain rfl : args = #[_] := by rw [← Array.toArray_toList (xs := args), h2]
      obtain rfl : tys = #[_] := by rw [← Array.toArray_toList (xs := tys), h3]
      subst h1
      unfold execOp
      simp [hc, resolve, invoke, builtin, hx, Builtin.len_, run_underlying ht, MapKept.run_getObj_map hb, goInt, Result.andThen, hl]
    · cases ho
  · cases ho
end
/-! ### by the machine -/
def lkT (s : St) : Nat := ((lookOf (cur s).op).getD (0, .tmp 0, .tmp 0, false)).1
def lkX (s : St) : Operand := ((lookOf (cur s).op).getD (0, .tmp 0, .tmp 0, false)).2.1
def lkK (s : St) : Operand := ((lookOf (cur s).op).getD (0, .tmp 0, .tmp 0, false)).2.2.1
def lkC (s : St) : Bool := ((lookOf (cur s).op).getD (0, .tmp 0, .tmp 0, false)).2.2.2
def upT (s : St) : Nat := ((updOf (cur s).op).getD (0, .tmp 0, .tmp 0, .tmp 0)).1
def upX (s : St) : Operand := ((updOf (cur s).op).getD (0, .tmp 0, .tmp 0, .tmp 0)).2.1
def upK (s : St) : Operand := ((updOf (cur s).op).getD (0, .tmp 0, .tmp 0, .tmp 0)).2.2.1
def upV (s : St) : Operand := ((updOf (cur s).op).getD (0, .tmp 0, .tmp 0, .tmp 0)).2.2.2
def dlT (s : St) : Nat := ((delOf (cur s).op).getD (0, 0, .tmp 0, .tmp 0)).1
def dlN (s : St) : Nat := ((delOf (cur s).op).getD (0, 0, .tmp 0, .tmp 0)).2.1
def dlX (s : St) : Operand := ((delOf (cur s).op).getD (0, 0, .tmp 0, .tmp 0)).2.2.1
def dlK (s : St) : Operand := ((delOf (cur s).op).getD (0, 0, .tmp 0, .tmp 0)).2.2.2
def mlT (s : St) : Nat := ((lenOf (cur s).op).getD (0, .tmp 0)).1
def mlX (s : St) : Operand := ((lenOf (cur s).op).getD (0, .tmp 0)).2
def mapTy (P : Program) (t : Nat) : Option (Nat × Nat) := match P.underlying t with | some (.map k e) => some (k, e) | _ => none
theorem mapTy_spec {P : Program} {t k e : Nat} (h : mapTy P t = some (k, e)) : P.underlying t = some (.map k e) := by
  unfold mapTy at h
  split at h
  · rename_i k' e' hq; cases h; exact hq
  · cases h
section
variable {α β : Type} [DecidableEq α] {P : Program} {Q : Exit → Act → World → Prop} {L : List Iv} {s : St} {RO FZ OW : List Rc} {kc : α → Value} {ok : α → Prop} {vc : β → Value} {k : Nat}
theorem m_look (n i : Nat) (T : KT P k kc ok) (vc : β → Value) (mb : Nat) (l : List (α × β)) (y : α) (hy : ok y) (e : Nat) (z : Value)
    (k0 : getM l y = none → J P Q L (nx (go P n s) (lookV (lkC (go P n s)) z vc none)) RO FZ OW)
    (k1 : ∀ b, getM l y = some b → J P Q L (nx (go P n s) (lookV (lkC (go P n s)) z vc (some b))) RO FZ OW)
    (hr : gr (RO ++ (FZ ++ OW)) i = .gen (mapRe kc ok vc mb l) := by kernel_rfl) (h1 : (go P n s).a.eval (lkX (go P n s)) = .map (some mb) := by kernel_rfl) (h2 : (go P n s).a.eval (lkK (go P n s)) = kc y := by kernel_rfl)
    (h3 : zeroT P e = some z := by kernel_rfl) (h4 : mapTy P (lkT (go P n s)) = some (k, e) := by kernel_rfl)
    (hc : ((lookOf (cur (go P n s)).op).isSome && (onW (go P n s) && rdOk (go P n s) i (RO ++ FZ).length)) = true := by kernel_rfl) : J P Q L s RO FZ OW := by
  simp only [Bool.and_eq_true] at hc
  obtain ⟨h5, h8, h9⟩ := hc
  have ho : lookOf (cur (go P n s)).op = some (lkT (go P n s), lkX (go P n s), lkK (go P n s), lkC (go P n s)) := by
    unfold lkT lkX lkK lkC
    cases hl : lookOf (cur (go P n s)).op with
    | none => rw [hl] at h5; cases h5
    | some x => rfl
  refine m_r n i (lookV (lkC (go P n s)) z vc (getM l y)) (fun w hA => ?_) ?_ h8 h9
  · rw [hr] at hA
    exact run_lookT T _ _ y _ z ho (mapTy_spec h4) h3 h1 h2 hA hy
  · cases hg : getM l y with
    | none => exact k0 hg
    | some b => exact k1 b hg
omit [DecidableEq α] in
theorem m_mlen (n i : Nat) (vc : β → Value) (kc : α → Value) (ok : α → Prop) (mb : Nat) (l : List (α × β)) (e k : Nat) (kk : J P Q L (nx (go P n s) (.int .i64 (l.length : Int))) RO FZ OW)
    (hr : gr (RO ++ (FZ ++ OW)) i = .gen (mapRe kc ok vc mb l) := by kernel_rfl) (h1 : (go P n s).a.eval (mlX (go P n s)) = .map (some mb) := by kernel_rfl) (h4 : mapTy P (mlT (go P n s)) = some (k, e) := by kernel_rfl)
    (hc : ((lenOf (cur (go P n s)).op).isSome && (onW (go P n s) && rdOk (go P n s) i (RO ++ FZ).length)) = true := by kernel_rfl) : J P Q L s RO FZ OW := by
  simp only [Bool.and_eq_true] at hc
  obtain ⟨h5, h8, h9⟩ := hc
  have ho : lenOf (cur (go P n s)).op = some (mlT (go P n s), mlX (go P n s)) := by
    unfold mlT mlX
    cases hl : lenOf (cur (go P n s)).op with
    | none => rw [hl] at h5; cases h5
    | some x => rfl
  refine m_r n i _ (fun w hA => ?_) kk h8 h9
  rw [hr] at hA
  exact run_lenT _ ho (mapTy_spec h4) h1 hA
theorem gr_get {H : List Rc} {i : Nat} {r : Re} (h : gr H i = .gen r) : H[i]? = some (.gen r) := by
  unfold gr at h
  rw [List.getD_eq_getElem?_getD] at h
  cases hi : H[i]? with
  | none => rw [hi] at h; cases h
  | some x => rw [hi, Option.getD_some] at h; rw [h]
theorem m_mset (n i : Nat) (T : KT P k kc ok) (vc : β → Value) (mb : Nat) (l : List (α × β)) (y : α) (b : β) (hy : ok y) (e : Nat)
    (kk : J P Q L (nx (go P n s) undef) RO FZ (OW.set i (.gen (mapRe kc ok vc mb (setM l y b)))))
    (hr : gr OW i = .gen (mapRe kc ok vc mb l) := by kernel_rfl) (h1 : (go P n s).a.eval (upX (go P n s)) = .map (some mb) := by kernel_rfl) (h2 : (go P n s).a.eval (upK (go P n s)) = kc y := by kernel_rfl) (h3 : (go P n s).a.eval (upV (go P n s)) = vc b := by kernel_rfl)
    (h4 : mapTy P (upT (go P n s)) = some (k, e) := by kernel_rfl)
    (hc : ((updOf (cur (go P n s)).op).isSome && (acts (go P n s) && onW (go P n s))) = true := by kernel_rfl) : J P Q L s RO FZ OW := by
  rw [Bool.and_eq_true] at hc
  refine m_act n (fun w hw _ => ?_) hc.2
  have h5 := hc.1
  have ho : updOf (cur (go P n s)).op = some (upT (go P n s), upX (go P n s), upK (go P n s), upV (go P n s)) := by
    unfold upT upX upK upV
    cases hl : updOf (cur (go P n s)).op with
    | none => rw [hl] at h5; cases h5
    | some x => rfl
  have hi := gr_get hr
  have hA : MapT kc ok vc w mb l := hw.a (.gen (mapRe kc ok vc mb l)) (by simp only [List.mem_append]; exact .inr (.inr (List.mem_of_getElem? hi)))
  exact op_mapset T _ _ _ y b ho (mapTy_spec h4) h1 h2 h3 hA hy fun w' hM _ F => ⟨_, _, rfl, Hs.set (r' := .gen (mapRe kc ok vc mb (setM l y b))) hw hi F hM (New.refl _ _), kk⟩
theorem m_mdel (n i : Nat) (T : KT P k kc ok) (vc : β → Value) (mb : Nat) (l : List (α × β)) (y : α) (hy : ok y) (e : Nat)
    (kk : J P Q L (nx (go P n s) (.tuple #[])) RO FZ (OW.set i (.gen (mapRe kc ok vc mb (delM l y)))))
    (hr : gr OW i = .gen (mapRe kc ok vc mb l) := by kernel_rfl) (h1 : (go P n s).a.eval (dlX (go P n s)) = .map (some mb) := by kernel_rfl) (h2 : (go P n s).a.eval (dlK (go P n s)) = kc y := by kernel_rfl)
    (h4 : mapTy P (dlT (go P n s)) = some (k, e) := by kernel_rfl) (h6 : dlN (go P n s) = k := by kernel_rfl)
    (hc : ((delOf (cur (go P n s)).op).isSome && (acts (go P n s) && onW (go P n s))) = true := by kernel_rfl) : J P Q L s RO FZ OW := by
  rw [Bool.and_eq_true] at hc
  refine m_act n (fun w hw _ => ?_) hc.2
  have h5 := hc.1
  have ho : delOf (cur (go P n s)).op = some (dlT (go P n s), k, dlX (go P n s), dlK (go P n s)) := by
    rw [← h6]
    unfold dlT dlX dlK dlN
    cases hl : delOf (cur (go P n s)).op with
    | none => rw [hl] at h5; cases h5
    | some x => rfl
  have hi := gr_get hr
  have hA : MapT kc ok vc w mb l := hw.a (.gen (mapRe kc ok vc mb l)) (by simp only [List.mem_append]; exact .inr (.inr (List.mem_of_getElem? hi)))
  exact op_mapdel T _ _ y ho (mapTy_spec h4) h1 h2 hA hy fun w' hM _ F => ⟨_, _, rfl, Hs.set (r' := .gen (mapRe kc ok vc mb (delM l y))) hw hi F hM (New.refl _ _), kk⟩
omit [DecidableEq α] in
theorem m_mnew (n : Nat) (kc : α → Value) (ok : α → Prop) (vc : β → Value) (kk : ∀ mb, J P Q L (nx (go P n s) (.map (some mb))) RO FZ (.gen (mapRe kc ok vc mb ([] : List (α × β))) :: OW))
    (h : ∀ N, newStep P (go P n s).a (cur (go P n s)) N = some (.map #[] 0, .map (some N)) := by intro _; kernel_rfl) (hc : (acts (go P n s) && onW (go P n s)) = true := by kernel_rfl) : J P Q L s RO FZ OW :=
  m_act n (fun w hw _ => op_new _ _ h fun w' b hb he F => ⟨_, _, rfl, Hs.new (r := .gen (mapRe kc ok vc b [])) hw F (MapT.nil kc ok vc hb) (fun i hi => by rw [show i = b from hi, he]; exact Nat.le_refl _), kk b⟩) hc
end
end Go.Alm

/- Layer 15, plainly: a tree of accounts. -/
namespace Go.Alm
open Go Go.RowKit
abbrev TM := List (Int × Acct)
def kAny (_ : Int) : Prop := True
def accV (a : Acct) : Value := .agg a.cells
def accHa (a : Acct) : List Nat := accH a.s a.bal a.non
theorem accHa_ok (a : Acct) : H32 (accHa a) := ⟨accH_length _ _ _, accH_byt _ _ _⟩
theorem accNone_ok : H32 accNone := ⟨accNone_length, accNone_byt⟩
instance : Inhabited Acct := ⟨acct0⟩
theorem acct0_ok : acct0.Ok := ⟨by decide, by decide, by decide⟩
def nodeS : ByteArray := ⟨#[110, 111, 100, 101]⟩
def joinL (h : Nat) (l r : List Nat) : List Nat := tagL (sB nodeS) [⟨none, 0, [h]⟩, ⟨none, 0, l⟩, ⟨none, 0, r⟩]
theorem joinL_eq (h : Nat) (l r : List Nat) (a b c : Option Addr) (x y z : Nat) : tagL (sB nodeS) [⟨a, x, [h]⟩, ⟨b, y, l⟩, ⟨c, z, r⟩] = joinL h l r := rfl
theorem joinL_ok (h : Nat) (l r : List Nat) : H32 (joinL h l r) := ⟨tagL_length _ _, tagL_byt _ _⟩
def leafL : Option Acct → List Nat
  | some a => accHa a
  | none => accNone
theorem leafL_ok (o : Option Acct) : H32 (leafL o) := by
  cases o with
  | none => exact accNone_ok
  | some a => exact accHa_ok a
/-- A node's digest, by its height and number. -/
def nodeL (g : Int → Option Acct) : Nat → Nat → List Nat
  | 0, q => leafL (g (q : Int))
  | h + 1, q => joinL (h + 1) (nodeL g h (2 * q)) (nodeL g h (2 * q + 1))
theorem nodeL_ok (g : Int → Option Acct) (h q : Nat) : H32 (nodeL g h q) := by
  cases h with
  | zero => exact leafL_ok _
  | succ h => exact joinL_ok _ _ _
def bareL : Nat → List Nat
  | 0 => accNone
  | h + 1 => joinL (h + 1) (bareL h) (bareL h)
theorem bareL_ok (h : Nat) : H32 (bareL h) := by
  cases h with
  | zero => exact accNone_ok
  | succ h => exact joinL_ok _ _ _
theorem nodeL_congr {g g' : Int → Option Acct} : ∀ (h q : Nat), (∀ k : Nat, q * 2 ^ h ≤ k → k < (q + 1) * 2 ^ h → g k = g' k) → nodeL g h q = nodeL g' h q
  | 0, q, e => by
    show leafL _ = leafL _
    rw [e q (by omega) (by omega)]
  | h + 1, q, e => by
    have e1 : (2 * q) * 2 ^ h = q * 2 ^ (h + 1) := by rw [Nat.pow_succ]; rw [Nat.mul_comm 2 q, Nat.mul_assoc, Nat.mul_comm 2]
    have e2 : (2 * q + 1 + 1) * 2 ^ h = (q + 1) * 2 ^ (h + 1) := by rw [show 2 * q + 1 + 1 = (q + 1) * 2 by omega, Nat.mul_assoc, Nat.pow_succ, Nat.mul_comm 2]
    have e3 : (2 * q + 1) * 2 ^ h = (2 * q) * 2 ^ h + 2 ^ h := Nat.succ_mul _ _
    have e4 : (2 * q + 1 + 1) * 2 ^ h = (2 * q + 1) * 2 ^ h + 2 ^ h := Nat.succ_mul _ _
    show joinL _ _ _ = joinL _ _ _
    rw [nodeL_congr h (2 * q) (fun k h1 h2 => e k (by omega) (by omega)), nodeL_congr h (2 * q + 1) (fun k h1 h2 => e k (by omega) (by omega))]
theorem nodeL_none : ∀ (h q : Nat), nodeL (fun _ => none) h q = bareL h
  | 0, _ => rfl
  | h + 1, q => by
    show joinL _ _ _ = joinL _ _ _
    rw [nodeL_none h, nodeL_none h]
/-- No place below a node has an account. -/
def Bare (M : TM) (h q : Nat) : Prop := ∀ k : Nat, q * 2 ^ h ≤ k → k < (q + 1) * 2 ^ h → getM M (k : Int) = none
open Classical in
noncomputable instance (M : TM) (h q : Nat) : Decidable (Bare M h q) := inferInstance
theorem nodeL_bare {M : TM} {h q : Nat} (e : Bare M h q) : nodeL (getM M) h q = bareL h := by
  rw [nodeL_congr (g' := fun _ => none) h q e, nodeL_none]
/-- A ledger: each place once, among 16, with an account that is right. -/
structure TrOk (M : TM) : Prop where
  nd : (keysM M).Nodup
  rng : ∀ x ∈ M, 0 ≤ x.1 ∧ x.1 < 16
  ok : ∀ x ∈ M, x.2.Ok
  rt : ∀ x ∈ M, rightS x.2.s = true
theorem TrOk.nil : TrOk [] := ⟨List.nodup_nil, fun _ h => (by cases h), fun _ h => (by cases h), fun _ h => (by cases h)⟩
theorem mem_set {M : TM} {p : Int} {a : Acct} {x : Int × Acct} (h : x ∈ setM M p a) : x ∈ M ∨ x = (p, a) := by
  unfold setM at h
  split at h
  · unfold repM at h
    obtain ⟨y, hy, e⟩ := List.mem_map.1 h
    split at e
    · exact .inr e.symm
    · exact .inl (e ▸ hy)
  · rcases List.mem_append.1 h with h | h
    · exact .inl h
    · exact .inr (List.mem_singleton.1 h)
theorem TrOk.set {M : TM} (h : TrOk M) {p : Int} {a : Acct} (hp : 0 ≤ p ∧ p < 16) (ha : a.Ok) (hr : rightS a.s = true) : TrOk (setM M p a) where
  nd := nodup_set h.nd p a
  rng x hx := (mem_set hx).elim (h.rng x) (fun e => by rw [e]; exact hp)
  ok x hx := (mem_set hx).elim (h.ok x) (fun e => by rw [e]; exact ha)
  rt x hx := (mem_set hx).elim (h.rt x) (fun e => by rw [e]; exact hr)
theorem TrOk.del {M : TM} (h : TrOk M) (p : Int) : TrOk (delM M p) where
  nd := nodup_del h.nd p
  rng x hx := h.rng x ((List.mem_filter.1 hx).1)
  ok x hx := h.ok x ((List.mem_filter.1 hx).1)
  rt x hx := h.rt x ((List.mem_filter.1 hx).1)
theorem TrOk.get {M : TM} (h : TrOk M) {p : Int} {a : Acct} (e : getM M p = some a) : 0 ≤ p ∧ p < 16 ∧ a.Ok ∧ rightS a.s = true := by
  have := getM_some e
  exact ⟨(h.rng _ this).1, (h.rng _ this).2, h.ok _ this, h.rt _ this⟩
theorem TrOk.out {M : TM} (h : TrOk M) {p : Int} (e : p < 0 ∨ 16 ≤ p) : getM M p = none := by
  cases hg : getM M p with
  | none => rfl
  | some a => have := h.get hg; omega
def acctAt (M : TM) (p : Int) : Acct := (getM M p).getD acct0
def hasAt (M : TM) (p : Int) : Bool := (getM M p).isSome
theorem acctAt_ok {M : TM} (h : TrOk M) (p : Int) : (acctAt M p).Ok := by
  unfold acctAt
  cases hg : getM M p with
  | none => exact acct0_ok
  | some a => exact (h.get hg).2.2.1
theorem has_yes {M : TM} {p : Int} (h : hasAt M p = true) : getM M p = some (acctAt M p) := by
  unfold hasAt at h; unfold acctAt
  cases hg : getM M p with
  | none => rw [hg] at h; cases h
  | some a => rfl
theorem has_no {M : TM} {p : Int} (h : hasAt M p = false) : getM M p = none := by
  unfold hasAt at h
  cases hg : getM M p with
  | none => rfl
  | some a => rw [hg] at h; cases h
theorem acctAt_no {M : TM} {p : Int} (h : hasAt M p = false) : acctAt M p = acct0 := by unfold acctAt; rw [has_no h]; rfl
/-! ### how many -/
def cntM (M : TM) : Nat → Nat
  | 0 => 0
  | n + 1 => cntM M n + (if hasAt M (n : Int) = true then 1 else 0)
theorem getM_cons (x : Int × Acct) (M : TM) (p : Int) : getM (x :: M) p = if x.1 = p then some x.2 else getM M p := rfl
theorem cnt_cons {x : Int × Acct} {M : TM} (h : getM M x.1 = none) (h0 : 0 ≤ x.1) : ∀ n : Nat, cntM (x :: M) n = cntM M n + (if x.1 < (n : Int) then 1 else 0)
  | 0 => by rw [if_neg (by omega)]; rfl
  | n + 1 => by
    unfold cntM
    rw [cnt_cons h h0 n]
    unfold hasAt
    rw [getM_cons]
    by_cases e : x.1 = (n : Int)
    · rw [if_pos e, if_neg (show ¬ x.1 < (n : Int) by omega), if_pos (show x.1 < ((n + 1 : Nat) : Int) by omega), ← e, h]; simp
    · rw [if_neg e]
      by_cases e2 : x.1 < (n : Int)
      · rw [if_pos e2, if_pos (show x.1 < ((n + 1 : Nat) : Int) by omega)]; omega
      · rw [if_neg e2, if_neg (show ¬ x.1 < ((n + 1 : Nat) : Int) by omega)]; omega
theorem cnt_len : ∀ {M : TM}, TrOk M → M.length = cntM M 16
  | [], _ => by
    have : ∀ n, cntM [] n = 0 := fun n => by
      induction n with
      | zero => rfl
      | succ n ih => unfold cntM; rw [ih]; rfl
    rw [this]; rfl
  | x :: M, h => by
    have hx := h.rng x (.head _)
    have hnd : x.1 ∉ keysM M ∧ (keysM M).Nodup := List.nodup_cons.1 h.nd
    have hn : getM M x.1 = none := getM_none.2 fun y hy e => hnd.1 (List.mem_map.2 ⟨y, hy, e⟩)
    have ih := cnt_len (M := M) ⟨hnd.2, fun y hy => h.rng y (.tail _ hy), fun y hy => h.ok y (.tail _ hy), fun y hy => h.rt y (.tail _ hy)⟩
    rw [cnt_cons hn hx.1, if_pos (by omega), ← ih]; rfl
theorem cnt_le (M : TM) (n : Nat) : cntM M n ≤ n := by
  induction n with
  | zero => exact Nat.le_refl 0
  | succ n ih => unfold cntM; split <;> omega
theorem len_le {M : TM} (h : TrOk M) : M.length ≤ 16 := by rw [cnt_len h]; exact cnt_le M 16
/-! ### paths -/
def sib (n : Nat) : Nat := if n % 2 = 0 then n + 1 else n - 1
def pathL (g : Int → Option Acct) (p : Nat) (h : Nat) : List Nat := nodeL g h (sib (p / 2 ^ h))
/-- One step up. -/
theorem step_l {g : Int → Option Acct} {h n : Nat} (e : n % 2 = 0) : joinL (h + 1) (nodeL g h n) (nodeL g h (sib n)) = nodeL g (h + 1) (n / 2) := by
  show _ = joinL _ _ _
  rw [sib, if_pos e, show 2 * (n / 2) = n by omega]
theorem step_r {g : Int → Option Acct} {h n : Nat} (e : ¬ n % 2 = 0) : joinL (h + 1) (nodeL g h (sib n)) (nodeL g h n) = nodeL g (h + 1) (n / 2) := by
  show _ = joinL _ _ _
  rw [sib, if_neg e, show 2 * (n / 2) = n - 1 by omega, show n - 1 + 1 = n by omega]
/-- A path doesn't hang on its own place. -/
theorem path_own {g g' : Int → Option Acct} {p : Nat} (e : ∀ k : Nat, k ≠ p → g k = g' k) (h : Nat) : pathL g p h = pathL g' p h := by
  unfold pathL
  refine nodeL_congr h _ fun k h1 h2 => e k fun hk => ?_
  subst hk
  have hp : 0 < 2 ^ h := Nat.two_pow_pos h
  have h3 := Nat.div_add_mod k (2 ^ h)
  have h4 := Nat.mod_lt k hp
  generalize hq : k / 2 ^ h = q at *
  have hs : sib q < q ∨ q < sib q := by unfold sib; split <;> omega
  rcases hs with hs | hs
  · have : (sib q + 1) * 2 ^ h ≤ q * 2 ^ h := Nat.mul_le_mul_right _ hs
    rw [Nat.mul_comm] at h3; omega
  · have : (q + 1) * 2 ^ h ≤ sib q * 2 ^ h := Nat.mul_le_mul_right _ hs
    rw [Nat.succ_mul] at this; rw [Nat.mul_comm] at h3; omega
/-- The root hangs on the 16 places alone. -/
theorem root_congr {g g' : Int → Option Acct} (e : ∀ k : Nat, k < 16 → g k = g' k) : nodeL g 4 0 = nodeL g' 4 0 := nodeL_congr 4 0 fun k _ h => e k (by simpa using h)
/-! ### acts -/
structure AAct where
  do_ : Int
  place : Int
  a : Acct
def i64Ok (x : Int) : Prop := -9223372036854775808 ≤ x ∧ x ≤ 9223372036854775807
structure AAct.Ok (x : AAct) : Prop where
  do_ : i64Ok x.do_
  place : i64Ok x.place
  a : x.a.Ok
def AAct.cells (x : AAct) : Array Value := aj #[.int .i64 x.do_, .int .i64 x.place] x.a.cells
instance : Inhabited AAct := ⟨⟨0, 0, acct0⟩⟩
theorem AAct.size (x : AAct) : x.cells.size = 5 := rfl
theorem AAct.ones (x : AAct) : x.cells.toList.all (·.oneCell') = true := rfl
theorem AAct.one (x : AAct) : ∀ u ∈ x.cells.toList, u.oneCell' = true := fun u hu => List.all_eq_true.1 x.ones u hu
theorem Acct.size (x : Acct) : x.cells.size = 3 := rfl
theorem Acct.ones (x : Acct) : x.cells.toList.all (·.oneCell') = true := rfl
def AllA (l : List AAct) : Prop := ∀ x ∈ l, x.Ok
theorem AllA.get {l : List AAct} (h : AllA l) {i : Nat} (hi : i < l.length) : (l.getD i default).Ok := by
  rw [List.getD_eq_getElem?_getD, List.getElem?_eq_getElem hi, Option.getD_some]
  exact h _ (List.getElem_mem hi)
def placeOk (p : Int) : Prop := 0 ≤ p ∧ p < 16
instance (p : Int) : Decidable (placeOk p) := inferInstanceAs (Decidable (_ ∧ _))
def setE (p : Int) (a : Acct) : Nat := if placeOk p ∧ rightS a.s = true then 0 else 1
def setT (M : TM) (p : Int) (a : Acct) : TM := if placeOk p ∧ rightS a.s = true then setM M p a else M
def actM (M : TM) (x : AAct) : TM := if x.do_ = 0 then setT M x.place x.a else if x.do_ = 1 then delM M x.place else M
def actE (x : AAct) : Nat := if x.do_ = 0 then setE x.place x.a else 0
def actB (M : TM) (x : AAct) : Bool := if x.do_ = 0 then false else if x.do_ = 1 then hasAt M x.place else false
theorem setT_ok {M : TM} (h : TrOk M) {p : Int} {a : Acct} (ha : a.Ok) : TrOk (setT M p a) := by
  unfold setT; split
  · rename_i e; exact h.set e.1 ha e.2
  · exact h
theorem actM_ok {M : TM} (h : TrOk M) {x : AAct} (hx : x.Ok) : TrOk (actM M x) := by
  unfold actM; split
  · exact setT_ok h hx.a
  · split
    · exact h.del _
    · exact h
theorem getM_setT (M : TM) (p : Int) (a : Acct) (c : Int) : getM (setT M p a) c = if (placeOk p ∧ rightS a.s = true) ∧ p = c then some a else getM M c := by
  unfold setT
  by_cases h : placeOk p ∧ rightS a.s = true
  · rw [if_pos h, getM_set]
    by_cases e : p = c
    · rw [if_pos e, if_pos ⟨h, e⟩]
    · rw [if_neg e, if_neg (fun q => e q.2)]
  · rw [if_neg h, if_neg (fun q => h q.1)]
theorem getM_act {M : TM} {x : AAct} {c : Int} (h : c ≠ x.place) : getM (actM M x) c = getM M c := by
  unfold actM; split
  · rw [getM_setT, if_neg (fun q => h q.2.symm)]
  · split
    · rw [getM_del, if_neg (fun q => h q.symm)]
    · rfl
theorem getM_still {M : TM} {x : AAct} (h : ¬ ((x.do_ = 0 ∧ actE x = 0) ∨ actB M x = true)) (c : Int) : getM (actM M x) c = getM M c := by
  unfold actE actB at h
  unfold actM
  by_cases h0 : x.do_ = 0
  · rw [if_pos h0] at h ⊢
    rw [if_pos h0] at h
    unfold setE at h
    rw [getM_setT]
    by_cases e : placeOk x.place ∧ rightS x.a.s = true
    · rw [if_pos e] at h; exact absurd (.inl ⟨h0, rfl⟩) h
    · rw [if_neg (fun q => e q.1)]
  · rw [if_neg h0] at h ⊢
    by_cases h1 : x.do_ = 1
    · rw [if_neg h0, if_pos h1] at h
      rw [if_pos h1]
      rw [getM_del]
      split
      · rename_i e
        subst e
        have : hasAt M x.place = false := by
          cases hh : hasAt M x.place with
          | false => rfl
          | true => exact absurd (.inr hh) h
        exact (has_no this).symm
      · rfl
    · rw [if_neg h1]
end Go.Alm

/- Values of functions that are called; a range over a function: its rounds by the machine. -/
namespace Go.Alm
open Go Go.RowKit

/-! ### a value is called -/
def calleeO (o : Oper) (a : Act) : Option (Fn × Array Value × Array Value) := match o.op with
  | .call c => match c.callee with
    | .value g => match a.eval g with
      | .func fn first cap => some (fn, first ++ c.args.map a.eval, cap)
      | _ => none
    | _ => none
  | _ => none
theorem calleeO_run {P : Program} {o : Oper} {a : Act} {fn : Fn} {xs cap : Array Value} (h : calleeO o a = some (fn, xs, cap)) (w : World) : (execOp a.eval o).run P w = (invoke (.fn fn cap) xs).run P w := by
  unfold calleeO at h
  split at h
  · rename_i c hc
    split at h
    · rename_i g hg
      split at h
      · rename_i fn' first cap' he
        simp only [Option.some.injEq, Prod.mk.injEq] at h
        obtain ⟨rfl, rfl, rfl⟩ := h
        unfold execOp
        simp only [hc, resolve, hg, he, Deferred.ofValue, Sem.run_bind, Sem.run_pure, Result.andThen_ok]
      · cases h
    · cases h
  · cases h
def callCv (s : St) : Option (Nat × Array Value) := match calleeO (cur s) s.a with
  | some (.func f, xs, cap) => some (f, xs ++ cap)
  | _ => none
def yieldC (s : St) : Option (Nat × Array Value) := match calleeO (cur s) s.a with
  | some (.yield l, xs, _) => some (l, xs)
  | _ => none
theorem callCv_spec {s : St} {f : Nat} {args : Array Value} (h : callCv s = some (f, args)) : ∃ xs cap, calleeO (cur s) s.a = some (.func f, xs, cap) ∧ xs ++ cap = args := by
  unfold callCv at h
  split at h
  · rename_i f' xs cap he
    simp only [Option.some.injEq, Prod.mk.injEq] at h
    obtain ⟨rfl, rfl⟩ := h
    exact ⟨xs, cap, he, rfl⟩
  · cases h
theorem yieldC_spec {s : St} {l : Nat} {args : Array Value} (h : yieldC s = some (l, args)) : ∃ cap, calleeO (cur s) s.a = some (.yield l, args, cap) := by
  unfold yieldC at h
  split at h
  · rename_i f' xs cap he
    simp only [Option.some.injEq, Prod.mk.injEq] at h
    obtain ⟨rfl, rfl⟩ := h
    exact ⟨cap, he⟩
  · cases h
theorem op_callv {P : Program} {a : Act} {w : World} {Q : Exit → Act → World → Prop} {o : Oper} {K : Act → World → Prop} {g : Nat} {xs cap args : Array Value} (ho : calleeO o a = some (.func g, xs, cap)) (ha : xs ++ cap = args) (hb : hasBody P g = true)
    (k : Calls P g args w fun e w' => ∃ v, e = .returned v ∧ K (a.put o.dst v) w') : OpW P o a w K Q := by
  subst ha
  refine ⟨?_⟩
  unfold Oper.wp
  have hr : (execOp a.eval o).run P w = .ok (.enter g (xs ++ cap)) w := by
    rw [calleeO_run ho]
    simp only [invoke]
    exact run_callFunc hb
  rw [hr]
  simp only [Oper.upon]
  refine k.mono fun e w' ⟨v, he, hk⟩ => ?_
  subst he
  exact hk

/-! ### what is looked at, and what is not -/
theorem Hs.focus {w : World} {RO own rest : List Rc} (h : Hs w RO (own ++ rest)) : Hs w [.gen (star (RO ++ rest))] own := by
  have hpw := List.pairwise_append.1 h.p
  refine ⟨fun r hr => ?_, fun r hr o ho => ?_, hpw.1⟩
  · rcases List.mem_append.1 hr with hr | hr
    · rw [List.mem_singleton.1 hr]
      exact fun x hx => h.a x (by simp only [List.mem_append] at hx ⊢; rcases hx with hx | hx <;> simp [hx])
    · exact h.a r (by simp [hr])
  · rw [List.mem_singleton.1 hr]
    rintro i ⟨x, hx, hi⟩
    rcases List.mem_append.1 hx with hx | hx
    · exact h.d x hx o (List.mem_append_left _ ho) i hi
    · exact (hpw.2.2 o ho x hx).symm i hi
theorem Hs.unfocus {w w' : World} {RO own rest H : List Rc} (h : Hs w RO (own ++ rest)) (hH : Hs w' [.gen (star (RO ++ rest))] H) : Hs w' RO (H ++ rest) := by
  have hpw := List.pairwise_append.1 h.p
  have hall : ∀ r ∈ RO ++ rest, r.A w' := hH.a (.gen (star (RO ++ rest))) (by simp)
  have hd2 : ∀ r ∈ RO ++ rest, ∀ o ∈ H, DD r o := fun r hr o ho i hi => hH.d (.gen (star (RO ++ rest))) (by simp) o ho i ⟨r, hr, hi⟩
  refine ⟨fun r hr => ?_, fun r hr o ho => ?_, ?_⟩
  · simp only [List.mem_append] at hr
    rcases hr with hr | hr | hr
    · exact hall r (by simp [hr])
    · exact hH.a r (by simp [hr])
    · exact hall r (by simp [hr])
  · rcases List.mem_append.1 ho with ho | ho
    · exact hd2 r (by simp [hr]) o ho
    · exact h.d r hr o (List.mem_append_right _ ho)
  · exact List.pairwise_append.2 ⟨hH.p, hpw.2.1, fun o ho r hr => (hd2 r (List.mem_append_right _ hr) o ho).symm⟩
/-- The same where what is borrowed stays in sight. -/
theorem Hs.foc {w : World} {RO own rest : List Rc} {F0 : Re} (h : Hs w RO (own ++ rest)) (hF : F0.A w) (hd : ∀ o ∈ own, DD (.gen F0) o) : Hs w (.gen (star (.gen F0 :: rest)) :: RO) own := by
  have hpw := List.pairwise_append.1 h.p
  refine ⟨fun r hr => ?_, fun r hr o ho => ?_, hpw.1⟩
  · simp only [List.cons_append, List.mem_cons] at hr
    rcases hr with rfl | hr
    · intro x hx
      rcases List.mem_cons.1 hx with rfl | hx
      · exact hF
      · exact h.a x (by simp [hx])
    · exact h.a r (by simp only [List.mem_append] at hr ⊢; rcases hr with hr | hr <;> simp [hr])
  · rcases List.mem_cons.1 hr with rfl | hr
    · rintro i ⟨x, hx, hi⟩
      rcases List.mem_cons.1 hx with rfl | hx
      · exact hd o ho i hi
      · exact (hpw.2.2 o ho x hx).symm i hi
    · exact h.d r hr o (List.mem_append_left _ ho)
theorem Hs.unfoc {w w' : World} {RO own rest H : List Rc} {F0 : Re} (h : Hs w RO (own ++ rest)) (hH : Hs w' (.gen (star (.gen F0 :: rest)) :: RO) H) : Hs w' RO (H ++ rest) ∧ F0.A w' ∧ ∀ o ∈ H, DD (.gen F0) o := by
  have hpw := List.pairwise_append.1 h.p
  have hall : ∀ r ∈ Rc.gen F0 :: rest, r.A w' := hH.a (.gen (star (.gen F0 :: rest))) (by simp)
  have hd2 : ∀ r ∈ Rc.gen F0 :: rest, ∀ o ∈ H, DD r o := fun r hr o ho i hi => hH.d (.gen (star (.gen F0 :: rest))) (by simp) o ho i ⟨r, hr, hi⟩
  refine ⟨⟨fun r hr => ?_, fun r hr o ho => ?_, ?_⟩, hall (.gen F0) (by simp), fun o ho => hd2 (.gen F0) (by simp) o ho⟩
  · simp only [List.mem_append] at hr
    rcases hr with hr | hr | hr
    · exact hH.a r (by simp [hr])
    · exact hH.a r (by simp [hr])
    · exact hall r (by simp [hr])
  · rcases List.mem_append.1 ho with ho | ho
    · exact hH.d r (by simp [hr]) o ho
    · exact h.d r hr o (List.mem_append_right _ ho)
  · exact List.pairwise_append.2 ⟨hH.p, hpw.2.1, fun o ho r hr => (hd2 r (by simp [hr]) o ho).symm⟩

section
variable {P : Program} {Q : Exit → Act → World → Prop} {L : List Iv} {s : St} {RO FZ OW : List Rc}

theorem m_callv (n : Nat) (idx : List Nat) {f : Nat} {args : Array Value} {ro own : List Rc} {R : Value → List Rc → Prop} (sp : Does P f args ro own R) (vs : Vs (RO ++ (FZ ++ (pick idx OW).2)) ro)
    (k : ∀ v H, R v H → J P Q L (nx (go P n s) v) RO FZ (H ++ (pick idx OW).2))
    (hc : callCv (go P n s) = some (f, args) := by kernel_rfl) (ho : (pick idx OW).1 = own := by kernel_rfl) (h2 : (hasBody P f && (acts (go P n s) && onW (go P n s))) = true := by kernel_rfl) : J P Q L s RO FZ OW := by
  rw [Bool.and_eq_true] at h2
  refine m_act n (fun w hw _ => ?_) h2.2
  have hp := pick_perm idx OW
  rw [ho] at hp
  generalize (pick idx OW).2 = rest at *
  obtain ⟨xs, cap, hc, ha⟩ := callCv_spec hc
  have hw1 : Hs w RO (own ++ (FZ ++ rest)) := hw.perm (by
    refine List.Perm.trans ?_ (hp.append_left FZ)
    exact List.perm_append_comm_assoc _ _ _)
  have hF : Hs w (.gen (star (RO ++ (FZ ++ rest))) :: ro) own := by
    have h0 := hw1.focus
    have hrest : ∀ r ∈ RO ++ (FZ ++ rest), r.A w := fun r hr => hw1.a r (by simp only [List.mem_append] at hr ⊢; rcases hr with h | h | h <;> simp [h])
    refine ⟨fun r hr => ?_, fun r hr o ho => ?_, h0.p⟩
    · rcases List.mem_append.1 hr with hr | hr
      · rcases List.mem_cons.1 hr with rfl | hr
        · exact hrest
        · exact (vs.spec hrest r hr).1
      · exact hw1.a r (by simp [hr])
    · rcases List.mem_cons.1 hr with rfl | hr
      · exact h0.d _ (by simp) o ho
      · intro i hi hi'
        obtain ⟨x, hx, h⟩ := (vs.spec hrest r hr).2 i hi
        exact h0.d (.gen (star (RO ++ (FZ ++ rest)))) (by simp) o ho i ⟨x, hx, h⟩ hi'
  refine op_callv hc ha h2.1 ?_
  refine (sp _ w hF).mono fun e w' ⟨v, H, hR, he, hH⟩ => ⟨v, he, v, _, rfl, ?_, k v H hR⟩
  exact (hw1.unfocus hH).perm (List.perm_append_comm_assoc _ _ _)

/-! ### yield -/
/-- A round, as the one who calls yield meets it. -/
def YD (P : Program) (l : Nat) (args : Array Value) {X : Type} (I0 I1 : X → Re) : Prop :=
  ∀ (x : X) (F : Re) (w : World), Hs w [.gen F] [.gen (I0 x)] → YieldAt Fence.wide 0 P l args w fun e w' => e = .returned (.bool true) ∧ ∃ y, Hs w' [.gen F] [.gen (I1 y)]
def isReg (s : St) : Bool := match s.ps with | .reg _ _ => true | _ => false
theorem den_yield {S : World → Prop} {w : World} {l : Nat} {args cap : Array Value} (hr : isReg s = true) (hon : onW s = true) (hc : calleeO (cur s) s.a = some (.yield l, args, cap))
    (h : YieldAt Fence.wide 0 P l args w fun e w' => ∃ v, e = .returned v ∧ den P Q L S (nx s v) w') : den P Q L S s w := by
  obtain ⟨ps, K, a, r⟩ := s
  cases ps with
  | reg ops i =>
    obtain ⟨hon, hd⟩ := Bool.and_eq_true_iff.1 hon
    obtain ⟨h1, h2⟩ := onAt_spec hon
    have hlt : i < ops.size := by simpa using h1
    have ho : ops[i]? = some (opAt ops i) := by simp [opAt, hlt]
    simp only [den]
    rw [drop_get ho, wpListIn, if_pos h2]
    obtain ⟨fn, tmps, asg, body, hy, hR⟩ := h
    refine ⟨fun _ _ => trivial, ?_⟩
    have e : (opAt ops i).semAt (Fz r).round a.eval = execOp a.eval (opAt ops i) := by
      cases r with
      | none => exact Oper.semAt_none _ _
      | some l =>
        refine Oper.semAt_some l _ _ fun c hc => ?_
        simp [ndf, hc] at hd
    have e2 : (execOp a.eval (opAt ops i)).run P w = .ok (.round l fn tmps asg body) w := (calleeO_run hc w).trans hy
    rw [e, e2]
    exact ⟨fun h => (by cases h), RoundIn.mono (R := fun e w' => ∃ v, e = .returned v ∧ den P Q L S (nx ⟨.reg ops i, K, a, r⟩ v) w') hR fun e w' ⟨v, he, hd⟩ => by subst he; exact hd⟩
  | _ => cases hr
theorem YieldAt.mon {l : Nat} {args : Array Value} {W : World} {R R' : Ending → World → Prop} (h : YieldAt Fence.wide 0 P l args W R) (hr : ∀ e w, R e w → R' e w) : YieldAt Fence.wide 0 P l args W R' := by
  obtain ⟨fn, tmps, asg, body, hy, hR⟩ := h
  exact ⟨fn, tmps, asg, body, hy, hR.mono hr⟩
theorem m_yield {X : Type} (n : Nat) (idx : List Nat) {l : Nat} {args : Array Value} {I0 I1 : X → Re} (x : X) (y : YD P l args I0 I1)
    (k : ∀ y, J P Q L (nx (go P n s) (.bool true)) RO [] (.gen (I1 y) :: (pick idx OW).2))
    (hc : yieldC (go P n s) = some (l, args) := by kernel_rfl) (ho : (pick idx OW).1 = [.gen (I0 x)] := by kernel_rfl) (h2 : (isReg (go P n s) && onW (go P n s)) = true := by kernel_rfl) : J P Q L s RO [] OW := by
  rw [Bool.and_eq_true] at h2
  refine ⟨fun w hw => go_ok hw.S n ?_⟩
  have hp := pick_perm idx OW
  rw [ho] at hp
  generalize (pick idx OW).2 = rest at *
  obtain ⟨cap, hc⟩ := yieldC_spec hc
  have hw1 : Hs w RO ([.gen (I0 x)] ++ rest) := hw.perm hp
  refine den_yield h2.1 h2.2 hc (YieldAt.mon (y x _ w hw1.focus) ?_)
  rintro e w' ⟨he, z, hz⟩
  exact ⟨_, he, (k z).out w' (hw1.unfocus hz)⟩

/-! ### a range over a function -/
/-- A block that holds no cells. -/
def obRe (b : Nat) (o : Obj) : Re := ⟨One b, fun w => w.heap[b]? = some o, fun _ h => In.one h, fun _ _ _ h F d => Fr.keep F h d⟩
/-- What is borrowed and what is owned, as one. -/
def hsRe (RO H : List Rc) : Re := ⟨fun k => ∃ r ∈ RO ++ H, r.S k, fun w => Hs w RO H, fun _ h k ⟨r, hr, hk⟩ => r.inn (h.a r hr) k hk, fun _ _ _ h F d => ⟨fun r hr => r.keep (h.a r hr) F fun k hk => d k ⟨r, hr, hk⟩, h.d, h.p⟩⟩
def topRe : Re := ⟨N0, fun _ => True, fun _ _ _ h => h.elim, fun _ _ _ h _ _ => h⟩
theorem fr_putObj (w : World) (l : Nat) (o : Obj) : Fr w (w.putObj l o) (One l) := ⟨rfl, rfl, rfl, by simp, fun k _ hk => World.putObj_heap_other hk⟩
theorem Hs.swap {w w' : World} {RO own rest : List Rc} {b : Nat} {o : Obj} (o' : Obj) (h : Hs w RO (own ++ (.gen (obRe b o) :: rest))) (F : Fr w w' (One b)) (g : w'.heap[b]? = some o') : Hs w' RO (own ++ (.gen (obRe b o') :: rest)) :=
  Hs.set (FZ := own) (OW := .gen (obRe b o) :: rest) (i := 0) (r' := .gen (obRe b o')) h rfl F g (New.refl _ _)

inductive Up (p : Nat → Prop) : Nat → Prop
  | z : Up p 0
  | s {n : Nat} (h : Up p n) (k : p n) : Up p (n + 1)
theorem Up.all {p : Nat → Prop} : ∀ {n : Nat}, Up p n → ∀ i, i < n → p i
  | _, .z, i, h => by omega
  | n + 1, .s h k, i, hi => by
    rcases Nat.lt_or_ge i n with hl | hl
    · exact h.all i hl
    · have : i = n := by omega
      subst this; exact k

structure RF where
  g : Operand
  ps : Array Tmp
  asg : Code
  body : Code
def rfOf (s : St) : RF := match s.ps with
  | .code (.rangeFunc g ps x y) => ⟨g, ps, x, y⟩
  | _ => ⟨.tmp 0, #[], .skip, .skip⟩
def isRF (s : St) : Bool := match s.ps with
  | .code (.rangeFunc _ _ _ _) => s.r.isNone
  | _ => false
/-- A round's frame ahead of the assignment. -/
def rfSt (s : St) (l : Nat) (ys : Array Value) : St := ⟨.code (rfOf s).asg, [], ⟨((rfOf s).ps.zip ys).foldl (fun t (p, v) => t.setIfInBounds p v) s.a.tmps, []⟩, some l⟩
def outN (s : St) : Bool := match s.ps with
  | .out .normal => s.K.isEmpty
  | _ => false
def rfIn (P : Program) (s : St) (l : Nat) (ys : Array Value) : Bool := Nat.beq ys.size (rfOf s).ps.size && outN (go P 60 (rfSt s l ys))
def rfAct (P : Program) (s : St) (l : Nat) (ys : Array Value) : Act := (go P 60 (rfSt s l ys)).a
def RQ (G : World → Prop) : Exit → Act → World → Prop
  | .normal, _, w => G w
  | _, _, _ => False
theorem m_rend {X : Type} {HI : X → List Rc} (n : Nat) (y : X) (hH : OW = HI y := by kernel_rfl) (h1 : outN (go P n s) = true := by kernel_rfl) : J P (RQ fun w => ∃ y, Hs w RO (HI y)) L s RO [] OW := by
  subst hH
  refine m_go n ?_
  generalize go P n s = t at *
  obtain ⟨ps, K, a, r⟩ := t
  refine ⟨fun w hw => ?_⟩
  cases ps with
  | out e =>
    cases e with
    | normal =>
      simp only [outN, List.isEmpty_iff] at h1
      subst h1
      exact ⟨y, hw⟩
    | _ => cases h1
  | _ => cases h1
def gOk (P : Program) (f : Nat) (s : St) : Bool := isRF s && hasBody P f
theorem m_range {X : Type} (n f N : Nat) (lb : Array Value) (xs : Nat → Array Value) (HI : Nat → X → List Rc) (ib : List Rc) (idx : List Nat) (x0 : X)
    (it : ∀ (l : Nat) (I : Nat → X → Re), (∀ i, i < N → YD P l (xs i) (I i) (I (i + 1))) → ∀ x, Does P f (#[.func (.yield l) #[] #[]] ++ lb) ib [.gen (I 0 x)] (fun _ H => ∃ y, H = [.gen (I N y)]))
    (round : Up (fun i => ∀ (x : X) (F : Re) (l : Nat), rfIn P (go P n s) l (xs i) = true ∧ J P (RQ fun w => ∃ y, Hs w (.gen F :: RO) (HI (i + 1) y)) [] ⟨.code (rfOf (go P n s)).body, [], rfAct P (go P n s) l (xs i), some l⟩ (.gen F :: RO) [] (HI i x)) N)
    (k : ∀ D y, J P Q L ⟨.out .normal, (go P n s).K, ⟨(go P n s).a.tmps, ⟨.collected D, #[]⟩ :: (go P n s).a.defers⟩, none⟩ RO [] (.gen (obRe D (.deferred (some []))) :: (HI N y ++ (pick idx OW).2)))
    (h1 : gOk P f (go P n s) = true := by kernel_rfl) (hg : (go P n s).a.eval (rfOf (go P n s)).g = .func (.func f) #[] lb := by kernel_rfl) (h2 : (pick idx OW).1 = HI 0 x0 ++ ib := by kernel_rfl) : J P Q L s RO [] OW := by
  refine m_go n ?_
  have hp := pick_perm idx OW
  rw [h2] at hp
  generalize (pick idx OW).2 = rest at *
  generalize go P n s = t at *
  obtain ⟨ps, K, a, r⟩ := t
  unfold gOk at h1
  rw [Bool.and_eq_true] at h1
  obtain ⟨h1, hb⟩ := h1
  cases ps with
  | code c =>
    cases c with
    | rangeFunc g pms asg body =>
      obtain rfl : r = none := by simpa [isRF] using h1
      simp only [rfOf] at hg round
      refine ⟨fun w hw => ?_⟩
      have hw0 : Hs w RO (HI 0 x0 ++ ib ++ rest) := hw.perm hp
      simp only [den]
      refine wpIn_rangeFunc ?_
      intro fn _
      obtain ⟨rec, hrec⟩ : ∃ rec : LoopState → Option Code → Loop, rec = fun st pe => { state := st, pending := pe, fn, tmps := a.tmps, params := pms, assign := asg, body, defers := w.heap.size } := ⟨_, rfl⟩
      obtain ⟨W1, hW1⟩ : ∃ W1, (w.alloc (.deferred (some []))).alloc (.loop (rec .ready none)) = W1 := ⟨_, rfl⟩
      have hs1 : Hs (w.alloc (.deferred (some []))) RO (HI 0 x0 ++ ib ++ (.gen (obRe w.heap.size (.deferred (some []))) :: rest)) :=
        Hs.new (FZ := HI 0 x0 ++ ib) (r := .gen (obRe w.heap.size (.deferred (some [])))) hw0 (Fr.alloc1 w _) (heap_alloc_new w _) (fun k hk => Nat.le_of_eq (Eq.symm hk))
      have hs2 : Hs W1 RO (HI 0 x0 ++ ib ++ (.gen (obRe (w.heap.size + 1) (.loop (rec .ready none))) :: .gen (obRe w.heap.size (.deferred (some []))) :: rest)) := by
        rw [← hW1]
        refine Hs.new (FZ := HI 0 x0 ++ ib) (r := .gen (obRe (w.heap.size + 1) (.loop (rec .ready none)))) hs1 (Fr.alloc1 _ _) ?_ (fun k hk => ?_)
        · have := heap_alloc_new (w.alloc (.deferred (some []))) (.loop (rec .ready none))
          rw [World.size_alloc] at this
          exact this
        · rw [World.size_alloc]; exact Nat.le_of_eq (Eq.symm hk)
      refine ⟨w.heap.size + 1, [{ target := .collected w.heap.size, args := #[] }], W1, { target := .fn (.func f) lb, args := #[.func (.yield (w.heap.size + 1)) #[] #[]] }, W1, f,
        #[.func (.yield (w.heap.size + 1)) #[] #[]] ++ lb, W1, ?_, ?_, fun _ _ => trivial, ?_, fun h => (by cases h), ?_⟩
      · rw [← hW1, hrec]; exact run_enterLoop_outer _ _ _ _ _
      · simp only [resolve, hg]
        simp [go_sem]
      · simp only [invoke]
        exact run_callFunc hb
      · generalize hl : w.heap.size + 1 = l at *
        generalize hD : w.heap.size = D at *
        obtain ⟨rest', hr'⟩ : ∃ rest', rest' = Rc.gen (obRe D (.deferred (some []))) :: rest := ⟨_, rfl⟩
        rw [← hr'] at hs2
        have hY : ∀ i, i < N → YD P l (xs i) (fun x => hsRe RO (HI i x ++ (.gen (obRe l (.loop (rec .ready none))) :: rest'))) (fun x => hsRe RO (HI (i + 1) x ++ (.gen (obRe l (.loop (rec .ready none))) :: rest'))) := by
          intro i hi x F0 W hW
          have hA : Hs W RO (HI i x ++ (.gen (obRe l (.loop (rec .ready none))) :: rest')) := hW.a _ (List.mem_append_right _ (List.mem_singleton.2 rfl))
          have hF0 : F0.A W := hW.a (.gen F0) (by simp)
          have hD0 : ∀ r ∈ RO ++ (HI i x ++ (.gen (obRe l (.loop (rec .ready none))) :: rest')), DD (.gen F0) r := fun r hr j hj hj' => hW.d (.gen F0) (by simp) _ (List.mem_singleton.2 rfl) j hj ⟨r, hr, hj'⟩
          have hL : W.heap[l]? = some (.loop (rec .ready none)) := hA.a (.gen (obRe l (.loop (rec .ready none)))) (by simp)
          have hdl : Dis F0.S (One l) := hD0 (.gen (obRe l (.loop (rec .ready none)))) (by simp)
          have hlt : l < W.heap.size := lt_of_get hL
          have hin := fun F1 => (round.all i hi x F1 l).1
          have hin0 := hin topRe
          unfold rfIn at hin0
          rw [Bool.and_eq_true] at hin0
          have hy := run_yield (P := P) (args := xs i) hL (by rw [hrec]; exact Nat.eq_of_beq_eq_true hin0.1)
          rw [hrec] at hy
          refine ⟨fn, _, asg, body, hy, roundIn_of_wpIn trivial ?_⟩
          have hga : den P (Exit.then (fun a₁ w₁ => ∃ w₂, (Instr.beginRound l).run P w₁ = .ok () w₂ ∧ body.wpIn (Fence.wide.inRound l) 0 P (roundPost P l fun e w' => e = .returned (.bool true) ∧ ∃ y, Hs w' [.gen F0] [.gen (hsRe RO (HI (i + 1) y ++ (.gen (obRe l (.loop (rec .ready none))) :: rest')))]) a₁ w₂) (fun _ _ _ => False)) [] (fun _ => True) (rfSt ⟨.code (.rangeFunc g pms asg body), K, a, none⟩ l (xs i)) W := by
            refine go_ok trivial 60 ?_
            have hact : (go P 60 (rfSt ⟨.code (.rangeFunc g pms asg body), K, a, none⟩ l (xs i))).a = rfAct P ⟨.code (.rangeFunc g pms asg body), K, a, none⟩ l (xs i) := rfl
            have hout := hin0.2
            generalize go P 60 (rfSt ⟨.code (.rangeFunc g pms asg body), K, a, none⟩ l (xs i)) = t at *
            obtain ⟨ps, K', a', r'⟩ := t
            cases ps with
            | out e =>
              cases e with
              | normal =>
                simp only [outN, List.isEmpty_iff] at hout
                subst hout
                simp only at hact
                subst hact
                refine ⟨_, run_beginRound hL (by rw [hrec]), ?_⟩
                have hs3 := hA.swap (.loop { rec .ready none with state := .busy }) (fr_putObj W l _) (World.putObj_heap_same hlt)
                have hF2 : F0.A (W.putObj l (.loop { rec .ready none with state := .busy })) := F0.keep _ _ _ hF0 (fr_putObj W l _) hdl
                have hfoc := hs3.foc hF2 (fun o ho => hD0 o (by simp [ho]))
                refine Code.wpIn_mono ?_ ((round.all i hi x _ l).2.out _ hfoc)
                have fin : ∀ W3, (∃ y, Hs W3 (.gen (star (.gen F0 :: .gen (obRe l (.loop { rec .ready none with state := .busy })) :: rest')) :: RO) (HI (i + 1) y)) → ∃ v w', (Instr.endRound l none).run P W3 = .ok v w' ∧ (Ending.returned v = .returned (.bool true) ∧ ∃ y, Hs w' [.gen F0] [.gen (hsRe RO (HI (i + 1) y ++ (.gen (obRe l (.loop (rec .ready none))) :: rest')))]) := by
                  rintro W3 ⟨y, hy3⟩
                  obtain ⟨h3, hF3, hd3⟩ := hs3.unfoc hy3
                  have hl3 : W3.heap[l]? = some (.loop { rec .ready none with state := .busy }) := h3.a (.gen (obRe l (.loop { rec .ready none with state := .busy }))) (by simp)
                  have hr3 := run_endRound (P := P) none hl3
                  have hs4 := h3.swap (.loop (rec .ready none)) (fr_putObj W3 l _) (World.putObj_heap_same (lt_of_get hl3))
                  refine ⟨_, _, hr3, by simp, y, ?_⟩
                  have hF4 : F0.A (W3.putObj l (.loop (rec .ready none))) := F0.keep _ _ _ hF3 (fr_putObj W3 l _) hdl
                  have ee : (W3.putObj l (.loop { { rec .ready none with state := .busy } with state := if (none : Option Code).isNone then .ready else .done, pending := none })) = W3.putObj l (.loop (rec .ready none)) := by rw [hrec]; rfl
                  rw [ee]
                  refine ⟨fun r hr => ?_, fun r hr o ho => ?_, List.pairwise_singleton _ _⟩
                  · simp only [List.cons_append, List.nil_append, List.mem_cons, List.not_mem_nil, or_false] at hr
                    rcases hr with rfl | rfl
                    · exact hF4
                    · exact hs4
                  · rw [List.mem_singleton.1 hr, List.mem_singleton.1 ho]
                    rintro j hj ⟨r, hr, hj'⟩
                    simp only [List.mem_append, List.mem_cons] at hr
                    rcases hr with hr | hr | hr | hr
                    · exact hD0 r (by simp [hr]) j hj hj'
                    · exact hd3 r hr j hj hj'
                    · subst hr; exact hdl j hj hj'
                    · exact hD0 r (by simp [hr]) j hj hj'
                intro e a3 W3 hq
                cases e with
                | normal => exact fin W3 hq
                | _ => exact hq.elim
              | _ => cases hout
            | _ => cases hout
          exact hga
        have hs3 : Hs W1 RO ((HI 0 x0 ++ (.gen (obRe l (.loop (rec .ready none))) :: rest')) ++ ib) := hs2.perm (by
          rw [List.append_assoc, List.append_assoc]
          exact List.Perm.append_left _ List.perm_append_comm)
        have hpw3 := List.pairwise_append.1 hs3.p
        have hcall := it l (fun i x => hsRe RO (HI i x ++ (.gen (obRe l (.loop (rec .ready none))) :: rest'))) hY x0 topRe W1 (by
          refine ⟨fun r hr => ?_, fun r hr o ho => ?_, List.pairwise_singleton _ _⟩
          · rcases List.mem_append.1 hr with hr | hr
            · rcases List.mem_cons.1 hr with rfl | hr
              · trivial
              · exact hs3.a r (by simp [hr])
            · rw [List.mem_singleton.1 hr]
              exact hs3.own
          · rw [List.mem_singleton.1 ho]
            rcases List.mem_cons.1 hr with rfl | hr
            · exact fun _ h => h.elim
            · rintro j hj ⟨x, hx, hj'⟩
              rcases List.mem_append.1 hx with hx | hx
              · exact hs3.d x hx r (List.mem_append_right _ hr) j hj' hj
              · exact hpw3.2.2 x hx r hr j hj' hj)
        refine callsIn_wide.2 (hcall.mono ?_)
        rintro e W2 ⟨v, H, ⟨y, rfl⟩, rfl, hH⟩
        have h2 : Hs W2 RO (HI N y ++ (.gen (obRe l (.loop (rec .ready none))) :: rest')) := hH.a _ (List.mem_append_right _ (List.mem_singleton.2 rfl))
        have hl2 : W2.heap[l]? = some (.loop (rec .ready none)) := h2.a (.gen (obRe l (.loop (rec .ready none)))) (by simp)
        have he2 := run_endLoop (P := P) hl2 (by rw [hrec]; simp)
        have hs5 := h2.swap (.loop { rec .ready none with state := .exhausted }) (fr_putObj W2 l _) (World.putObj_heap_same (lt_of_get hl2))
        have he3 : (Instr.endLoop l).run P W2 = .ok none (W2.putObj l (.loop { rec .ready none with state := .exhausted })) := by rw [he2, hrec]
        refine ⟨none, _, he3, ?_⟩
        have hs6 : Hs (W2.putObj l (.loop { rec .ready none with state := .exhausted })) RO ([] ++ (.gen (obRe D (.deferred (some []))) :: (HI N y ++ rest))) := by
          have h7 : Hs (W2.putObj l (.loop { rec .ready none with state := .exhausted })) RO ((HI N y ++ rest') ++ [.gen (obRe l (.loop { rec .ready none with state := .exhausted }))]) := hs5.perm (by
            rw [List.append_assoc]
            exact List.Perm.append_left _ (List.perm_append_singleton _ _))
          refine h7.own.perm ?_
          rw [hr']
          exact (List.perm_middle (l₁ := HI N y)).symm
        exact (k D y).out _ hs6
    | _ => cases h1
  | _ => cases h1

/-! ### a region whose order is open, in a round -/
theorem wpOpsIn_of {r : Option Nat} {ops : Array Oper} {K : Act → World → Prop} (hd : ops.toList.all (ndf r) = true) : ∀ (l : List Nat) (a : Act) (w : World), wpOps P ops (OnlyN K) l a w → wpOpsIn (Fz r) 0 P ops (OnlyN K) l a w
  | [], _, _, h => h
  | i :: rest, a, w, h => by
    have ih := fun a w => wpOpsIn_of (K := K) hd rest a w
    simp only [wpOps] at h
    simp only [wpOpsIn]
    cases ho : ops[i]? with
    | none => rw [ho] at h; exact ih a w h
    | some o =>
      rw [ho] at h
      simp only at h ⊢
      have ho' : ndf r o = true := List.all_eq_true.1 hd o (Array.mem_toList_iff.2 (Array.mem_of_getElem? ho))
      by_cases hw : Region.wanted o (yielded ops a.tmps) = true
      · rw [if_pos hw] at h ⊢
        rcases h with h | ⟨_, _, _, h⟩
        · exact wpIn_of ho' (Oper.wp_mono (fun a w h => ih a w h) h)
        · exact h.elim
      · rw [if_neg hw] at h ⊢
        exact ⟨fun _ _ => trivial, ih _ _ h⟩
theorem regIn_of {r : Option Nat} {id : Nat} {ops : Array Oper} {K : Act → World → Prop} {a : Act} {w : World} (hm : P.follows .mixedOrders = true) (hd : ops.toList.all (ndf r) = true)
    (h : wpAny P .any ops (OnlyN K) ops.size (Array.replicate ops.size false) a { w with drawn := w.drawn + 1 }) : (Code.region id ops true).wpIn (Fz r) 0 P (OnlyN K) a w :=
  wpIn_region_draw fun t => by
    simp only [Region.schedule, hm, Bool.true_or, if_true]
    exact wpOpsIn_of hd _ _ _ (wpAny_sound ops.size t _ a _ h)
theorem m_planR (n : Nat) (sk : List Nat) (π : PT) (idx : List Nat) (k : J P Q L ⟨.pl (plOps (go P n s)) sk π, (go P n s).K, (go P n s).a, (go P n s).r⟩ RO (pick idx OW).1 (pick idx OW).2)
    (h : (isDraw (go P n s) && (plOps (go P n s)).toList.all (ndf (go P n s).r) && P.follows .mixedOrders && Region.noSelect (plOps (go P n s)) && Nat.beq π.len (plOps (go P n s)).size && treeC (plOps (go P n s)) sk π) = true := by kernel_rfl) : J P Q L s RO [] OW := by
  refine m_go n ?_
  generalize go P n s = t at *
  obtain ⟨ps, K, a, r⟩ := t
  simp only [Bool.and_eq_true] at h
  obtain ⟨⟨⟨⟨⟨h1, h0⟩, h2⟩, h3⟩, h4⟩, h5⟩ := h
  have h4 := Nat.eq_of_beq_eq_true h4
  have hp := pick_perm idx OW
  cases ps with
  | code c =>
    cases c with
    | region id ops d =>
      cases d with
      | false => cases h1
      | true =>
        simp only [plOps] at h0 h3 h4 h5 k
        refine ⟨fun w hw => ?_⟩
        simp only [den]
        refine Code.wpIn_mono (Q := OnlyN (fun a w => post P Q L r K .normal a w)) (fun e a w hq => by cases e <;> first | exact hq | exact hq.elim) ?_
        refine regIn_of h2 h0 (wpAny_of_P (S := fun w => ∀ r ∈ RO ++ (pick idx OW).1, r.A w) (sk := fun i => sk.contains i) _ _ _ _ ?_)
        rw [← h4]
        refine (tree_any h3 (fun _ _ _ h => h) π false _ a _ (fun j oj _ hl => ?_) (fun h => by cases h) (h4 ▸ treeC_ok h5) ?_).1 rfl
        · rw [getD_rep] at hl; cases hl
        · exact k.out _ ((hw.perm hp).keep (Fr.refl _ _).drew)
    | _ => cases h1
  | _ => cases h1

/-! ### the end of a function that holds one -/
def DoesPostM (P : Program) (f : Nat) (F : Re) (R : Value → List Rc → Prop) : Exit → Act → World → Prop := bodyPostM Fence.wide 0 P (fnOf P f) fun e w' => ∃ v H, R v H ∧ e = .returned v ∧ Hs w' [.gen F] H
theorem m_fnM {f : Nat} {args : Array Value} {ro own : List Rc} {R : Value → List Rc → Prop} (k : ∀ F, J P (DoesPostM P f F R) [] (start P f args) (.gen F :: ro) [] own)
    (h : ((P.funcs[f]?).isSome && (fnOf P f).body.isSome) = true := by kernel_rfl) : Does P f args ro own R := by
  intro F w hw
  rw [Bool.and_eq_true] at h
  cases hf : P.funcs[f]? with
  | none => rw [hf] at h; cases h.1
  | some fn =>
    have e1 : fnOf P f = fn := by simp [fnOf, hf]
    rw [e1] at h
    cases hbo : fn.body with
    | none => rw [hbo] at h; cases h.2
    | some c =>
      have hk := (k F).out w hw
      unfold DoesPostM start at hk
      rw [e1] at hk
      have e2 : bodyOf P f = c := by simp [bodyOf, hf, hbo]
      rw [e2] at hk
      exact callsIn_wide.1 (callsIn_of_wp_marks (F := Fence.wide) (n := 0) hf hbo trivial hk)
def outOkM (s : St) : Bool := (match s.ps with | .out .ret => true | .out .normal => true | _ => false) && s.K.isEmpty
theorem m_retM {f : Nat} {F : Re} {R : Value → List Rc → Prop} {ro : List Rc} (n D j : Nat) (v : Value) (idx : List Nat) (hR : R v (pick idx OW).1) (h1 : outOkM (go P n s) = true := by kernel_rfl)
    (hr : pureVal P (results (fnOf P f) (go P n s).a.tmps) = some v := by kernel_rfl) (hd : (go P n s).a.defers = [⟨.collected D, #[]⟩] := by kernel_rfl)
    (hj : gr (pick idx OW).2 j = .gen (obRe D (.deferred (some []))) := by kernel_rfl) (hjl : Nat.blt j (pick idx OW).2.length = true := by kernel_rfl) : J P (DoesPostM P f F R) L s (.gen F :: ro) [] OW := by
  refine m_go n ?_
  generalize go P n s = t at *
  obtain ⟨ps, K, a, r⟩ := t
  unfold outOkM at h1
  simp only [Bool.and_eq_true, List.isEmpty_iff] at h1
  obtain ⟨h2, h3⟩ := h1
  have hp := pick_perm idx OW
  have hjl' : j < (pick idx OW).2.length := by simpa using hjl
  have hij : (pick idx OW).2[j]? = some (.gen (obRe D (.deferred (some [])))) := by
    rw [← hj]; simp [gr, hjl']
  subst h3
  simp only at hd hr
  have fin : ∀ w, Hs w (.gen F :: ro) ([] ++ OW) → LeavesInM Fence.wide 0 P (fnOf P f) a.tmps (fun e w' => ∃ v H, R v H ∧ e = .returned v ∧ Hs w' [.gen F] H) a.defers .returning w := by
    intro w hw
    have hw1 : Hs w (.gen F :: ro) ((pick idx OW).1 ++ (pick idx OW).2) := hw.perm hp
    have hD : w.heap[D]? = some (.deferred (some [])) := hw1.a (.gen (obRe D (.deferred (some [])))) (by simp only [List.mem_append]; exact .inr (.inr (List.mem_of_getElem? hij)))
    have hs2 := Hs.set (FZ := (pick idx OW).1) (r' := .gen (obRe D (.deferred none))) hw1 hij (fr_putObj w D (.deferred none)) (World.putObj_heap_same (lt_of_get hD)) (New.refl _ _)
    rw [hd]
    refine ⟨by simp, .inl ⟨D, _, rfl, run_takeDeferred hD, ?_⟩⟩
    exact ⟨v, pureVal_run hr _, v, _, hR, rfl, hs2.own.ro (by simp)⟩
  refine ⟨fun w hw => ?_⟩
  cases ps with
  | out e =>
    cases e with
    | normal => exact fin w hw
    | ret => exact fin w hw
    | _ => cases h2
  | _ => cases h2
end
end Go.Alm

/- The end of a function with results in cells, that holds a range over a function. -/
namespace Go.Alm
open Go Go.RowKit
section
variable {P : Program} {Q : Exit → Act → World → Prop} {L : List Iv} {s : St} {RO FZ OW : List Rc}
def dnone (D : Nat) : Rc := .gen (obRe D (.deferred none))
theorem m_retMC {f : Nat} {F : Re} {R : Value → List Rc → Prop} {ro : List Rc} (n D j : Nat) (is : List Nat) (v : Value) (idx : List Nat) (hR : R v (pick idx (OW.set j (dnone D))).1) (h1 : outOkM (go P n s) = true := by kernel_rfl)
    (h2 : resK P ((.gen F :: ro) ++ OW.set j (dnone D)) (go P n s).a (fnOf P f).results.toList is = true := by kernel_rfl) (h3 : resA (go P n s).a (fnOf P f).results.toList is = resB ((.gen F :: ro) ++ OW.set j (dnone D)) (go P n s).a (fnOf P f).results.toList is := by kernel_rfl)
    (hr : oneOf (resV P ((.gen F :: ro) ++ OW.set j (dnone D)) (go P n s).a (fnOf P f).results.toList is) = v := by kernel_rfl) (hd : (go P n s).a.defers = [⟨.collected D, #[]⟩] := by kernel_rfl)
    (hj : gr OW j = .gen (obRe D (.deferred (some []))) := by kernel_rfl) (hjl : Nat.blt j OW.length = true := by kernel_rfl) : J P (DoesPostM P f F R) L s (.gen F :: ro) [] OW := by
  refine m_go n ?_
  generalize go P n s = t at *
  obtain ⟨ps, K, a, r⟩ := t
  unfold outOkM at h1
  simp only [Bool.and_eq_true, List.isEmpty_iff] at h1
  obtain ⟨h4, h5⟩ := h1
  have hjl' : j < OW.length := by simpa using hjl
  have hij : OW[j]? = some (.gen (obRe D (.deferred (some [])))) := by
    rw [← hj]; simp [gr, hjl']
  subst h5
  simp only at hd hr h2 h3
  have fin : ∀ w, Hs w (.gen F :: ro) ([] ++ OW) → LeavesInM Fence.wide 0 P (fnOf P f) a.tmps (fun e w' => ∃ v H, R v H ∧ e = .returned v ∧ Hs w' [.gen F] H) a.defers .returning w := by
    intro w hw
    have hD : w.heap[D]? = some (.deferred (some [])) := hw.a (.gen (obRe D (.deferred (some [])))) (by simp only [List.mem_append]; exact .inr (.inr (List.mem_of_getElem? hij)))
    have hs2 := Hs.set (FZ := []) (r' := dnone D) hw hij (fr_putObj w D (.deferred none)) (World.putObj_heap_same (lt_of_get hD)) (New.refl _ _)
    have hp := pick_perm idx (OW.set j (dnone D))
    rw [hd]
    refine ⟨by simp, .inl ⟨D, _, rfl, run_takeDeferred hD, ?_⟩⟩
    have hrun : (results (fnOf P f) a.tmps).run P (w.putObj D (.deferred none)) = .ok v (w.putObj D (.deferred none)) := by
      rw [← hr]
      exact run_results' (fn := fnOf P f) _ rfl (res_L (P := P) (a := a) hs2.a _ _ h2 h3)
    exact ⟨v, hrun, v, _, hR, rfl, ((hs2.perm hp).own).ro (by simp)⟩
  refine ⟨fun w hw => ?_⟩
  cases ps with
  | out e =>
    cases e with
    | normal => exact fin w hw
    | ret => exact fin w hw
    | _ => cases h4
  | _ => cases h4
/-- A store of which it is told what it makes. -/
theorem m_stX (n i b p te : Nat) (c c' vs : Array Value) (hp : p + vs.size ≤ c.size) (he : spl c p vs = c') (hv : vs.toList.all (·.oneCell') = true) (k : J P Q L (nx (go P n s) undef) RO FZ (OW.set i (.blk b c' te)))
    (h1 : (go P n s).a.eval (stX (go P n s)) = .pointer (some ⟨b, p, none⟩) := by kernel_rfl) (hy : (stY (go P n s)).cells = vs := by kernel_rfl) (h3 : gr OW i = .blk b c te := by kernel_rfl)
    (hc : ((storeOf (cur (go P n s)).op).isSome && (sizeT P (stT (go P n s)) == some vs.size) && (acts (go P n s) && onW (go P n s))) = true := by kernel_rfl) : J P Q L s RO FZ OW := by
  simp only [Bool.and_eq_true, beq_iff_eq] at hc
  obtain ⟨⟨h4, h5⟩, h8⟩ := hc
  have hi : OW[i]? = some (.blk b c te) := by rw [← h3]; exact gr_some (by rw [h3]; rfl)
  refine m_act n (fun w hw _ => ?_) (by rw [Bool.and_eq_true]; exact h8)
  have hA : w.heap[b]? = some (.cells c te (0, 0)) := hw.a (.blk b c te) (by simp only [List.mem_append]; exact .inr (.inr (List.mem_of_getElem? hi)))
  have ho : storeOf (cur (go P n s)).op = some (stT (go P n s), stX (go P n s), ((storeOf (cur (go P n s)).op).getD (0, .tmp 0, .tmp 0)).2.2) := by
    unfold stT stX
    cases hl : storeOf (cur (go P n s)).op with
    | none => rw [hl] at h4; cases h4
    | some x => rfl
  refine op_store _ _ _ b p (stY (go P n s)) c te c' ho h1 rfl hA (by rw [hy]; exact h5) (Nat.ble_eq_true_of_le (by rw [hy]; exact hp)) (by rw [hy]; exact hv) (by rw [hy]; exact he) fun w' hb hz F => ⟨_, _, rfl, Hs.set (r' := .blk b c' te) hw hi F hb (New.refl _ _), k⟩
end
end Go.Alm

/- Layers 6, 7 and 9, plainly: rings, windows, states; a state's bytes. -/
namespace Go.Alm
open Go Go.RowKit
def N4 (l : List Nat) : Prop := l.length = 4 ∧ ∀ x ∈ l, x < 4294967296
instance (l : List Nat) : Decidable (N4 l) := inferInstanceAs (Decidable (_ ∧ _))
def c4 (l : List Nat) : Array Value := #[.int .u32 ((l.getD 0 0 : Nat) : Int), .int .u32 ((l.getD 1 0 : Nat) : Int), .int .u32 ((l.getD 2 0 : Nat) : Int), .int .u32 ((l.getD 3 0 : Nat) : Int)]
theorem N4.lt {l : List Nat} (h : N4 l) (i : Nat) : l.getD i 0 < 4294967296 := by
  rw [List.getD_eq_getElem?_getD]
  cases hi : l[i]? with
  | none => decide
  | some x => exact h.2 x (List.mem_of_getElem? hi)
theorem N4.wf {l : List Nat} (h : N4 l) : WfA (c4 l) := WfA.lit (l := [_, _, _, _]) ⟨wf_n32 (h.lt 0), wf_n32 (h.lt 1), wf_n32 (h.lt 2), wf_n32 (h.lt 3), trivial⟩
theorem getD4 {l m : List Nat} (h : l.length = 4) (k : m.length = 4) (e0 : l.getD 0 0 = m.getD 0 0) (e1 : l.getD 1 0 = m.getD 1 0) (e2 : l.getD 2 0 = m.getD 2 0) (e3 : l.getD 3 0 = m.getD 3 0) : l = m := by
  match l, m, h, k with
  | [_, _, _, _], [_, _, _, _], _, _ =>
    simp only [List.getD_cons_zero, List.getD_cons_succ] at e0 e1 e2 e3
    rw [e0, e1, e2, e3]
theorem c4_inj {l m : List Nat} (h : N4 l) (k : N4 m) (e : c4 l = c4 m) : l = m := by
  unfold c4 at e
  simp only [Array.mk.injEq, List.cons.injEq, Value.int.injEq, true_and, and_true, Int.ofNat_inj] at e
  exact getD4 h.1 k.1 (by omega) (by omega) (by omega) (by omega)
theorem c4_size (l : List Nat) : (c4 l).size = 4 := rfl

structure RRing where
  last : Nat
  counts : List Nat
structure RRing.Ok (r : RRing) : Prop where
  last : r.last < 4294967296
  counts : N4 r.counts
def RRing.cells (r : RRing) : Array Value := aj #[.int .u32 (r.last : Int)] (c4 r.counts)
structure RWin where
  min : Nat
  ring : RRing
structure RWin.Ok (x : RWin) : Prop where
  min : x.min < 4294967296
  ring : x.ring.Ok
def RWin.cells (x : RWin) : Array Value := aj #[.int .u32 (x.min : Int)] x.ring.cells
structure SState where
  prev : List Nat
  led : List Nat
  draw : List Nat
  slot : Nat
  len : Nat
  count : Nat
  win : RWin
  eps : EPair
structure SState.Ok (s : SState) : Prop where
  prev : H32 s.prev
  led : H32 s.led
  draw : H32 s.draw
  slot : s.slot < 4294967296
  len : s.len < 4294967296
  count : s.count < 4294967296
  win : s.win.Ok
  eps : s.eps.Ok
def SState.cells (s : SState) : Array Value := aj (aj (aj (aj (aj (hv s.prev) (hv s.led)) (hv s.draw)) #[.int .u32 (s.slot : Int), .int .u32 (s.len : Int), .int .u32 (s.count : Int)]) s.win.cells) s.eps.cells
theorem RRing.size (r : RRing) : r.cells.size = 5 := rfl
theorem RWin.size (r : RWin) : r.cells.size = 6 := rfl
theorem EPair.size (x : EPair) : x.cells.size = 258 := by rw [EPair.cells, aj_size, EData.size, EData.size]
theorem SState.size (s : SState) : s.cells.size = 363 := by rw [SState.cells, aj_size, aj_size, aj_size, aj_size, aj_size, hv_size, hv_size, hv_size, RWin.size, EPair.size]; rfl
theorem RRing.wf {r : RRing} (h : r.Ok) : WfA r.cells := (WfA.lit (l := [.int .u32 (r.last : Int)]) ⟨wf_n32 h.last, trivial⟩).app h.counts.wf
theorem RWin.wf {x : RWin} (h : x.Ok) : WfA x.cells := (WfA.lit (l := [.int .u32 (x.min : Int)]) ⟨wf_n32 h.min, trivial⟩).app (RRing.wf h.ring)
theorem SState.wf {s : SState} (h : s.Ok) : WfA s.cells :=
  (((((h.prev.wf.app h.led.wf).app h.draw.wf).app (WfA.lit (l := [.int .u32 (s.slot : Int), .int .u32 (s.len : Int), .int .u32 (s.count : Int)]) ⟨wf_n32 h.slot, wf_n32 h.len, wf_n32 h.count, trivial⟩)).app (RWin.wf h.win)).app (EPair.wf h.eps))
theorem RRing.inj {x y : RRing} (h : x.Ok) (k : y.Ok) : x.cells = y.cells ↔ x = y := ⟨fun e => by
  unfold RRing.cells at e
  obtain ⟨e1, e2⟩ := aj_inj (by simp) e
  have e1 := lit1_inj e1
  have e2 := c4_inj h.counts k.counts e2
  cases x; cases y
  simp_all, fun e => by rw [e]⟩
theorem RWin.inj {x y : RWin} (h : x.Ok) (k : y.Ok) : x.cells = y.cells ↔ x = y := ⟨fun e => by
  unfold RWin.cells at e
  obtain ⟨e1, e2⟩ := aj_inj (by simp) e
  have e1 := lit1_inj e1
  have e2 := (RRing.inj h.ring k.ring).1 e2
  cases x; cases y
  simp_all, fun e => by rw [e]⟩
theorem lit3_inj {k : IntKind} {a b c x y z : Nat} (e : #[Value.int k (a : Int), .int k (b : Int), .int k (c : Int)] = #[Value.int k (x : Int), .int k (y : Int), .int k (z : Int)]) : a = x ∧ b = y ∧ c = z := by
  simp only [Array.mk.injEq, List.cons.injEq, Value.int.injEq, true_and, and_true, Int.ofNat_inj] at e
  exact e
theorem SState.inj {x y : SState} (h : x.Ok) (k : y.Ok) : x.cells = y.cells ↔ x = y := ⟨fun e => by
  unfold SState.cells at e
  obtain ⟨e, e6⟩ := aj_inj (by simp only [aj_size, hv_size, RWin.size]; rfl) e
  obtain ⟨e, e5⟩ := aj_inj (by simp only [aj_size, hv_size]; rfl) e
  obtain ⟨e, e4⟩ := aj_inj (by simp only [aj_size, hv_size]) e
  obtain ⟨e, e3⟩ := aj_inj (by simp only [aj_size, hv_size]) e
  obtain ⟨e1, e2⟩ := aj_inj (by simp only [hv_size]) e
  have e1 := (hv_iff h.prev.len k.prev.len).1 e1
  have e2 := (hv_iff h.led.len k.led.len).1 e2
  have e3 := (hv_iff h.draw.len k.draw.len).1 e3
  obtain ⟨e41, e42, e43⟩ := lit3_inj e4
  have e5 := (RWin.inj h.win k.win).1 e5
  have e6 := (EPair.inj h.eps k.eps).1 e6
  cases x; cases y
  simp_all, fun e => by rw [e]⟩

/-! ### right ones -/
def RRing.Right (r : RRing) : Prop := r.counts.getD 0 0 ≤ 3 ∧ r.counts.getD 1 0 ≤ 3 ∧ r.counts.getD 2 0 ≤ 3 ∧ r.counts.getD 3 0 ≤ 3 ∧ 0 < r.counts.getD (r.last % 4) 0
instance (r : RRing) : Decidable r.Right := inferInstanceAs (Decidable (_ ∧ _))
def RWin.Right (x : RWin) : Prop := x.min ≤ 12 ∧ x.ring.Right
instance (r : RWin) : Decidable r.Right := inferInstanceAs (Decidable (_ ∧ _))
def SState.Right (s : SState) : Prop := s.win.Right ∧ s.win.ring.last = s.slot / 3 ∧ 0 < s.len ∧ s.len ≤ s.slot + 1 ∧ s.count ≤ s.slot / 24 ∧ s.count < s.len ∧ 0 < s.eps.next.len ∧ s.eps.next.len ≤ s.len ∧ s.eps.next.len ≤ s.slot % 24 + 1
instance (r : SState) : Decidable r.Right := inferInstanceAs (Decidable (_ ∧ _))
def ring1 : RRing := ⟨0, [1, 3, 3, 3]⟩
def win1 : RWin := ⟨12, ring1⟩
def stateF (led : List Nat) : SState := ⟨Z32, led, Z32, 0, 1, 0, win1, pairF led⟩
def state0 : SState := ⟨Z32, Z32, Z32, 0, 0, 0, ⟨0, ⟨0, [0, 0, 0, 0]⟩⟩, pair0⟩
theorem ring1_ok : ring1.Ok := ⟨by decide, by decide⟩
theorem win1_ok : win1.Ok := ⟨by decide, ring1_ok⟩
theorem stateF_ok {led : List Nat} (h : H32 led) : (stateF led).Ok := ⟨H32.zero, h, H32.zero, by show 0 < 4294967296; decide, by show 1 < 4294967296; decide, by show 0 < 4294967296; decide, win1_ok, pairF_ok h⟩
theorem state0_ok : state0.Ok := ⟨H32.zero, H32.zero, H32.zero, by decide, by decide, by decide, ⟨by decide, ⟨by decide, by decide⟩⟩, pair0_ok⟩

/-! ### bytes -/
/-- A state's parts: digests, or numbers. -/
inductive SPart where
  | h (l : List Nat)
  | n (n : Nat)
def SPart.b : SPart → List Nat
  | .h l => l
  | .n k => putB k 4 4
def SState.part (s : SState) : Nat → SPart
  | 0 => .h s.prev | 1 => .h s.led | 2 => .h s.draw | 3 => .n s.slot | 4 => .n s.len | 5 => .n s.count | 6 => .n s.win.min | 7 => .n s.win.ring.last
  | 8 => .n (s.win.ring.counts.getD 0 0) | 9 => .n (s.win.ring.counts.getD 1 0) | 10 => .n (s.win.ring.counts.getD 2 0) | 11 => .n (s.win.ring.counts.getD 3 0)
  | 12 => .h s.eps.now.led | 13 => .h s.eps.now.seed | 14 => .h s.eps.now.start | 15 => .h s.eps.now.lock | 16 => .n s.eps.now.len
  | 17 => .h s.eps.next.led | 18 => .h s.eps.next.seed | 19 => .h s.eps.next.start | 20 => .h s.eps.next.lock | _ => .n s.eps.next.len
def SState.pre (s : SState) : Nat → List Nat
  | 0 => []
  | i + 1 => s.pre i ++ (s.part i).b
def SState.bytes (s : SState) : List Nat := s.pre 22
/-- Where a part's pointer stands: digests and numbers. -/
def ptsOff : Nat → Nat
  | 0 => 0 | 1 => 32 | 2 => 64 | 3 => 96 | 4 => 97 | 5 => 98 | 6 => 99 | 7 => 100 | 8 => 101 | 9 => 102 | 10 => 103 | 11 => 104
  | 12 => 105 | 13 => 137 | 14 => 169 | 15 => 201 | 16 => 233 | 17 => 234 | 18 => 266 | 19 => 298 | 20 => 330 | _ => 362
def ptsH : Nat → Bool
  | 0 => true | 1 => true | 2 => true | 12 => true | 13 => true | 14 => true | 15 => true | 17 => true | 18 => true | 19 => true | 20 => true | _ => false
def ptsV (b i : Nat) : Array Value := match ptsH i with
  | true => #[.pointer (some ⟨b, ptsOff i, none⟩), .pointer none]
  | false => #[.pointer none, .pointer (some ⟨b, ptsOff i, none⟩)]
theorem part_len {s : SState} (h : s.Ok) : ∀ i, (s.part i).b.length ≤ 32 := by
  intro i
  unfold SState.part
  split <;> simp [SPart.b, putB_length, h.prev.len, h.led.len, h.draw.len, h.eps.now.led.len, h.eps.now.seed.len, h.eps.now.start.len, h.eps.now.lock.len, h.eps.next.led.len, h.eps.next.seed.len, h.eps.next.start.len, h.eps.next.lock.len]
theorem pre_len {s : SState} (h : s.Ok) : ∀ i, (s.pre i).length ≤ 32 * i
  | 0 => Nat.le_refl _
  | i + 1 => by
    have := pre_len h i
    have := part_len h i
    simp only [SState.pre, List.length_append]
    omega
theorem putB_byt' (n k j : Nat) : Byt (putB n k j) := fun x hx => by
  unfold putB at hx
  obtain ⟨i, _, rfl⟩ := List.mem_map.1 hx
  exact Nat.mod_lt _ (by decide)
theorem part_byt {s : SState} (h : s.Ok) : ∀ i, Byt (s.part i).b := by
  intro i
  unfold SState.part
  split <;> first | exact putB_byt' _ _ _ | exact h.prev.byt | exact h.led.byt | exact h.draw.byt | exact h.eps.now.led.byt | exact h.eps.now.seed.byt | exact h.eps.now.start.byt | exact h.eps.now.lock.byt | exact h.eps.next.led.byt | exact h.eps.next.seed.byt | exact h.eps.next.start.byt | exact h.eps.next.lock.byt
theorem pre_byt {s : SState} (h : s.Ok) : ∀ i, Byt (s.pre i)
  | 0 => fun _ hx => by cases hx
  | i + 1 => fun x hx => by
    rcases List.mem_append.1 hx with hx | hx
    · exact pre_byt h i x hx
    · exact part_byt h i x hx
theorem bytes_byt {s : SState} (h : s.Ok) : Byt s.bytes := pre_byt h 22
theorem bytes_le {s : SState} (h : s.Ok) : s.bytes.length ≤ 704 := pre_len h 22
def dataB (d : EData) : List Nat := (((d.led ++ d.seed) ++ d.start) ++ d.lock) ++ putB d.len 4 4
theorem st_bytes (s : SState) : s.bytes = (s.pre 12 ++ dataB s.eps.now) ++ dataB s.eps.next := by
  simp only [SState.bytes, SState.pre, SState.part, SPart.b, dataB, List.append_assoc]
theorem dataB_len {d : EData} (h : d.Ok) : (dataB d).length = 132 := by
  simp only [dataB, List.length_append, h.led.len, h.seed.len, h.start.len, h.lock.len, putB_length]
def stateS : ByteArray := ⟨#[115, 116, 97, 116, 101]⟩
def stH (s : SState) : List Nat := tagL (sB stateS) [⟨none, 0, s.bytes⟩]
theorem stH_ok (s : SState) : H32 (stH s) := ⟨tagL_length _ _, tagL_byt _ _⟩
theorem RRing.not0 {r : RRing} (h : r = ⟨r.last, [0, 0, 0, 0]⟩) : ¬ r.Right := fun k => by
  have := k.2.2.2.2
  rw [h] at this
  have h4 : r.last % 4 < 4 := Nat.mod_lt _ (by decide)
  generalize r.last % 4 = j at *
  match j, h4 with
  | 0, _ => simp at this
  | 1, _ => simp at this
  | 2, _ => simp at this
  | 3, _ => simp at this
end Go.Alm

/- Contracts of the older kind as the machine's: the wire. -/
namespace Go.Alm
open Go Go.RowKit

def rrRe (tr b : Nat) (ao : Option Addr) (cap : Nat) (r : Rs) : Re := ⟨rrS b ao r, fun w => RrAt tr w b ao cap r, fun _ h => h.in, fun _ _ _ h F d => h.keep F d⟩
def wrRe (t8 tw b : Nat) (v : Value) (l : List Nat) : Re := ⟨wrS b v, fun w => WrAt t8 tw w b v l, fun _ h => h.in, fun _ _ _ h F d => h.keep F d⟩
theorem View.writer {a : Rc} {t8 tw b : Nat} (h : a = .blk b #[.slice none 0 0] tw := by kernel_rfl) : View a (.gen (wrRe t8 tw b (.slice none 0 0) [])) := by
  subst h
  have ho : ∀ k, ¬ Own (.slice none 0 0) k := fun k hk => by simp [Own, Value.ownBlock] at hk
  refine ⟨fun w hA => ⟨⟨hA, Row.nil w t8 1, fun k hk => (ho k hk).elim⟩, fun k hk => ?_⟩⟩
  rcases hk with hk | hk
  · exact hk
  · exact (ho k hk).elim
section
variable {P : Program} {f : Nat} {args : Array Value} {ro own : List Rc}
theorem Does.mono {R R' : Value → List Rc → Prop} (h : Does P f args ro own R) (k : ∀ v H, R v H → R' v H) : Does P f args ro own R' := fun F w hw => (h F w hw).mono fun _ _ ⟨v, H, hR, he, hH⟩ => ⟨v, H, k v H hR, he, hH⟩
theorem Does.old {X : Type} {v : X → Value} {H' : X → Rc} (T : Nat → Prop)
    (h : ∀ w, Hs w ro own → Calls P f args w fun e w' => ∃ x, e = .returned (v x) ∧ (H' x).A w' ∧ Fr w w' T ∧ ∀ k, (H' x).S k → (∃ r ∈ own, r.S k) ∨ w.heap.size ≤ k)
    (hT : ∀ k, T k → ∃ r ∈ own, r.S k) : Does P f args ro own (fun v' H => ∃ x, v' = v x ∧ H = [H' x]) := by
  intro F w hw
  refine (h w (hw.ro fun r hr => List.mem_cons_of_mem _ hr)).mono ?_
  rintro e w' ⟨x, rfl, hA, hF, hN⟩
  refine ⟨_, _, ⟨x, rfl, rfl⟩, rfl, ?_⟩
  have := Hs.step (A := own) (B := []) (r' := [H' x]) (by simpa using hw) hF (fun k hk => .inl (hT k hk)) (by simpa using hA) (by simpa using hN) (List.pairwise_singleton _ _)
  rw [List.append_nil] at this
  exact this.ro (by simp)
theorem Does.old2 {A B : Type} {v : A → B → Value} {H' : A → B → Rc} (T : Nat → Prop)
    (h : ∀ w, Hs w ro own → Calls P f args w fun e w' => ∃ a b, e = .returned (v a b) ∧ (H' a b).A w' ∧ Fr w w' T ∧ ∀ k, (H' a b).S k → (∃ r ∈ own, r.S k) ∨ w.heap.size ≤ k)
    (hT : ∀ k, T k → ∃ r ∈ own, r.S k) : Does P f args ro own (fun v' H => ∃ a b, v' = v a b ∧ H = [H' a b]) :=
  (Does.old (X := A × B) (v := fun x => v x.1 x.2) (H' := fun x => H' x.1 x.2) T (fun w hw => (h w hw).mono fun _ _ ⟨a, b, h⟩ => ⟨(a, b), h⟩) hT).mono fun _ _ ⟨x, h⟩ => ⟨x.1, x.2, h⟩
theorem Does.old3 {A B C : Type} {v : A → B → C → Value} {H' : A → B → C → Rc} (T : Nat → Prop)
    (h : ∀ w, Hs w ro own → Calls P f args w fun e w' => ∃ a b c, e = .returned (v a b c) ∧ (H' a b c).A w' ∧ Fr w w' T ∧ ∀ k, (H' a b c).S k → (∃ r ∈ own, r.S k) ∨ w.heap.size ≤ k)
    (hT : ∀ k, T k → ∃ r ∈ own, r.S k) : Does P f args ro own (fun v' H => ∃ a b c, v' = v a b c ∧ H = [H' a b c]) :=
  (Does.old2 (A := A × B) (B := C) (v := fun x c => v x.1 x.2 c) (H' := fun x c => H' x.1 x.2 c) T (fun w hw => (h w hw).mono fun _ _ ⟨a, b, c, h⟩ => ⟨(a, b), c, h⟩) hT).mono fun _ _ ⟨x, c, h⟩ => ⟨x.1, x.2, c, h⟩
theorem New.ofOwn {w : World} {r r' : Rc} (h : New w r.S r'.S) : ∀ k, r'.S k → (∃ x ∈ [r], x.S k) ∨ w.heap.size ≤ k := fun k hk => (h k hk).imp (fun h => ⟨r, List.mem_singleton.2 rfl, h⟩) id
theorem New.ofNone {w : World} {r' : Rc} (h : New w N0 r'.S) : ∀ k, r'.S k → (∃ x ∈ ([] : List Rc), x.S k) ∨ w.heap.size ≤ k := fun k hk => (h k hk).imp (fun h => h.elim) id
/-- A row is handed back. -/
theorem Does.oldRow {e1 sz n : Nat} {xs : List Value} (h : ∀ w, Hs w ro [] → Calls P f args w fun e w' => ∃ v', e = .returned v' ∧ Row w' e1 sz v' n xs ∧ Fr w w' N0 ∧ New w N0 (Own v')) :
    Does P f args ro [] (fun v H => ∃ (ao : Option Addr) (cap : Nat), v = .slice ao n cap ∧ H = [.row e1 sz ao n cap xs]) :=
  Does.old2 (v := fun (ao : Option Addr) (cap : Nat) => .slice ao n cap) (H' := fun (ao : Option Addr) (cap : Nat) => .row e1 sz ao n cap xs) N0 (fun w hw => (h w hw).mono fun e w' ⟨v', he, hR, hF, hN⟩ => by
    obtain ⟨ao, cap, rfl, _⟩ := hR.read
    exact ⟨ao, cap, he, hR, hF, New.ofNone hN⟩) (fun _ h => h.elim)
end
end Go.Alm
