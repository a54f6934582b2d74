/- Values of arrays and structs, of whatever depth, compared. -/
import Derived.Test.YtmnehhpfbmoahaaDoorEqs
namespace Go.Alm
open Go Go.RowKit

/-- Two arrays, one behind the other: its own word, that nothing is left open where it is typed. -/
abbrev aj (a b : Array Value) : Array Value := a ++ b
/-- What a cell is of: a bool, a string, a number of a kind. -/
def kindV : Value → Option (Option (Option IntKind))
  | .bool _ => some none
  | .string _ => some (some none)
  | .int q _ => some (some (some q))
  | _ => none
def litV : Value → Lit
  | .bool b => .bool b
  | .string s => .string s.data.toList
  | .int q n => .int q n
  | _ => .bool false
def wfV : Value → Prop
  | .bool _ => True
  | .string s => s.size ≤ maxLen
  | .int q n => (Lit.int q n).wf = true
  | _ => False
def leavesF (g : TypeId → Option (List (Option (Option IntKind)))) (P : Program) : List Field → Nat → Option (List (Option (Option IntKind)))
  | [], _ => some []
  | f :: r, off => match g f.type with
    | some L => if f.offset = off ∧ P.cellsOf f.type = L.length then (leavesF g P r (off + L.length)).map (L ++ ·) else none
    | none => none
/-- A type's cells, as far as they are told. -/
def leaves (P : Program) : Nat → TypeId → Option (List (Option (Option IntKind)))
  | 0, _ => none
  | d + 1, t => match P.underlying t with
    | some .bool => some [none]
    | some .string => some [some none]
    | some (.int q) => some [some (some q)]
    | some (.array n e) => match leaves P d e with
      | some L => if P.cellsOf e = L.length ∧ P.cellsOf t = n * L.length then some (List.replicate n L).flatten else none
      | none => none
    | some (.struct fs) => match leavesF (leaves P d) P fs.toList 0 with
      | some L => if fs.all (·.name != "_") = true ∧ P.cellsOf t = L.length then some L else none
      | none => none
    | _ => none

theorem chunks (k : Nat) : ∀ (n : Nat) (cs : List Value), cs.length = n * k → ((List.range n).map fun i => ((cs.drop (i * k)).take k).map litV).flatten = cs.map litV
  | 0, cs, h => by
    have : cs = [] := List.eq_nil_of_length_eq_zero (by omega)
    subst this; rfl
  | n + 1, cs, h => by
    rw [List.range_succ_eq_map, List.map_cons, List.map_map, List.flatten_cons, Nat.zero_mul, List.drop_zero]
    have hl : (cs.drop k).length = n * k := by rw [List.length_drop, h, Nat.add_mul]; omega
    have ih := chunks k n (cs.drop k) hl
    have e : (List.range n).map ((fun i => ((cs.drop (i * k)).take k).map litV) ∘ Nat.succ) = (List.range n).map fun i => (((cs.drop k).drop (i * k)).take k).map litV := by
      apply List.map_congr_left
      intro i _
      simp only [Function.comp, List.drop_drop]
      congr 3
      rw [Nat.succ_mul]; omega
    rw [e, ih, ← List.map_append, List.take_append_drop]
theorem rep_chunk {α : Type} (L : List α) : ∀ (n i : Nat), i < n → (((List.replicate n L).flatten.drop (i * L.length)).take L.length) = L
  | 0, i, h => by omega
  | n + 1, 0, _ => by rw [List.replicate_succ, List.flatten_cons, Nat.zero_mul, List.drop_zero, List.take_left' rfl]
  | n + 1, i + 1, h => by
    rw [List.replicate_succ, List.flatten_cons, Nat.succ_mul, Nat.add_comm, ← List.drop_drop, List.drop_left' rfl]
    exact rep_chunk L n i (by omega)
theorem leavesF_spec {P : Program} {d : Nat} (IH : ∀ t L, leaves P d t = some L → ∀ cs : List Value, cs.map kindV = L.map some → (∀ v ∈ cs, wfV v) → P.keyLits d t cs = some (cs.map litV)) :
    ∀ (fs : List Field) (off : Nat) (L : List (Option (Option IntKind))) (cs : List Value), leavesF (leaves P d) P fs off = some L → (cs.drop off).map kindV = L.map some → (∀ v ∈ cs, wfV v) →
      ∃ LL, (fs.mapM fun f => P.keyLits d f.type ((cs.drop f.offset).take (P.cellsOf f.type))) = some LL ∧ LL.flatten = (cs.drop off).map litV
  | [], off, L, cs, h, hk, _ => by
    simp only [leavesF, Option.some.injEq] at h
    subst h
    have : cs.drop off = [] := by simpa using hk
    exact ⟨[], rfl, by rw [this]; rfl⟩
  | f :: r, off, L, cs, h, hk, hw => by
    unfold leavesF at h
    split at h
    · rename_i L1 h1
      split at h
      · rename_i hc
        obtain ⟨L2, h2, rfl⟩ := Option.map_eq_some_iff.1 h
        rw [List.map_append] at hk
        have hlen : (cs.drop off).length = L1.length + L2.length := by have := congrArg List.length hk; simpa using this
        have hk1 : ((cs.drop off).take L1.length).map kindV = L1.map some := by
          rw [List.map_take, hk, List.take_left' (by simp)]
        have hk2 : (cs.drop (off + L1.length)).map kindV = L2.map some := by
          rw [← List.drop_drop, List.map_drop, hk, List.drop_left' (by simp)]
        obtain ⟨LL, hm, hf⟩ := leavesF_spec IH r (off + L1.length) L2 cs h2 hk2 hw
        have hg := IH f.type L1 h1 ((cs.drop off).take L1.length) hk1 (fun v hv => hw v (List.mem_of_mem_drop (List.mem_of_mem_take hv)))
        refine ⟨((cs.drop off).take L1.length).map litV :: LL, ?_, ?_⟩
        · rw [List.mapM_cons, hc.1, hc.2, hg, hm]; rfl
        · rw [List.flatten_cons, hf, ← List.map_append, ← List.drop_drop, List.take_append_drop]
      · cases h
    · cases h
theorem keyLits_leaves {P : Program} : ∀ (d : Nat) (t : TypeId) (L : List (Option (Option IntKind))), leaves P d t = some L → ∀ cs : List Value, cs.map kindV = L.map some → (∀ v ∈ cs, wfV v) → P.keyLits d t cs = some (cs.map litV)
  | 0, _, _, h, _, _, _ => by simp [leaves] at h
  | d + 1, t, L, h, cs, hk, hw => by
    have one : ∀ k, L = [k] → ∃ v, cs = [v] ∧ kindV v = some k := fun k e => by
      subst e
      match cs, hk with
      | [v], hk => exact ⟨v, rfl, by simpa using hk⟩
      | [], hk => simp at hk
      | _ :: _ :: _, hk => simp at hk
    unfold leaves at h
    split at h
    · rename_i ht
      obtain ⟨v, rfl, hv⟩ := one _ (Option.some.inj h).symm
      cases v <;> simp [kindV] at hv
      simp [Program.keyLits, ht, litV]
    · rename_i ht
      obtain ⟨v, rfl, hv⟩ := one _ (Option.some.inj h).symm
      cases v <;> simp [kindV] at hv
      have := hw _ (List.mem_singleton.2 rfl)
      simp only [wfV] at this
      simp [Program.keyLits, ht, litV, this]
    · rename_i q ht
      obtain ⟨v, rfl, hv⟩ := one _ (Option.some.inj h).symm
      cases v <;> simp [kindV] at hv
      subst hv
      have := hw _ (List.mem_singleton.2 rfl)
      simp only [wfV] at this
      simp [Program.keyLits, ht, litV, this]
    · rename_i n e ht
      split at h
      · rename_i L1 h1
        split at h
        · rename_i hc
          simp only [Option.some.injEq] at h
          subst h
          have hlen : cs.length = n * L1.length := by
            have := congrArg List.length hk
            simpa using this
          have hm : ((List.range n).mapM fun i => P.keyLits d e ((cs.drop (i * P.cellsOf e)).take (P.cellsOf e))) = some ((List.range n).map fun i => ((cs.drop (i * L1.length)).take L1.length).map litV) := by
            refine mapM_some_of_forall _ fun i hi => ?_
            have hi' := List.mem_range.1 hi
            rw [hc.1]
            refine keyLits_leaves d e L1 h1 _ ?_ (fun v hv => hw v (List.mem_of_mem_drop (List.mem_of_mem_take hv)))
            rw [List.map_take, List.map_drop, hk, ← List.map_drop, ← List.map_take, rep_chunk L1 n i hi']
          unfold Program.keyLits
          simp only [ht, hlen, hc.2, if_true]
          rw [hm, Option.map_some, chunks L1.length n cs hlen]
        · cases h
      · cases h
    · rename_i fs ht
      split at h
      · rename_i L1 h1
        split at h
        · rename_i hc
          simp only [Option.some.injEq] at h
          subst h
          have hlen : cs.length = L1.length := by have := congrArg List.length hk; simpa using this
          obtain ⟨LL, hm, hf⟩ := leavesF_spec (fun t L => keyLits_leaves d t L) fs.toList 0 L1 cs h1 (by rw [List.drop_zero]; exact hk) hw
          unfold Program.keyLits
          simp only [ht, hlen, hc.2, hc.1, and_self, if_true]
          rw [hm, Option.map_some, hf, List.drop_zero]
        · cases h
      · cases h
    · cases h
theorem litV_inj : ∀ {l m : List Value}, l.map kindV = m.map kindV → (∀ v ∈ l, wfV v) → l.map litV = m.map litV → l = m
  | [], [], _, _, _ => rfl
  | [], _ :: _, h, _, _ => by simp at h
  | _ :: _, [], h, _, _ => by simp at h
  | x :: l, y :: m, hk, hw, h => by
    simp only [List.map_cons, List.cons.injEq] at hk h
    rw [litV_inj hk.2 (fun v hv => hw v (by simp [hv])) h.2]
    have hx := hw x (by simp)
    have : x = y := by
      cases x <;> cases y <;> simp_all [kindV, litV, wfV]
      rename_i s s'
      cases s; cases s'
      simp_all [Array.toList_inj]
    rw [this]
def isAggT (P : Program) (t : TypeId) : Bool := match P.underlying t with | some (.struct _) | some (.array _ _) => true | _ => false
def WfA (cs : Array Value) : Prop := ∀ v ∈ cs.toList, wfV v
def WfL : List Value → Prop
  | [] => True
  | v :: r => wfV v ∧ WfL r
theorem WfL.all : ∀ {l : List Value}, WfL l → ∀ v ∈ l, wfV v
  | [], _, v, h => by cases h
  | x :: l, h, v, hv => by
    rcases List.mem_cons.1 hv with rfl | hv
    · exact h.1
    · exact WfL.all h.2 v hv
theorem WfA.lit {l : List Value} (h : WfL l) : WfA l.toArray := fun v hv => h.all v (by simpa using hv)
theorem WfA.app {a b : Array Value} (ha : WfA a) (hb : WfA b) : WfA (a ++ b) := fun v hv => by
  rw [Array.toList_append] at hv
  rcases List.mem_append.1 hv with h | h
  · exact ha v h
  · exact hb v h
theorem WfA.hv {l : List Nat} (hl : l.length = 32) (hb : Byt l) : WfA (hv l) := fun v h => by
  rw [hv_B hl] at h
  obtain ⟨x, hx, rfl⟩ := List.mem_map.1 h
  exact wf_u8 (hb x hx)
theorem wf_n8 {n : Nat} (h : n < 256) : wfV (.int .u8 (n : Int)) := wf_u8 h
theorem wf_n32 {n : Nat} (h : n < 4294967296) : wfV (.int .u32 (n : Int)) := by
  simp only [wfV, Lit.wf, Bool.and_eq_true, decide_eq_true_eq]
  have c1 : IntKind.u32.min = 0 := by decide
  have c2 : IntKind.u32.max = 4294967295 := by decide
  omega
theorem wf_n64 {n : Nat} (h : n < 18446744073709551616) : wfV (.int .u64 (n : Int)) := by
  simp only [wfV, Lit.wf, Bool.and_eq_true, decide_eq_true_eq]
  have c1 : IntKind.u64.min = 0 := by decide
  have c2 : IntKind.u64.max = 18446744073709551615 := by decide
  omega
theorem wf_i64 {n : Int} (h1 : -9223372036854775808 ≤ n) (h2 : n ≤ 9223372036854775807) : wfV (.int .i64 n) := by
  simp only [wfV, Lit.wf, Bool.and_eq_true, decide_eq_true_eq]
  have c1 : IntKind.i64.min = -9223372036854775808 := by decide
  have c2 : IntKind.i64.max = 9223372036854775807 := by decide
  omega

section
variable {P : Program} {a : Act} {w : World} {o : Oper}
theorem run_eqd (b : Bool) (e d t : Nat) (x y : Operand) (cs ds : Array Value) (hed : e + d = 10000) (ho : eqlOf o.op = some (b, t, x, y)) (hk : P.keyTypeAt d t = true) (hg : P.eqGuardType P.depth t = false) (hs : isAggT P t = true)
    (hx : a.eval x = .agg cs) (hy : a.eval y = .agg ds) (hn : cs.size = P.cellsOf t) (hm : ds.size = P.cellsOf t) (k1 : (leaves P d t).map (·.map some) = some (cs.toList.map kindV)) (k2 : (leaves P d t).map (·.map some) = some (ds.toList.map kindV)) (w1 : WfA cs) (w2 : WfA ds) :
    ∃ r : Bool, (execOp a.eval o).run P w = .ok (.value (.bool (cond b r (!r)))) w ∧ (r = true ↔ cs = ds) := by
  have form : ∀ c : Array Value, c.size = P.cellsOf t → Value.formed P t (.agg c) = true := fun c hc => by
    unfold isAggT at hs
    unfold Value.formed
    split at hs <;> simp_all
  obtain ⟨L, hL, e1⟩ := Option.map_eq_some_iff.1 k1
  obtain ⟨L', hL', e2⟩ := Option.map_eq_some_iff.1 k2
  obtain rfl : L = L' := Option.some.inj (hL.symm.trans hL')
  have g1 := keyLits_leaves d t L hL cs.toList e1.symm w1
  have g2 := keyLits_leaves d t L hL ds.toList e2.symm w2
  obtain ⟨r, hr, hiff⟩ := run_equalIn_deep (P := P) e d t hk w d d (.agg cs) (.agg ds) _ _ (form cs hn) (form ds hm) g1 g2
  have hinj : (cs.toList.map litV = ds.toList.map litV) ↔ cs = ds := by
    constructor
    · intro h; exact Array.toList_inj.1 (litV_inj (e1.symm.trans e2) w1 h)
    · rintro rfl; rfl
  refine ⟨r, ?_, hiff.trans hinj⟩
  have heq : (Op.equal t (.agg cs) (.agg ds)).run P w = .ok r w := by
    unfold Op.equal Op.maxDepth
    rw [← hed]
    exact hr
  unfold eqlOf at ho
  split at ho
  · rename_i t' x' y' yt hop
    simp only [Option.some.injEq, Prod.mk.injEq] at ho
    obtain ⟨rfl, rfl, rfl, rfl⟩ := ho
    unfold execOp
    simp only [hop, hx, hy, Sem.run_bind, run_eqGuard_agg w _ _ _ _ _ _ hg, Result.andThen_ok, binOp, heq, Sem.run_pure]
    simp
  · rename_i t' x' y' yt hop
    simp only [Option.some.injEq, Prod.mk.injEq] at ho
    obtain ⟨rfl, rfl, rfl, rfl⟩ := ho
    unfold execOp
    simp only [hop, hx, hy, Sem.run_bind, run_eqGuard_agg w _ _ _ _ _ _ hg, Result.andThen_ok, binOp, heq, Sem.run_pure]
    simp
  · cases ho
theorem run_eqd_self (b : Bool) (e d t : Nat) (x y : Operand) (cs : Array Value) (hed : e + d = 10000) (ho : eqlOf o.op = some (b, t, x, y)) (hk : P.keyTypeAt d t = true) (hg : P.eqGuardType P.depth t = false) (hs : isAggT P t = true)
    (hx : a.eval x = .agg cs) (hy : a.eval y = .agg cs) (hn : cs.size = P.cellsOf t) (k1 : (leaves P d t).map (·.map some) = some (cs.toList.map kindV)) (w1 : WfA cs) : (execOp a.eval o).run P w = .ok (.value (.bool b)) w := by
  obtain ⟨r, hr, hiff⟩ := run_eqd (w := w) b e d t x y cs cs hed ho hk hg hs hx hy hn hn k1 k1 w1 w1
  have : r = true := hiff.2 rfl
  subst this
  rw [hr]
  cases b <;> rfl
theorem run_eqd_ne (b : Bool) (e d t : Nat) (x y : Operand) (cs ds : Array Value) (hed : e + d = 10000) (ho : eqlOf o.op = some (b, t, x, y)) (hk : P.keyTypeAt d t = true) (hg : P.eqGuardType P.depth t = false) (hs : isAggT P t = true)
    (hx : a.eval x = .agg cs) (hy : a.eval y = .agg ds) (hn : cs.size = P.cellsOf t) (hm : ds.size = P.cellsOf t) (k1 : (leaves P d t).map (·.map some) = some (cs.toList.map kindV)) (k2 : (leaves P d t).map (·.map some) = some (ds.toList.map kindV)) (w1 : WfA cs) (w2 : WfA ds) (hne : cs ≠ ds) :
    (execOp a.eval o).run P w = .ok (.value (.bool (!b))) w := by
  obtain ⟨r, hr, hiff⟩ := run_eqd (w := w) b e d t x y cs ds hed ho hk hg hs hx hy hn hm k1 k2 w1 w2
  have : r = false := by
    cases r with
    | false => rfl
    | true => exact absurd (hiff.1 rfl) hne
  subst this
  rw [hr]
  cases b <;> rfl
end
end Go.Alm
