/- Equality of arrays of numbers, by the kit's law for keys. -/
import Derived.Test.YtmnehhpfbmoahaaDoorWire
import Derived.DeepKeys
import Derived.DataBytes
namespace Go.Alm
open Go Go.RowKit

section
variable {P : Program} {a : Act} {w : World} {o : Oper}

theorem map_inj' {α β : Type} {f : α → β} (hf : ∀ x y, f x = f y → x = y) : ∀ {l m : List α}, l.map f = m.map f → l = m
  | [], [], _ => rfl
  | [], _ :: _, h => by simp at h
  | _ :: _, [], h => by simp at h
  | x :: l, y :: m, h => by
    simp only [List.map_cons, List.cons.injEq] at h
    rw [hf x y h.1, map_inj' hf h.2]
/-- Is `t` an array of so many numbers of a kind? -/
def arrInt (P : Program) (t : TypeId) : Option (Nat × IntKind) := match P.underlying t with
  | some (.array n e) => match P.underlying e with
    | some (.int q) => if P.cellsOf e = 1 ∧ P.cellsOf t = n then some (n, q) else none
    | _ => none
  | _ => none

theorem keyLits_ints {t n : Nat} {q : IntKind} (h : arrInt P t = some (n, q)) (l : List Int) (hl : l.length = n) (hw : ∀ x ∈ l, (Lit.int q x).wf = true) :
    P.keyLits 2 t (l.map (.int q ·)) = some (l.map (.int q ·)) := by
  unfold arrInt at h
  split at h
  · rename_i n' e ht
    split at h
    · rename_i q' he
      split at h
      · rename_i hc
        simp only [Option.some.injEq, Prod.mk.injEq] at h
        obtain ⟨rfl, rfl⟩ := h
        have h1 : ((List.range n').mapM fun i => P.keyLits 1 e (((l.map (Value.int q' ·)).drop (i * P.cellsOf e)).take (P.cellsOf e))) = some ((List.range n').map fun i => [Lit.int q' (l.getD i 0)]) := by
          refine mapM_some_of_forall _ fun i hi => ?_
          have hi' : i < l.length := by rw [hl]; exact List.mem_range.1 hi
          have hd : ((l.map (Value.int q' ·)).drop (i * P.cellsOf e)).take (P.cellsOf e) = [.int q' l[i]] := by
            rw [hc.1, Nat.mul_one, List.drop_eq_getElem_cons (by simpa using hi')]
            simp
          rw [hd]
          simp only [Program.keyLits, he, hw _ (List.getElem_mem hi'), and_self, if_true]
          simp [hi']
        rw [show (2 : Nat) = 1 + 1 from rfl]
        unfold Program.keyLits
        simp only [ht, List.length_map, hl, hc.2, if_true]
        rw [h1]
        simp only [Option.map_some, Option.some.injEq]
        rw [← hl]
        clear h1 hw hl
        apply List.ext_getElem?
        intro j
        have : ((List.range l.length).map fun i => [Lit.int q' (l.getD i 0)]).flatten = (List.range l.length).map fun i => Lit.int q' (l.getD i 0) := by
          generalize List.range l.length = r
          induction r with
          | nil => rfl
          | cons x r ih => rw [List.map_cons, List.flatten_cons, ih, List.map_cons]; rfl
        rw [this]
        simp only [List.getElem?_map]
        by_cases hj : j < l.length
        · simp [hj]
        · simp [hj]
      · cases h
    · cases h
  · cases h

def eqlOf : Op → Option (Bool × TypeId × Operand × Operand)
  | .binOp .eql t x y _ => some (true, t, x, y)
  | .binOp .neq t x y _ => some (false, t, x, y)
  | _ => none

theorem run_eq_ints (b : Bool) (t : TypeId) (x y : Operand) (n : Nat) (q : IntKind) (l m : List Int) (ho : eqlOf o.op = some (b, t, x, y)) (ht : arrInt P t = some (n, q)) (hk : P.keyTypeAt 2 t = true) (hg : P.eqGuardType P.depth t = false) (hagg : ∀ cs : Array Value, Value.formed P t (.agg cs) = (cs.size == n))
    (hx : a.eval x = .agg (l.map (.int q ·)).toArray) (hy : a.eval y = .agg (m.map (.int q ·)).toArray) (hl : l.length = n) (hm : m.length = n) (wl : ∀ x ∈ l, (Lit.int q x).wf = true) (wm : ∀ x ∈ m, (Lit.int q x).wf = true) :
    (execOp a.eval o).run P w = .ok (.value (.bool (cond b (decide (l = m)) (!decide (l = m))))) w := by
  obtain ⟨r, hr, hiff⟩ := run_equalIn_deep (P := P) 9998 2 t hk w 2 2 (.agg (l.map (.int q ·)).toArray) (.agg (m.map (.int q ·)).toArray) _ _
    (by rw [hagg]; simp [hl]) (by rw [hagg]; simp [hm]) (by simpa [Value.cells] using keyLits_ints ht l hl wl) (by simpa [Value.cells] using keyLits_ints ht m hm wm)
  have hinj : (l.map (Lit.int q ·) = m.map (Lit.int q ·)) ↔ l = m := by
    constructor
    · intro h
      exact map_inj' (fun x y e => by injection e) h
    · rintro rfl; rfl
  have hr2 : r = decide (l = m) := by
    rw [hinj] at hiff
    cases r with
    | true => simp [hiff.1 rfl]
    | false =>
      have : ¬ l = m := fun e => by have := hiff.2 e; cases this
      simp [this]
  have heq : (Op.equal t (.agg (l.map (.int q ·)).toArray) (.agg (m.map (.int q ·)).toArray)).run P w = .ok (decide (l = m)) w := by
    unfold Op.equal Op.maxDepth
    rw [← hr2]
    exact hr
  unfold eqlOf at ho
  split at ho
  · rename_i t' x' y' yt hop
    simp only [Option.some.injEq, Prod.mk.injEq] at ho
    obtain ⟨rfl, rfl, rfl, rfl⟩ := ho
    unfold execOp
    simp only [hop, hx, hy, Sem.run_bind, run_eqGuard_agg w _ _ _ _ _ _ hg, Result.andThen_ok, binOp, heq, Sem.run_pure]
    simp
  · rename_i t' x' y' yt hop
    simp only [Option.some.injEq, Prod.mk.injEq] at ho
    obtain ⟨rfl, rfl, rfl, rfl⟩ := ho
    unfold execOp
    simp only [hop, hx, hy, Sem.run_bind, run_eqGuard_agg w _ _ _ _ _ _ hg, Result.andThen_ok, binOp, heq, Sem.run_pure]
    simp
  · cases ho

theorem hv_arr {l : List Nat} (h : l.length = 32) : hv l = ((l.map fun (x : Nat) => (x : Int)).map (.int .u8 ·)).toArray := by
  apply Array.toList_inj.1
  rw [hv_B h]
  simp [B]
theorem wf_u8 {x : Nat} (h : x < 256) : (Lit.int .u8 (x : Int)).wf = true := by
  simp only [Lit.wf, Bool.and_eq_true, decide_eq_true_eq]
  constructor
  · exact Int.le_trans (by decide) (Int.natCast_nonneg x)
  · have : IntKind.u8.max = 255 := by decide
    omega
theorem cast_inj {l m : List Nat} : (l.map fun (x : Nat) => (x : Int)) = (m.map fun (x : Nat) => (x : Int)) ↔ l = m := by
  constructor
  · intro h
    exact map_inj' (fun x y e => by omega) h
  · rintro rfl; rfl
/-- Two digests. -/
theorem run_eq_hash (b : Bool) (t : TypeId) (x y : Operand) (l m : List Nat) (ho : eqlOf o.op = some (b, t, x, y)) (ht : arrInt P t = some (32, .u8)) (hk : P.keyTypeAt 2 t = true) (hg : P.eqGuardType P.depth t = false)
    (hx : a.eval x = .agg (hv l)) (hy : a.eval y = .agg (hv m)) (hl : l.length = 32) (hm : m.length = 32) (wl : Byt l) (wm : Byt m) :
    (execOp a.eval o).run P w = .ok (.value (.bool (cond b (decide (l = m)) (!decide (l = m))))) w := by
  have hagg : ∀ cs : Array Value, Value.formed P t (.agg cs) = (cs.size == 32) := by
    intro cs
    unfold arrInt at ht
    split at ht
    · rename_i n' e hu
      split at ht
      · split at ht
        · rename_i hc
          simp only [Option.some.injEq, Prod.mk.injEq] at ht
          obtain ⟨rfl, rfl⟩ := ht
          simp [Value.formed, hu, hc.2]
        · cases ht
      · cases ht
    · cases ht
  have h := run_eq_ints (w := w) b t x y 32 .u8 (l.map fun (x : Nat) => (x : Int)) (m.map fun (x : Nat) => (x : Int)) ho ht hk hg hagg (by rw [hx, hv_arr hl]) (by rw [hy, hv_arr hm]) (by simpa using hl) (by simpa using hm)
    (fun z hz => by obtain ⟨n, hn, rfl⟩ := List.mem_map.1 hz; exact wf_u8 (wl n hn)) (fun z hz => by obtain ⟨n, hn, rfl⟩ := List.mem_map.1 hz; exact wf_u8 (wm n hn))
  have e : decide ((l.map fun (x : Nat) => (x : Int)) = (m.map fun (x : Nat) => (x : Int))) = decide (l = m) := by simp only [cast_inj]
  rw [h, e]
theorem run_eq_hash_self (t : TypeId) (x y : Operand) (l : List Nat) (ho : eqlOf o.op = some (true, t, x, y)) (ht : arrInt P t = some (32, .u8)) (hk : P.keyTypeAt 2 t = true) (hg : P.eqGuardType P.depth t = false)
    (hx : a.eval x = .agg (hv l)) (hy : a.eval y = .agg (hv l)) (hl : l.length = 32) (wl : Byt l) : (execOp a.eval o).run P w = .ok (.value (.bool true)) w := by
  have h := run_eq_hash (w := w) true t x y l l ho ht hk hg hx hy hl hl wl wl
  rw [decide_eq_true rfl] at h
  exact h
end
theorem beq_nat (a b : Nat) : ((a : Int) == (b : Int)) = decide (a = b) := by
  by_cases h : a = b
  · subst h; simp
  · have : ¬ (a : Int) = (b : Int) := by omega
    rw [decide_eq_false h]
    exact beq_eq_false_iff_ne.2 this
theorem bne_nat (a b : Nat) : ((a : Int) != (b : Int)) = !decide (a = b) := by
  rw [bne, beq_nat]
end Go.Alm
