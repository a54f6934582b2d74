/- A region whose order is open: one order serves, where what reads or reckons may be done ahead and what acts comes one by one. -/
import Derived.Test.YtmnehhpfbmoahaaDoorMem
namespace Go.Alm
open Go Go.RowKit

section
variable {P : Program} {ops : Array Oper} {Q : Exit → Act → World → Prop} {S : World → Prop} {sk : Nat → Bool}

/-- Whatever order is picked; `S` holds behind those of `sk`. -/
def wpAnyP (P : Program) (ops : Array Oper) (Q : Exit → Act → World → Prop) (S : World → Prop) (sk : Nat → Bool) : Nat → Array Bool → Act → World → Prop
  | 0, listed, a, w => Region.ready .any ops listed = [] ∧ Q .normal a w
  | fuel + 1, listed, a, w =>
    (Region.ready .any ops listed = [] → Q .normal a w) ∧
    ∀ i ∈ Region.ready .any ops listed, wpOp P ops Q i (fun a' w' => (sk i = true → S w') ∧ wpAnyP P ops Q S sk fuel (listed.setIfInBounds i true) a' w') a w

theorem wpAny_of_P : ∀ (fuel : Nat) (listed : Array Bool) (a : Act) (w : World), wpAnyP P ops Q S sk fuel listed a w → wpAny P .any ops Q fuel listed a w
  | 0, _, _, _, h => h
  | fuel + 1, _, _, _, h => ⟨h.1, fun i hi => wpOp_mono (fun a' w' h' => wpAny_of_P fuel _ a' w' h'.2) (h.2 i hi)⟩

def Closed (ops : Array Oper) (listed : Array Bool) : Prop :=
  ∀ j oj, ops[j]? = some oj → listed.getD j false = true → ∀ e ∈ oj.after, Region.binds .any e = true → listed.getD e.on false = true

theorem Closed.set {listed : Array Bool} {i : Nat} (hc : Closed ops listed) (hi : i ∈ Region.ready .any ops listed) : Closed ops (listed.setIfInBounds i true) := by
  obtain ⟨_, oi, hoi, hall⟩ := mem_ready.1 hi
  intro j oj hj hl e he hb
  by_cases hij : i = j
  · subst hij
    obtain rfl : oj = oi := Option.some.inj (hj.symm.trans hoi)
    exact getD_set_true (hall e he hb)
  · rw [getD_set_ne false hij] at hl
    exact getD_set_true (hc j oj hj hl e he hb)

/-- Does `j` wait for `i`, by edges? -/
def reach (ops : Array Oper) : Nat → Nat → Nat → Bool
  | 0, _, _ => false
  | n + 1, j, i => match ops[j]? with
    | some o => o.after.any fun e => Region.binds .any e && (e.on == i || (Nat.blt i e.on && reach ops n e.on i))
    | none => false

theorem reach_listed {listed : Array Bool} (hc : Closed ops listed) : ∀ (n j i : Nat), reach ops n j i = true → listed.getD j false = true → listed.getD i false = true
  | n + 1, j, i, h, hj => by
    simp only [reach] at h
    split at h
    · rename_i o ho
      obtain ⟨e, he, hb⟩ := Array.any_eq_true'.1 h
      simp only [Bool.and_eq_true, Bool.or_eq_true, beq_iff_eq] at hb
      have h1 := hc j o ho hj e he hb.1
      rcases hb.2 with rfl | hr
      · exact h1
      · exact reach_listed hc n e.on i hr.2 h1
    · cases h

theorem reach_ready {listed : Array Bool} (hc : Closed ops listed) {n j i : Nat} (h : reach ops n j i = true) (hj : j ∈ Region.ready .any ops listed) : listed.getD i false = true := by
  obtain ⟨_, o, ho, hall⟩ := mem_ready.1 hj
  cases n with
  | zero => simp [reach] at h
  | succ n =>
    simp only [reach, ho] at h
    obtain ⟨e, he, hb⟩ := Array.any_eq_true'.1 h
    simp only [Bool.and_eq_true, Bool.or_eq_true, beq_iff_eq] at hb
    have h1 := hall e he hb.1
    rcases hb.2 with rfl | hr
    · exact h1
    · exact reach_listed hc n e.on i hr.2 h1

theorem not_listed {listed : Array Bool} {i : Nat} (h : listed.getD i true = false) : listed.getD i false ≠ true := by
  rcases Nat.lt_or_ge i listed.size with h' | h'
  · simp [h'] at h ⊢; exact h
  · simp [Array.getElem?_eq_none h'] at h

/-- What is quiet may be done first. -/
theorem anyP_first {i n : Nat} {oi : Oper} {v : Value} (ld : Bool) (hi : ops[i]? = some oi) (hsel : ∀ (j : Nat) (o : Oper) cs b, ops[j]? = some o → o.op ≠ .select cs b)
    (hQ : ∀ c a w, Q (.panic c) (a.put oi.dst v) w → Q (.panic c) a w) :
    ∀ (fuel : Nat) (listed : Array Bool) (a : Act) (w : World), Closed ops listed →
      (∀ j oj, ops[j]? = some oj → j ≠ i → listed.getD j true = false → reach ops n j i = false → oi.apart ops oj = true ∧ ((ld || sk i) = true → sk j = true)) →
      i ∈ Region.ready .any ops listed → YieldsIf P ops (fun w => ld = true → S w) oi v a → ((ld || sk i) = true → S w) →
      wpAnyP P ops Q S sk fuel (listed.setIfInBounds i true) (a.put oi.dst v) w → wpAnyP P ops Q S sk (fuel + 1) listed a w := by
  intro fuel
  induction fuel with
  | zero =>
    intro listed a w _ _ hr hy hS H
    refine ⟨fun h => (by rw [h] at hr; cases hr), fun j hj => ?_⟩
    by_cases hji : j = i
    · subst hji; exact hy.wpOp hi (fun h => hS (by simp [h])) ⟨fun h => hS (by simp [h]), H⟩
    · have := ready_mono hj hji
      rw [H.1] at this
      cases this
  | succ fuel ih =>
    intro listed a w hc hfree hr hy hS H
    refine ⟨fun h => (by rw [h] at hr; cases hr), fun j hj => ?_⟩
    by_cases hji : j = i
    · subst hji; exact hy.wpOp hi (fun h => hS (by simp [h])) ⟨fun h => hS (by simp [h]), H⟩
    · have h1 := H.2 j (ready_mono hj hji)
      obtain ⟨hjun, oj, hoj, hall⟩ := mem_ready.1 hj
      have hiun := (mem_ready.1 hr).1
      have hnr : reach ops n j i = false := by
        cases hre : reach ops n j i with
        | false => rfl
        | true => exact absurd (reach_ready hc hre hj) (not_listed hiun)
      obtain ⟨hap, hsk⟩ := hfree j oj hoj hji hjun hnr
      have h2 := wpOp_putIf hoj hap (fun cs b => hsel i oi cs b hi) (fun cs b => hsel j oj cs b hoj) hQ hy h1
      have hfree' : ∀ k ok, ops[k]? = some ok → k ≠ i → (listed.setIfInBounds j true).getD k true = false → reach ops n k i = false →
          oi.apart ops ok = true ∧ ((ld || sk i) = true → sk k = true) := fun k ok hk hki hun hno => by
        refine hfree k ok hk hki ?_ hno
        by_cases hjk : j = k
        · subst hjk; exact hjun
        · rw [getD_set_ne true hjk] at hun; exact hun
      refine wpOp_mono (fun a' w' h3 => ⟨h3.2.1, ?_⟩) h2
      refine ih (listed.setIfInBounds j true) a' w' (hc.set hj) hfree' (ready_mono hr (Ne.symm hji)) h3.1 (fun hl => h3.2.1 (hsk hl)) ?_
      rw [Array.setIfInBounds_comm _ _ hji]
      exact h3.2.2

/-- How an operation is met: quietly (does it read?), or as one that acts. -/
inductive PK where
  | q (ld : Bool)
  | e

/-- One order, in which it is shown. -/
def wpPlan (P : Program) (ops : Array Oper) (Q : Exit → Act → World → Prop) (S : World → Prop) (sk : Nat → Bool) : List (Nat × PK) → Act → World → Prop
  | [], a, w => Q .normal a w
  | (i, .q ld) :: π, a, w => ∃ v, YieldsIf P ops (fun w => ld = true → S w) (opAt ops i) v a ∧ ((ld || sk i) = true → S w) ∧ wpPlan P ops Q S sk π (a.put (opAt ops i).dst v) w
  | (i, .e) :: π, a, w => wpOp P ops Q i (fun a' w' => (sk i = true → S w') ∧ wpPlan P ops Q S sk π a' w') a w

def freeB (ops : Array Oper) (sk : Nat → Bool) (listed : Array Bool) (i : Nat) (ld : Bool) : Bool :=
  (List.range ops.size).all fun j => j == i || listed.getD j true || reach ops 9 j i || ((opAt ops i).apart ops (opAt ops j) && (!(ld || sk i) || sk j))
theorem freeB_spec {listed : Array Bool} {i : Nat} {ld : Bool} (h : freeB ops sk listed i ld = true) (j : Nat) (oj : Oper) (hj : ops[j]? = some oj) (hne : j ≠ i) (hun : listed.getD j true = false) (hno : reach ops 9 j i = false) :
    (opAt ops i).apart ops oj = true ∧ ((ld || sk i) = true → sk j = true) := by
  have hlt := (Array.getElem?_eq_some_iff.1 hj).1
  have h1 := List.all_eq_true.1 h j (List.mem_range.2 hlt)
  have hoj : opAt ops j = oj := by simp [opAt, hlt, (Array.getElem?_eq_some_iff.1 hj).2]
  simp only [Bool.or_eq_true, Bool.and_eq_true, beq_iff_eq, hne, hun, hno, false_or, Bool.false_eq_true, Bool.not_eq_true', hoj] at h1
  refine ⟨h1.1, fun hl => ?_⟩
  rcases h1.2 with h2 | h2
  · simp only [Bool.or_eq_true] at hl; simp only [Bool.or_eq_false_iff] at h2; rcases hl with hl | hl <;> simp_all
  · exact h2

def planB (ops : Array Oper) (sk : Nat → Bool) : List (Nat × PK) → Array Bool → Bool
  | [], listed => (Region.ready .any ops listed).isEmpty
  | (i, .q ld) :: π, listed => (Region.ready .any ops listed).contains i && freeB ops sk listed i ld && planB ops sk π (listed.setIfInBounds i true)
  | (i, .e) :: π, listed => decide (Region.ready .any ops listed = [i]) && planB ops sk π (listed.setIfInBounds i true)

theorem opAt_of {i : Nat} {o : Oper} (h : ops[i]? = some o) : ops[i]? = some (opAt ops i) := by
  have hlt := (Array.getElem?_eq_some_iff.1 h).1
  simp [opAt, hlt]

theorem plan_any (hs : Region.noSelect ops = true) (hQ : ∀ c a w, ¬ Q (.panic c) a w) : ∀ (π : List (Nat × PK)) (listed : Array Bool) (a : Act) (w : World), Closed ops listed →
    planB ops sk π listed = true → wpPlan P ops Q S sk π a w → wpAnyP P ops Q S sk π.length listed a w
  | [], listed, a, w, _, hB, h => ⟨by simpa [planB] using hB, h⟩
  | (i, .q ld) :: π, listed, a, w, hc, hB, h => by
    simp only [planB, Bool.and_eq_true] at hB
    obtain ⟨⟨hr, hf⟩, hB'⟩ := hB
    have hr' : i ∈ Region.ready .any ops listed := by simpa using hr
    obtain ⟨_, o, ho, _⟩ := mem_ready.1 hr'
    obtain ⟨v, hy, hS, hk⟩ := h
    exact anyP_first (n := 9) ld (opAt_of ho) (Region.noSelect_spec hs) (fun c a w hq => absurd hq (hQ _ _ _)) π.length listed a w hc
      (fun j oj hj hne hun hno => freeB_spec hf j oj hj hne hun hno) hr' hy hS (plan_any hs hQ π _ _ _ (hc.set hr') hB' hk)
  | (i, .e) :: π, listed, a, w, hc, hB, h => by
    simp only [planB, Bool.and_eq_true, decide_eq_true_eq] at hB
    obtain ⟨hr, hB'⟩ := hB
    have hi : i ∈ Region.ready .any ops listed := by rw [hr]; simp
    refine ⟨fun h0 => (by rw [h0] at hr; cases hr), fun j hj => ?_⟩
    rw [hr] at hj
    obtain rfl : j = i := by simpa using hj
    exact wpOp_mono (fun a' w' hk => ⟨hk.1, plan_any hs hQ π _ _ _ (hc.set hi) hB' hk.2⟩) h

theorem getD_rep {m j : Nat} : (Array.replicate m false).getD j false = false := by
  rcases Nat.lt_or_ge j m with h | h
  · simp [h]
  · simp [h]

/-- Only the plain way out. -/
def OnlyN (K : Act → World → Prop) : Exit → Act → World → Prop
  | .normal, a, w => K a w
  | _, _, _ => False

/-- At number `n` of the order. -/
structure plAt (P : Program) (ops : Array Oper) (K : Act → World → Prop) (S : World → Prop) (sk : Nat → Bool) (π : List (Nat × PK)) (n : Nat) (a : Act) (w : World) : Prop where
  out : wpPlan P ops (OnlyN K) S sk (π.drop n) a w

theorem c_plan {f : Nat} {p : List Nat} {a : Act} {w : World} (id : Nat) (R : Array Oper) (S : World → Prop) (sk : Nat → Bool) (π : List (Nat × PK)) (hm : P.follows .mixedOrders = true) (h : cAt P f p = .region id R true) (hs : Region.noSelect R = true)
    (hlen : π.length = R.size) (hB : planB R sk π (Array.replicate R.size false) = true)
    (k : ∀ w1, Fr w w1 N0 → plAt P R (fun a w => Q .normal a w) S sk π 0 a w1) : CW P f p Q a w := by
  refine ⟨?_⟩
  rw [h]
  refine Code.wp_mono (Q := OnlyN (fun a w => Q .normal a w)) (fun e a w hq => by cases e <;> first | exact hq | exact hq.elim) ?_
  refine wp_region_any hm (wpAny_of_P (S := S) (sk := sk) _ _ _ _ ?_)
  rw [← hlen]
  refine plan_any hs (fun _ _ _ h => h) π _ a _ (fun j oj _ hl => ?_) (hlen ▸ hB) (by simpa using (k w.drew (Fr.refl _ _).drew).out)
  rw [getD_rep] at hl
  cases hl

variable {K : Act → World → Prop} {π : List (Nat × PK)} {n : Nat} {a : Act} {w : World}

theorem pl_done (h : n = π.length) (k : K a w) : plAt P ops K S sk π n a w := by
  subst h
  refine ⟨?_⟩
  rw [List.drop_eq_nil_of_le (Nat.le_refl _)]
  exact k

theorem dropL {α : Type} {l : List α} {n : Nat} {x : α} (h : l[n]? = some x) : l.drop n = x :: l.drop (n + 1) := by
  obtain ⟨hi, he⟩ := List.getElem?_eq_some_iff.1 h
  rw [List.drop_eq_getElem_cons hi, he]

def okQ (P : Program) (ops : Array Oper) : List (Nat × PK) → Act → Bool
  | [], _ => true
  | (i, .q false) :: l, a => if Region.wanted (opAt ops i) (yielded ops a.tmps) then
      match pureVal P (execOp a.eval (opAt ops i)) with
      | some (.value v) => okQ P ops l (a.put (opAt ops i).dst v)
      | _ => false
    else okQ P ops l (a.put (opAt ops i).dst undef)
  | _, _ => false
def runQ (P : Program) (ops : Array Oper) : List (Nat × PK) → Act → Act
  | [], a => a
  | (i, _) :: l, a => runQ P ops l (a.put (opAt ops i).dst (if Region.wanted (opAt ops i) (yielded ops a.tmps) then (stepVal P a (opAt ops i)).getD undef else undef))

theorem pl_pures_list (rest : List (Nat × PK)) : ∀ (l : List (Nat × PK)) (a : Act), okQ P ops l a = true → ((l.any fun x => sk x.1) = true → S w) → wpPlan P ops Q S sk rest (runQ P ops l a) w → wpPlan P ops Q S sk (l ++ rest) a w
  | [], _, _, _, h => h
  | (i, .e) :: l, a, hok, _, _ => by simp [okQ] at hok
  | (i, .q true) :: l, a, hok, _, _ => by simp [okQ] at hok
  | (i, .q false) :: l, a, hok, hS, h => by
    simp only [List.cons_append, wpPlan]
    simp only [okQ] at hok
    simp only [runQ] at h
    have hS1 : (false || sk i) = true → S w := fun hk => hS (by simp only [Bool.false_or] at hk; simp [hk])
    have hS2 : (l.any fun x => sk x.1) = true → S w := fun hk => hS (by simp only [List.any_cons, hk, Bool.or_true])
    by_cases hw : Region.wanted (opAt ops i) (yielded ops a.tmps) = true
    · simp only [hw, if_true] at hok h
      split at hok
      · rename_i v hp
        have hs : stepVal P a (opAt ops i) = some v := by simp [stepVal, hp]
        rw [hs] at h
        refine ⟨v, .inl ⟨hw, fun w' _ => pureVal_run hp w'⟩, hS1, pl_pures_list rest l _ hok hS2 h⟩
      · cases hok
    · simp only [hw] at hok h
      simp only [Bool.false_eq_true, if_false] at hok h
      exact ⟨undef, .inr ⟨by simpa using hw, rfl⟩, hS1, pl_pures_list rest l _ hok hS2 h⟩

def okJ (P : Program) (ops : Array Oper) (π : List (Nat × PK)) (n m : Nat) (a : Act) : Bool := okQ P ops ((π.drop n).take (m - n)) a
def runJ (P : Program) (ops : Array Oper) (π : List (Nat × PK)) (n m : Nat) (a : Act) : Act := runQ P ops ((π.drop n).take (m - n)) a
def skJ (sk : Nat → Bool) (π : List (Nat × PK)) (n m : Nat) : Bool := ((π.drop n).take (m - n)).any fun x => sk x.1

theorem pl_pures (m : Nat) (hnm : Nat.ble n m = true) (hok : okJ P ops π n m a = true) (hS : skJ sk π n m = true → S w)
    (k : plAt P ops K S sk π m (runJ P ops π n m a) w) : plAt P ops K S sk π n a w := by
  unfold okJ at hok
  unfold skJ at hS
  unfold runJ at k
  have hle := Nat.le_of_ble_eq_true hnm
  have k := k.out
  refine ⟨?_⟩
  have e : π.drop n = (π.drop n).take (m - n) ++ π.drop m := by
    conv => lhs; rw [← List.take_append_drop (m - n) (π.drop n)]
    rw [List.drop_drop, Nat.add_sub_cancel' hle]
  rw [e]
  exact pl_pures_list _ _ _ hok hS k

/-- What reads: its value in every world that is as `S` says. -/
theorem pl_read (i : Nat) (v : Value) (hn : π[n]? = some (i, .q true)) (hon : onAt ops i a = true) (h : ∀ w', S w' → (execOp a.eval (opAt ops i)).run P w' = .ok (.value v) w') (hS : S w)
    (k : plAt P ops K S sk π n.succ (a.put (opAt ops i).dst v) w) : plAt P ops K S sk π n a w := by
  have k := k.out
  refine ⟨?_⟩
  rw [dropL hn]
  exact ⟨v, .inl ⟨(onAt_spec hon).2, fun w' hw' => h w' (hw' rfl)⟩, fun _ => hS, k⟩

/-- What acts. -/
theorem pl_do (i : Nat) (hn : π[n]? = some (i, .e)) (hon : onAt ops i a = true) (h : OpW P (opAt ops i) a w (fun a' w' => (sk i = true → S w') ∧ plAt P ops K S sk π n.succ a' w') (OnlyN K)) : plAt P ops K S sk π n a w := by
  obtain ⟨h1, h2⟩ := onAt_spec hon
  have hlt : i < ops.size := by simpa using h1
  refine ⟨?_⟩
  rw [dropL hn]
  have ho : ops[i]? = some (opAt ops i) := by simp [opAt, hlt]
  simp only [wpPlan, wpOp, ho, h2, if_true]
  exact .inl (Oper.wp_mono (fun a w hk => ⟨hk.1, hk.2.out⟩) h.out)
/-- What would act is not wanted. -/
theorem pl_off (i : Nat) (hn : π[n]? = some (i, .e)) (hi : Nat.blt i ops.size = true) (hw : Region.wanted (opAt ops i) (yielded ops a.tmps) = false) (hS : sk i = true → S w)
    (k : plAt P ops K S sk π n.succ (a.put (opAt ops i).dst undef) w) : plAt P ops K S sk π n a w := by
  have hlt : i < ops.size := by simpa using hi
  have k := k.out
  refine ⟨?_⟩
  rw [dropL hn]
  have ho : ops[i]? = some (opAt ops i) := by simp [opAt, hlt]
  simp only [wpPlan, wpOp, ho, hw, Bool.false_eq_true, if_false]
  exact ⟨hS, k⟩
end
end Go.Alm

namespace Go.Alm
open Go
section
variable {P : Program} {ops : Array Oper} {S : World → Prop} {sk : Nat → Bool} {K : Act → World → Prop} {π : List (Nat × PK)} {n : Nat} {a : Act} {w : World}

theorem stepVal_run {o : Oper} {v : Value} (h : pureVal P (execOp a.eval o) = some (.value v)) (w : World) : (execOp a.eval o).run P w = .ok (.value v) w := pureVal_run h w

/-- The kernel runs it; said in other words. -/
theorem pl_as (i : Nat) (v v' : Value) (hn : π[n]? = some (i, .q false)) (hon : onAt ops i a = true) (h : okQ P ops [(i, .q false)] a = true ∧ stepVal P a (opAt ops i) = some v) (e : v = v') (hS : sk i = true → S w)
    (k : plAt P ops K S sk π n.succ (a.put (opAt ops i).dst v') w) : plAt P ops K S sk π n a w := by
  subst e
  have hw := (onAt_spec hon).2
  obtain ⟨h1, h2⟩ := h
  simp only [okQ, hw, if_true] at h1
  have k := k.out
  refine ⟨?_⟩
  rw [dropL hn]
  split at h1
  · rename_i u hp
    have : u = v := by simpa [stepVal, hp] using h2
    subst this
    exact ⟨u, .inl ⟨hw, fun w' _ => pureVal_run hp w'⟩, fun hk => hS (by simpa using hk), k⟩
  · cases h1

theorem pl_split (i : Nat) (t : Bool) (hn : π[n]? = some (i, .q false)) (hon : onAt ops i a = true) (h : pureVal P (execOp a.eval (opAt ops i)) = some (.value (.bool t))) (hS : sk i = true → S w)
    (k1 : t = true → plAt P ops K S sk π n.succ (a.put (opAt ops i).dst (.bool true)) w) (k2 : t = false → plAt P ops K S sk π n.succ (a.put (opAt ops i).dst (.bool false)) w) : plAt P ops K S sk π n a w := by
  have hw := (onAt_spec hon).2
  have key : plAt P ops K S sk π n.succ (a.put (opAt ops i).dst (.bool t)) w := by cases t with | true => exact k1 rfl | false => exact k2 rfl
  have key := key.out
  refine ⟨?_⟩
  rw [dropL hn]
  exact ⟨_, .inl ⟨hw, fun w' _ => pureVal_run h w'⟩, fun hk => hS (by simpa using hk), key⟩

/-- A quiet one by a law of its own. -/
theorem pl_quiet (i : Nat) (v : Value) (hn : π[n]? = some (i, .q false)) (hon : onAt ops i a = true) (h : ∀ w' : World, (execOp a.eval (opAt ops i)).run P w' = .ok (.value v) w') (hS : sk i = true → S w)
    (k : plAt P ops K S sk π n.succ (a.put (opAt ops i).dst v) w) : plAt P ops K S sk π n a w := by
  have k := k.out
  refine ⟨?_⟩
  rw [dropL hn]
  exact ⟨v, .inl ⟨(onAt_spec hon).2, fun w' _ => h w'⟩, fun hk => hS (by simpa using hk), k⟩

/-- What would read is not wanted. -/
theorem pl_roff (i : Nat) (hn : π[n]? = some (i, .q true)) (hi : Nat.blt i ops.size = true) (hw : Region.wanted (opAt ops i) (yielded ops a.tmps) = false) (hS : S w)
    (k : plAt P ops K S sk π n.succ (a.put (opAt ops i).dst undef) w) : plAt P ops K S sk π n a w := by
  have k := k.out
  refine ⟨?_⟩
  rw [dropL hn]
  exact ⟨undef, .inr ⟨hw, rfl⟩, fun _ => hS, k⟩
end
end Go.Alm
