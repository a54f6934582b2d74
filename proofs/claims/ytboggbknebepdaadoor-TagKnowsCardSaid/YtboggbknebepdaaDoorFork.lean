/- A region whose order is open, where two that act are ready at one place: both orders are shown. -/
import Derived.Test.YtboggbknebepdaaDoorPlan
namespace Go.Alm
open Go
section
variable {P : Program} {ops : Array Oper} {S : World → Prop} {sk : Nat → Bool}
theorem letsOut_OnlyN {F : Act → World → Prop} (h : LetsOut (OnlyN F)) : False := by
  obtain ⟨_, _, h⟩ := h
  exact h
theorem wp_OnlyN {o : Oper} {a : Act} {w : World} {X F G : Act → World → Prop} (hh : o.wp P a w X (OnlyN F)) : o.wp P a w X (OnlyN G) := by
  unfold Oper.wp at *
  generalize (execOp a.eval o).run P w = r at *
  cases r with
  | ok n w' =>
    cases n <;> simp only [Oper.upon] at hh ⊢ <;>
      first
        | exact hh
        | exact Calls.mono hh (fun e w'' he => by cases e <;> first | exact he | exact (letsOut_OnlyN he).elim | exact False.elim he)
  | halt x w' => cases x <;> simp only [Oper.upon] at hh ⊢ <;> first | exact hh | exact False.elim hh
theorem wpOp_OnlyN {i : Nat} {a : Act} {w : World} {X F G : Act → World → Prop} (hh : wpOp P ops (OnlyN F) i X a w) : wpOp P ops (OnlyN G) i X a w := by
  unfold wpOp at *
  split
  · rename_i ho
    simpa only [ho] using hh
  · rename_i o ho
    simp only [ho] at hh
    split
    · rename_i hw
      simp only [hw, if_true] at hh
      rcases hh with h | h
      · exact .inl (wp_OnlyN h)
      · exact (letsOut_OnlyN h.2).elim
    · rename_i hw
      rw [if_neg hw] at hh
      exact hh
def planBF (ops : Array Oper) (sk : Nat → Bool) (ok : Array Bool → Bool) : List (Nat × PK) → Array Bool → Bool
  | [], listed => ok listed
  | (i, .q ld) :: π, listed => (Region.ready .any ops listed).contains i && freeB ops sk listed i ld && planBF ops sk ok π (listed.setIfInBounds i true)
  | (i, .e) :: π, listed => decide (Region.ready .any ops listed = [i]) && planBF ops sk ok π (listed.setIfInBounds i true)
theorem plan_anyF {F K : Act → World → Prop} {ok : Array Bool → Bool} {fuel : Nat} (hs : Region.noSelect ops = true) (hF : ∀ (listed : Array Bool) (a : Act) (w : World), Closed ops listed → ok listed = true → F a w → wpAnyP P ops (OnlyN K) S sk fuel listed a w) :
    ∀ (π : List (Nat × PK)) (listed : Array Bool) (a : Act) (w : World), Closed ops listed → planBF ops sk ok π listed = true → wpPlan P ops (OnlyN F) S sk π a w → wpAnyP P ops (OnlyN K) S sk (π.length + fuel) listed a w
  | [], listed, a, w, hc, hB, h => by
    rw [List.length_nil, Nat.zero_add]
    exact hF listed a w hc hB h
  | (i, .q ld) :: π, listed, a, w, hc, hB, h => by
    simp only [planBF, Bool.and_eq_true] at hB
    obtain ⟨⟨hr, hf⟩, hB'⟩ := hB
    have hr' : i ∈ Region.ready .any ops listed := by simpa using hr
    obtain ⟨_, o, ho, _⟩ := mem_ready.1 hr'
    obtain ⟨v, hy, hS, hk⟩ := h
    rw [List.length_cons, Nat.add_right_comm]
    exact anyP_first (n := 9) ld (opAt_of ho) (Region.noSelect_spec hs) (fun c a w hq => absurd hq (fun h => h)) (π.length + fuel) listed a w hc
      (fun j oj hj hne hun hno => freeB_spec hf j oj hj hne hun hno) hr' hy hS (plan_anyF hs hF π _ _ _ (hc.set hr') hB' hk)
  | (i, .e) :: π, listed, a, w, hc, hB, h => by
    simp only [planBF, Bool.and_eq_true, decide_eq_true_eq] at hB
    obtain ⟨hr, hB'⟩ := hB
    have hi : i ∈ Region.ready .any ops listed := by rw [hr]; simp
    rw [List.length_cons, Nat.add_right_comm]
    refine ⟨fun h0 => (by rw [h0] at hr; cases hr), fun j hj => ?_⟩
    rw [hr] at hj
    obtain rfl : j = i := by simpa using hj
    exact wpOp_mono (fun a' w' hk => ⟨hk.1, plan_anyF hs hF π _ _ _ (hc.set hi) hB' hk.2⟩) (wpOp_OnlyN h)
def forkB (ops : Array Oper) (sk : Nat → Bool) (i j : Nat) (r1 r2 : List (Nat × PK)) (listed : Array Bool) : Bool :=
  decide (Region.ready .any ops listed = [i, j]) && planB ops sk r1 (listed.setIfInBounds i true) && planB ops sk r2 (listed.setIfInBounds j true)
theorem c_fork {f : Nat} {p : List Nat} {a : Act} {w : World} {Q : Exit → Act → World → Prop} (id : Nat) (R : Array Oper) (S : World → Prop) (sk : Nat → Bool) (π : List (Nat × PK)) (i j : Nat) (r1 r2 : List (Nat × PK)) (hm : P.follows .mixedOrders = true) (h : cAt P f p = .region id R true) (hs : Region.noSelect R = true)
    (hlen : π.length + (r1.length + 1) = R.size) (hl2 : r2.length = r1.length) (hB : planBF R sk (forkB R sk i j r1 r2) π (Array.replicate R.size false) = true)
    (k : ∀ w1, Fr w w1 N0 → plAt P R (fun a' w' => plAt P R (fun a w => Q .normal a w) S sk ((i, .e) :: r1) 0 a' w' ∧ plAt P R (fun a w => Q .normal a w) S sk ((j, .e) :: r2) 0 a' w') S sk π 0 a w1) : CW P f p Q a w := by
  refine ⟨?_⟩
  rw [h]
  refine Code.wp_mono (Q := OnlyN (fun a w => Q .normal a w)) (fun e a w hq => by cases e <;> first | exact hq | exact hq.elim) ?_
  refine wp_region_any hm (wpAny_of_P (S := S) (sk := sk) _ _ _ _ ?_)
  rw [← hlen]
  refine plan_anyF (fuel := r1.length + 1) (ok := forkB R sk i j r1 r2) hs (fun listed a w hc hok hF => ?_) π _ a _ (fun j oj _ hl => ?_) (hlen ▸ hB) (by simpa using (k w.drew (Fr.refl _ _).drew).out)
  · simp only [forkB, Bool.and_eq_true, decide_eq_true_eq] at hok
    obtain ⟨⟨hr, hB1⟩, hB2⟩ := hok
    obtain ⟨h1, h2⟩ := hF
    have h1 : wpPlan P R (OnlyN fun a w => Q .normal a w) S sk ((i, .e) :: r1) a w := by simpa using h1.out
    have h2 : wpPlan P R (OnlyN fun a w => Q .normal a w) S sk ((j, .e) :: r2) a w := by simpa using h2.out
    have hi : i ∈ Region.ready .any R listed := by rw [hr]; simp
    have hj : j ∈ Region.ready .any R listed := by rw [hr]; simp
    refine ⟨fun h0 => (by rw [h0] at hr; cases hr), fun x hx => ?_⟩
    rw [hr] at hx
    rcases (by simpa using hx : x = i ∨ x = j) with rfl | rfl
    · exact wpOp_mono (fun a' w' hk => ⟨hk.1, plan_any hs (fun _ _ _ h => h) r1 _ _ _ (hc.set hi) hB1 hk.2⟩) h1
    · refine wpOp_mono (fun a' w' hk => ⟨hk.1, ?_⟩) h2
      rw [← hl2]
      exact plan_any hs (fun _ _ _ h => h) r2 _ _ _ (hc.set hj) hB2 hk.2
  · rw [getD_rep] at hl
    cases hl
end
end Go.Alm
