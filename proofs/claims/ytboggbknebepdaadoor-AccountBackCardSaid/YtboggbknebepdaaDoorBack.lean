/- Layer 4: what is written of things, read back. -/
import Derived.Test.YtboggbknebepdaaDoorThing
namespace Go.Alm
open Go Go.RowKit

theorem num_cons' (b : Nat) : ∀ (l : List Nat) (n : Nat), l.foldl (fun n b => n * 256 + b) (n * 256 + b) = n * 256 ^ (l.length + 1) + (b * 256 ^ l.length + num l) := by
  intro l
  induction l generalizing b with
  | nil => intro n; simp [num]
  | cons c l ih =>
    intro n
    rw [List.foldl_cons, ih c (n * 256 + b)]
    have h2 : num (c :: l) = c * 256 ^ l.length + num l := by
      have := ih c 0
      simpa [num] using this
    rw [h2, List.length_cons, Nat.add_mul, Nat.pow_succ 256 (l.length + 1), Nat.pow_succ 256 l.length]
    generalize 256 ^ l.length = q
    rw [Nat.mul_assoc n 256, Nat.mul_comm 256 (q * 256)]
    omega
theorem num_cons (b : Nat) (l : List Nat) : num (b :: l) = b * 256 ^ l.length + num l := by
  have := num_cons' b l 0
  simpa [num] using this
theorem num_putB (n : Nat) : ∀ k, num (putB n k k) = n % 256 ^ k
  | 0 => by simp [putB, num, Nat.mod_one]
  | k + 1 => by
    rw [putB_next, num_cons, putB_length, num_putB n k, Nat.mod_pow_succ, Nat.add_comm, Nat.mul_comm]

/-! ### a reader in front of what is there -/
theorem take_app {a b : List Nat} {m : Nat} (h : a.length = m) : (Rs.mk 0 (a ++ b)).take m = ⟨0, b⟩ ∧ (Rs.mk 0 (a ++ b)).out m = a := by
  subst h
  have hn : ¬ (a ++ b).length < a.length := by rw [List.length_append]; omega
  unfold Rs.take Rs.out
  simp only [if_neg hn, List.drop_left, List.take_left, and_self]
theorem hash_app {a b : List Nat} (h : a.length = 32) : (Rs.mk 0 (a ++ b)).hash = a := by
  unfold Rs.hash
  rw [if_neg (by simp; omega)]
  exact List.take_left' h
theorem take_cut {l : List Nat} {m : Nat} (h : l.length < m) : (Rs.mk 0 l).take m = ⟨3, []⟩ := by
  unfold Rs.take Rs.wrong
  simp [h]
theorem take_dead (m : Nat) : (Rs.mk 3 []).take m = ⟨3, []⟩ := by
  unfold Rs.take Rs.wrong
  simp
theorem textR_app {t b : List Nat} (h : t.length ≤ 255) : (Rs.mk 0 (textW t ++ b)).textR 255 = ⟨0, b⟩ ∧ (Rs.mk 0 (textW t ++ b)).text 255 = t := by
  have e : textW t = putB t.length 1 1 ++ t := if_pos h
  have h1 := take_app (a := putB t.length 1 1) (b := t ++ b) (m := 1) (putB_length _ _ _)
  have h2 : (Rs.mk 0 (textW t ++ b)).num 1 = t.length := by
    rw [e, List.append_assoc]
    unfold Rs.num
    rw [h1.2, num_putB]
    omega
  have h3 : (Rs.mk 0 (textW t ++ b)).text1 255 = ⟨0, t ++ b⟩ := by
    unfold Rs.text1
    rw [h2, if_neg (by omega), e, List.append_assoc, h1.1]
  have h4 := take_app (a := t) (b := b) (m := t.length) rfl
  constructor
  · unfold Rs.textR
    rw [h3, if_pos rfl, h2, h4.1]
  · unfold Rs.text
    rw [h3, if_pos rfl, h2, h4.2]
theorem textR_cut {t : List Nat} {c : Nat} (h : t.length ≤ 255) (hc : c < (textW t).length) : (Rs.mk 0 ((textW t).take c)).textR 255 = ⟨3, []⟩ := by
  have e : textW t = putB t.length 1 1 ++ t := if_pos h
  rw [e] at hc ⊢
  rw [List.length_append, putB_length] at hc
  rcases Nat.eq_zero_or_pos c with rfl | hp
  · rfl
  · obtain ⟨d, rfl⟩ : ∃ d, c = 1 + d := ⟨c - 1, by omega⟩
    have e2 : (putB t.length 1 1 ++ t).take (1 + d) = putB t.length 1 1 ++ t.take d := by
      rw [List.take_append, putB_length, List.take_of_length_le (by rw [putB_length]; omega)]
      congr 2
      omega
    rw [e2]
    have h1 := take_app (a := putB t.length 1 1) (b := t.take d) (m := 1) (putB_length _ _ _)
    have h2 : (Rs.mk 0 (putB t.length 1 1 ++ t.take d)).num 1 = t.length := by
      unfold Rs.num
      rw [h1.2, num_putB]
      omega
    have h3 : (Rs.mk 0 (putB t.length 1 1 ++ t.take d)).text1 255 = ⟨0, t.take d⟩ := by
      unfold Rs.text1
      rw [h2, if_neg (by omega), h1.1]
    unfold Rs.textR
    rw [h3, if_pos rfl, h2]
    exact take_cut (by rw [List.length_take]; omega)
theorem textR_dead : (Rs.mk 3 []).textR 255 = ⟨3, []⟩ := rfl

/-- One thing comes back. -/
theorem Thing.back {x : Thing} (h : x.Ok) (ho : x.okW = true) (b : List Nat) : x.r ⟨0, x.w ++ b⟩ = ⟨0, b⟩ ∧ x.okR ⟨0, x.w ++ b⟩ = true := by
  have hn := h.n
  unfold Thing.r Thing.okR Thing.w
  by_cases h0 : x.kind = 0
  · simp only [if_pos h0]
    have := take_app (a := putB (x.n % 256) 1 1) (b := b) (m := 1) (putB_length _ _ _)
    refine ⟨this.1, ?_⟩
    unfold Rs.num
    rw [this.2, num_putB]
    simp
  · simp only [if_neg h0]
    by_cases h1 : x.kind = 1
    · simp only [if_pos h1]
      have := take_app (a := putB (x.n % 4294967296) 4 4) (b := b) (m := 4) (putB_length _ _ _)
      refine ⟨this.1, ?_⟩
      unfold Rs.num
      rw [this.2, num_putB]
      simp
    · simp only [if_neg h1]
      by_cases h2 : x.kind = 2
      · simp only [if_pos h2]
        have := take_app (a := putB x.n 8 8) (b := b) (m := 8) (putB_length _ _ _)
        refine ⟨this.1, ?_⟩
        unfold Rs.num
        rw [this.2, num_putB, Nat.mod_eq_of_lt (by omega)]
        simp
      · simp only [if_neg h2]
        by_cases h3 : x.kind = 3
        · simp only [if_pos h3]
          have := take_app (a := x.h) (b := b) (m := 32) h.h
          refine ⟨this.1, ?_⟩
          rw [hash_app h.h]
          simp
        · simp only [if_neg h3]
          by_cases h4 : x.kind = 4
          · simp only [if_pos h4]
            unfold Thing.okW at ho
            rw [if_pos h4] at ho
            have := textR_app (b := b) (of_decide_eq_true ho)
            exact ⟨this.1, decide_eq_true this.2⟩
          · simp only [if_neg h4, List.nil_append]
            exact ⟨trivial, trivial⟩
theorem Thing.cutR {x : Thing} (h : x.Ok) (ho : x.okW = true) {c : Nat} (hc : c < x.w.length) : x.r ⟨0, x.w.take c⟩ = ⟨3, []⟩ := by
  unfold Thing.w at hc
  unfold Thing.r Thing.w
  by_cases h0 : x.kind = 0
  · simp only [if_pos h0] at hc ⊢
    rw [putB_length] at hc
    exact take_cut (by rw [List.length_take, putB_length]; omega)
  · simp only [if_neg h0] at hc ⊢
    by_cases h1 : x.kind = 1
    · simp only [if_pos h1] at hc ⊢
      rw [putB_length] at hc
      exact take_cut (by rw [List.length_take, putB_length]; omega)
    · simp only [if_neg h1] at hc ⊢
      by_cases h2 : x.kind = 2
      · simp only [if_pos h2] at hc ⊢
        rw [putB_length] at hc
        exact take_cut (by rw [List.length_take, putB_length]; omega)
      · simp only [if_neg h2] at hc ⊢
        by_cases h3 : x.kind = 3
        · simp only [if_pos h3] at hc ⊢
          rw [h.h] at hc
          exact take_cut (by rw [List.length_take, h.h]; omega)
        · simp only [if_neg h3] at hc ⊢
          by_cases h4 : x.kind = 4
          · simp only [if_pos h4] at hc ⊢
            unfold Thing.okW at ho
            rw [if_pos h4] at ho
            exact textR_cut (of_decide_eq_true ho) hc
          · simp only [if_neg h4] at hc
            simp at hc
theorem Thing.deadR (x : Thing) : x.r ⟨3, []⟩ = ⟨3, []⟩ := by
  unfold Thing.r
  repeat' split
  all_goals first | exact take_dead _ | rfl
def readT (r : Rs) (ts : List Thing) : Rs := ts.foldl (fun r x => Thing.r x r) r
theorem readT_snoc {r : Rs} {ts : List Thing} {k : Nat} {x : Thing} (hx : ts[k]? = some x) : readT r (ts.take (k + 1)) = x.r (readT r (ts.take k)) := by
  unfold readT
  rw [List.take_add_one, hx]
  simp
theorem readT_dead : ∀ ts : List Thing, readT ⟨3, []⟩ ts = ⟨3, []⟩
  | [] => rfl
  | x :: ts => by
    have : readT ⟨3, []⟩ (x :: ts) = readT (x.r ⟨3, []⟩) ts := rfl
    rw [this, x.deadR, readT_dead ts]
theorem readT_cut : ∀ {ts : List Thing} {c : Nat}, (∀ x ∈ ts, x.Ok) → (∀ x ∈ ts, x.okW = true) → c < (writeT ts).length → readT ⟨0, (writeT ts).take c⟩ ts = ⟨3, []⟩
  | [], c, _, _, hc => by simp [writeT] at hc
  | x :: ts, c, h, ho, hc => by
    have e : writeT (x :: ts) = x.w ++ writeT ts := rfl
    have e2 : ∀ r, readT r (x :: ts) = readT (x.r r) ts := fun _ => rfl
    rw [e] at hc ⊢
    rw [e2]
    rcases Nat.lt_or_ge c x.w.length with hl | hl
    · rw [List.take_append_of_le_length (by omega), Thing.cutR (h x (by simp)) (ho x (by simp)) hl, readT_dead]
    · obtain ⟨d, rfl⟩ : ∃ d, c = x.w.length + d := ⟨c - x.w.length, by omega⟩
      rw [List.take_length_add_append, (Thing.back (h x (by simp)) (ho x (by simp)) _).1]
      rw [List.length_append] at hc
      exact readT_cut (fun y hy => h y (by simp [hy])) (fun y hy => ho y (by simp [hy])) (by omega)
theorem writeT_drop {ts : List Thing} {k : Nat} {x : Thing} (hx : ts[k]? = some x) : writeT (ts.drop k) = x.w ++ writeT (ts.drop (k + 1)) := by
  obtain ⟨hk, rfl⟩ := List.getElem?_eq_some_iff.1 hx
  rw [List.drop_eq_getElem_cons hk]
  rfl
theorem rT_len {x : Thing} (r : Rs) : (x.r r).l.length ≤ r.l.length := by
  unfold Thing.r
  repeat' split
  all_goals first | exact take_len _ _ | exact textR_len _ _ | exact Nat.le_refl _
theorem rT_byt {x : Thing} {r : Rs} (h : Byt r.l) : Byt (x.r r).l := by
  unfold Thing.r
  repeat' split
  all_goals first | exact h.rtake _ | exact h.textR _ | exact h
theorem readT_len : ∀ (ts : List Thing) (r : Rs), (readT r ts).l.length ≤ r.l.length
  | [], _ => Nat.le_refl _
  | x :: ts, r => Nat.le_trans (readT_len ts (x.r r)) (rT_len r)
theorem readT_byt : ∀ (ts : List Thing) {r : Rs}, Byt r.l → Byt (readT r ts).l
  | [], _, h => h
  | x :: ts, _, h => readT_byt ts (rT_byt h)
theorem Byt.app {a b : List Nat} (ha : Byt a) (hb : Byt b) : Byt (a ++ b) := fun x hx => by
  rcases List.mem_append.1 hx with h | h
  · exact ha x h
  · exact hb x h
theorem Byt.putB (n k j : Nat) : Byt (putB n k j) := fun x hx => by
  unfold Go.Alm.putB at hx
  obtain ⟨i, _, rfl⟩ := List.mem_map.1 hx
  exact Nat.mod_lt _ (by decide)
theorem Byt.textW {b : List Nat} (h : Byt b) : Byt (textW b) := by
  unfold Go.Alm.textW
  split
  · exact (Byt.putB _ _ _).app h
  · exact Byt.nil
theorem Thing.w_byt {x : Thing} (h : x.Ok) : Byt x.w := by
  unfold Thing.w
  repeat' split
  all_goals first | exact Byt.putB _ _ _ | exact h.hb | exact h.b.textW | exact Byt.nil
theorem writeT_byt : ∀ {ts : List Thing}, (∀ x ∈ ts, x.Ok) → Byt (writeT ts)
  | [], _ => Byt.nil
  | x :: ts, h => by
    have e : writeT (x :: ts) = x.w ++ writeT ts := rfl
    rw [e]
    exact (Thing.w_byt (h x (by simp))).app (writeT_byt fun y hy => h y (by simp [hy]))
/-- A text that is too long is not written. -/
theorem Thing.w_skip {x : Thing} (h : x.kind = 4) (h2 : ¬ x.b.length ≤ 255) : x.w = [] := by
  unfold Thing.w
  rw [if_neg (by omega), if_neg (by omega), if_neg (by omega), if_neg (by omega), if_pos h]
  exact if_neg h2
theorem Thing.okW_of {x : Thing} (h : x.kind ≠ 4 ∨ x.b.length ≤ 255) : x.okW = true := by
  unfold Thing.okW
  split
  · rename_i h4
    rcases h with h | h
    · exact absurd h4 h
    · exact decide_eq_true h
  · rfl
end Go.Alm
