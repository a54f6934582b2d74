/- Reading, backwards: what was read, when nothing went wrong, are the bytes; and texts of a bound of their own. -/
import Derived.Test.YtboggbknebepdaaDoorBack
namespace Go.Alm
open Go Go.RowKit
theorem Rs.take_ok {r : Rs} {m : Nat} (h : (r.take m).e = 0) : r.e = 0 ∧ m ≤ r.l.length ∧ r.take m = ⟨0, r.l.drop m⟩ ∧ r.out m = r.l.take m := by
  unfold Rs.take at h
  by_cases hm : r.l.length < m
  · exfalso
    rw [if_pos hm] at h
    unfold Rs.wrong at h
    split at h
    · simp at h
    · contradiction
  · rw [if_neg hm] at h
    simp only at h
    refine ⟨h, by omega, ?_, if_neg hm⟩
    unfold Rs.take
    rw [if_neg hm, h]
theorem num_inj : ∀ {a b : List Nat}, a.length = b.length → Byt a → Byt b → num a = num b → a = b
  | [], [], _, _, _, _ => rfl
  | [], _ :: _, h, _, _, _ => by simp at h
  | _ :: _, [], h, _, _, _ => by simp at h
  | x :: a, y :: b, h, ha, hb, e => by
    have hl : a.length = b.length := by simpa using h
    have ha' : Byt a := fun z hz => ha z (by simp [hz])
    have hb' : Byt b := fun z hz => hb z (by simp [hz])
    rw [num_cons, num_cons, hl] at e
    have h1 := num_lt a ha'
    have h2 := num_lt b hb'
    rw [hl] at h1
    have hp : 0 < 256 ^ b.length := Nat.pow_pos (by decide)
    have d1 : (x * 256 ^ b.length + num a) / 256 ^ b.length = x := by rw [Nat.add_comm, Nat.add_mul_div_right _ _ hp, Nat.div_eq_of_lt h1, Nat.zero_add]
    have d2 : (y * 256 ^ b.length + num b) / 256 ^ b.length = y := by rw [Nat.add_comm, Nat.add_mul_div_right _ _ hp, Nat.div_eq_of_lt h2, Nat.zero_add]
    rw [e, d2] at d1
    subst d1
    rw [num_inj hl ha' hb' (by omega)]
theorem putB_num {l : List Nat} (h : Byt l) : putB (num l) l.length l.length = l :=
  num_inj (putB_length _ _ _) (Byt.putB _ _ _) h (by rw [num_putB, Nat.mod_eq_of_lt (num_lt l h)])
theorem Rs.num_ok {r : Rs} {m : Nat} (hB : Byt r.l) (h : (r.take m).e = 0) : putB (r.num m) m m ++ (r.take m).l = r.l := by
  obtain ⟨_, h1, h2, h3⟩ := Rs.take_ok h
  have hl : (r.l.take m).length = m := by rw [List.length_take]; omega
  have hp := putB_num (hB.take m)
  rw [hl] at hp
  unfold Rs.num
  rw [h2, h3, hp]
  exact List.take_append_drop m r.l
theorem Rs.hash_ok {r : Rs} (h : (r.take 32).e = 0) : r.hash ++ (r.take 32).l = r.l := by
  obtain ⟨_, h1, h2, h3⟩ := Rs.take_ok h
  rw [h2]
  unfold Rs.hash
  rw [if_neg (by omega)]
  exact List.take_append_drop 32 r.l
theorem Rs.wrong_ne {r : Rs} {c : Nat} (hc : c ≠ 0) : (r.wrong c).e ≠ 0 := by
  unfold Rs.wrong
  split
  · exact hc
  · assumption
theorem Rs.text_ok {r : Rs} {m : Nat} (hB : Byt r.l) (hm : m ≤ 255) (h : (r.textR m).e = 0) :
    r.e = 0 ∧ (r.text m).length ≤ m ∧ putB (r.text m).length 1 1 ++ (r.text m ++ (r.textR m).l) = r.l := by
  have h1 : (r.text1 m).e = 0 := by
    by_cases h0 : (r.text1 m).e = 0
    · exact h0
    · unfold Rs.textR at h; rw [if_neg h0] at h; exact h
  have h2 : ¬ m < r.num 1 := fun hn => by
    unfold Rs.text1 at h1
    rw [if_pos hn] at h1
    exact Rs.wrong_ne (by decide) h1
  have h3 : r.text1 m = r.take 1 := if_neg h2
  have e1 : r.textR m = (r.take 1).take (r.num 1) := by unfold Rs.textR; rw [if_pos h1, h3]
  have e2 : r.text m = (r.take 1).out (r.num 1) := by unfold Rs.text; rw [if_pos h1, h3]
  rw [h3] at h1
  rw [e1] at h
  obtain ⟨a1, a2, a3, a4⟩ := Rs.take_ok h1
  obtain ⟨b1, b2, b3, b4⟩ := Rs.take_ok h
  have hn := Rs.num_ok hB h1
  rw [e1, e2, b4, b3]
  have hl : ((r.take 1).l.take (r.num 1)).length = r.num 1 := by rw [List.length_take]; omega
  rw [hl]
  refine ⟨a1, by omega, ?_⟩
  simp only
  rw [List.take_append_drop]
  exact hn
theorem Rs.end_ok {r : Rs} (h : r.end = 0) : r.e = 0 ∧ r.l = [] := by
  unfold Rs.end at h
  split at h
  · cases h
  · rename_i hn
    refine ⟨h, ?_⟩
    cases hl : r.l with
    | nil => rfl
    | cons x l => exact absurd ⟨h, by rw [hl]; simp⟩ hn
/-! ### texts of a bound -/
theorem num_one {n : Nat} (h : n < 256) (l : List Nat) : (Rs.mk 0 (putB n 1 1 ++ l)).num 1 = n := by
  unfold Rs.num
  rw [(take_app (putB_length _ _ _)).2, num_putB]
  omega
theorem textR_appm {t b : List Nat} {m : Nat} (h : t.length ≤ m) (hm : m ≤ 255) : (Rs.mk 0 (textW t ++ b)).textR m = ⟨0, b⟩ ∧ (Rs.mk 0 (textW t ++ b)).text m = t := by
  have hw : textW t ++ b = putB t.length 1 1 ++ (t ++ b) := by unfold textW; rw [if_pos (by omega), List.append_assoc]
  rw [hw]
  have hn := num_one (n := t.length) (by omega) (t ++ b)
  have h1 : (Rs.mk 0 (putB t.length 1 1 ++ (t ++ b))).text1 m = ⟨0, t ++ b⟩ := by
    unfold Rs.text1
    rw [hn, if_neg (by omega), (take_app (putB_length _ _ _)).1]
  constructor
  · unfold Rs.textR
    rw [h1, hn, if_pos rfl, (take_app rfl).1]
  · unfold Rs.text
    rw [h1, hn, if_pos rfl, (take_app rfl).2]
theorem num_app {n k : Nat} (hn : n < 256 ^ k) (b : List Nat) : (Rs.mk 0 (putB n k k ++ b)).num k = n := by
  unfold Rs.num
  rw [(take_app (putB_length _ _ _)).2, num_putB, Nat.mod_eq_of_lt hn]
theorem num_app1 {n k : Nat} (hn : n < 256 ^ k) : (Rs.mk 0 (putB n k k)).num k = n := by
  have := num_app hn []
  rwa [List.append_nil] at this
theorem take_app1 {a : List Nat} {m : Nat} (h : a.length = m) : (Rs.mk 0 a).take m = ⟨0, []⟩ := by
  have := (take_app (b := []) h).1
  rwa [List.append_nil] at this
theorem text_le (r : Rs) (m : Nat) : (r.text m).length ≤ r.l.length := text_len r m
theorem text_bound {r : Rs} {m : Nat} (hB : Byt r.l) : (r.text m).length ≤ 255 := by
  have hn := Rs.num_lt hB (Nat.le_refl 1)
  unfold Rs.text
  split
  · have := out_length_le (r.text1 m) (r.num 1); omega
  · simp
theorem Byt.text {r : Rs} (h : Byt r.l) (m : Nat) : Byt (r.text m) := by
  have h1 : Byt (r.text1 m).l := by
    unfold Rs.text1; split
    · exact (h.rtake 1).wrong 4
    · exact h.rtake 1
  unfold Rs.text; split
  · exact h1.out _
  · exact Byt.nil
end Go.Alm
