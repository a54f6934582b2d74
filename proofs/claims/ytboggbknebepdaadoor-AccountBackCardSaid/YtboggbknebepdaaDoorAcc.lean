/- Layer 14, plainly: which names are right; an account's bytes; what is read of bytes. -/
import Derived.Test.YtboggbknebepdaaDoorStr
import Derived.Test.YtboggbknebepdaaDoorInv
import Derived.Test.YtboggbknebepdaaDoorDeep
namespace Go.Alm
open Go Go.RowKit
def ltr (b : Nat) : Bool := Nat.ble 97 b && Nat.ble b 122
def rightS (s : ByteArray) : Bool := decide (0 < s.size) && decide (s.size ≤ 8) && (sB s).all ltr
theorem ltr_iff {b : Nat} : ltr b = true ↔ 97 ≤ b ∧ b ≤ 122 := by simp [ltr]
theorem all_step {l : List Nat} {k : Nat} (h : (l.take k).all ltr = true) (hk : k < l.length) (hb : 97 ≤ l.getD k 0 ∧ l.getD k 0 ≤ 122) : (l.take (k + 1)).all ltr = true := by
  rw [take_snoc l k hk, List.all_append, h]
  simp only [List.all_cons, List.all_nil, Bool.and_true, Bool.true_and]
  exact ltr_iff.2 hb
theorem right_no {s : ByteArray} {k : Nat} (hk : k < s.size) (hb : ¬ (97 ≤ (sB s).getD k 0 ∧ (sB s).getD k 0 ≤ 122)) : rightS s = false := by
  have : (sB s).all ltr = false := by
    cases h : (sB s).all ltr with
    | false => rfl
    | true =>
      have hk' : k < (sB s).length := by rw [sB_length]; exact hk
      have h1 := List.all_eq_true.1 h ((sB s)[k]) (List.getElem_mem hk')
      have e : (sB s).getD k 0 = (sB s)[k] := by simp [hk']
      rw [e] at hb
      exact absurd (ltr_iff.1 h1) hb
  unfold rightS
  rw [this, Bool.and_false]
theorem right_size {s : ByteArray} (h : ¬ (0 < s.size ∧ s.size ≤ 8)) : rightS s = false := by
  unfold rightS
  rcases Nat.lt_or_ge 0 s.size with h1 | h1
  · rw [decide_eq_false (show ¬ s.size ≤ 8 from fun h2 => h ⟨h1, h2⟩)]; simp
  · rw [decide_eq_false (show ¬ 0 < s.size by omega)]; simp
theorem right_yes {s : ByteArray} {k : Nat} (h : ((sB s).take k).all ltr = true) (hk : s.size ≤ k) (h1 : 0 < s.size) (h2 : s.size ≤ 8) : rightS s = true := by
  rw [List.take_of_length_le (by rw [sB_length]; exact hk)] at h
  unfold rightS
  rw [h, decide_eq_true h1, decide_eq_true h2]; rfl
theorem right_spec {s : ByteArray} (h : rightS s = true) : 0 < s.size ∧ s.size ≤ 8 ∧ (sB s).all ltr = true := by
  unfold rightS at h
  simp only [Bool.and_eq_true, decide_eq_true_eq] at h
  exact ⟨h.1.1, h.1.2, h.2⟩
theorem empty_size {s : ByteArray} (h : s ≠ (⟨#[]⟩ : ByteArray)) : 0 < s.size := by
  rcases Nat.eq_zero_or_pos s.size with h0 | h0
  · exfalso
    apply h
    have : s.data.size = 0 := h0
    have h2 : s.data = #[] := Array.eq_empty_of_size_eq_zero this
    cases s
    simp_all
  · exact h0
theorem empty_eq {s : ByteArray} (h : s = (⟨#[]⟩ : ByteArray)) : s.size = 0 := by subst h; rfl
section
variable {P : Program} {Q : Exit → Act → World → Prop} {a : Act} {w : World} {o : Oper} {K : Act → World → Prop}
theorem op_next_low (x : Operand) (b pos : Nat) (s : ByteArray) (ho : nextOf o.op = some (x, true)) (hx : a.eval x = .pointer (some ⟨b, 0, none⟩)) (hb : w.heap[b]? = some (.stringIter s pos)) (hp : pos < s.size) (hl : (sB s).getD pos 0 < 128)
    (k : ∀ w', w'.heap[b]? = some (.stringIter s (pos + 1)) → w'.heap.size = w.heap.size → Fr w w' (One b) → K (a.put o.dst (.tuple #[.bool true, .int .i64 (pos : Int), .int .i32 (((sB s).getD pos 0 : Nat) : Int)])) w') : OpW P o a w K Q := by
  refine op_next x b pos s ho hx hb hp ?_
  rw [dec_low hp hl]
  exact k
theorem op_next_high (x : Operand) (b pos : Nat) (s : ByteArray) (ho : nextOf o.op = some (x, true)) (hx : a.eval x = .pointer (some ⟨b, 0, none⟩)) (hb : w.heap[b]? = some (.stringIter s pos)) (hp : pos < s.size) (hl : ¬ (sB s).getD pos 0 < 128)
    (k : ∀ w' c p, 128 ≤ c → w'.heap[b]? = some (.stringIter s p) → w'.heap.size = w.heap.size → Fr w w' (One b) → K (a.put o.dst (.tuple #[.bool true, .int .i64 (pos : Int), .int .i32 ((c : Nat) : Int)])) w') : OpW P o a w K Q :=
  op_next x b pos s ho hx hb hp fun w' h1 h2 h3 => k w' _ _ (dec_high hp hl) h1 h2 h3
end
/-- An account's bytes. -/
def accL (s : ByteArray) (bal non : Nat) : List Nat := textW (sB s) ++ putB bal 8 8 ++ putB non 4 4
def accB (s : ByteArray) (bal non : Nat) : List Nat := if rightS s = true then accL s bal non else []
def accE (s : ByteArray) : Nat := if rightS s = true then 0 else 1
theorem accL_len {s : ByteArray} {bal non : Nat} : (accL s bal non).length ≤ 300 := by
  unfold accL
  rw [List.length_append, List.length_append, putB_length, putB_length]
  have : (textW (sB s)).length ≤ 256 := by
    unfold textW; split
    · rw [List.length_append, putB_length]; omega
    · simp
  omega
theorem accB_len {s : ByteArray} {bal non : Nat} : (accB s bal non).length ≤ 300 := by
  unfold accB; split
  · exact accL_len
  · simp
end Go.Alm

namespace Go.Alm
open Go Go.RowKit
/-- How far a walk over a string is from its end. -/
def itPos (b : Nat) (w : World) : Nat := match w.heap[b]? with | some (.stringIter s p) => s.size - p | _ => 0
theorem itPos_lt {b p p' : Nat} {s : ByteArray} {w w' : World} (h : w.heap[b]? = some (.stringIter s p)) (h' : w'.heap[b]? = some (.stringIter s p')) (h1 : p < p') (h2 : p < s.size) : itPos b w' < itPos b w := by
  unfold itPos; rw [h, h']; simp only; omega
end Go.Alm

namespace Go.Alm
open Go Go.RowKit
theorem accB_yes {s : ByteArray} {bal non : Nat} (h : rightS s = true) : accB s bal non = accL s bal non := if_pos h
theorem accB_no {s : ByteArray} {bal non : Nat} (h : rightS s = false) : accB s bal non = [] := if_neg (by rw [h]; decide)
theorem accE_yes {s : ByteArray} (h : rightS s = true) : accE s = 0 := if_pos h
theorem accE_no {s : ByteArray} (h : rightS s = false) : accE s = 1 := if_neg (by rw [h]; decide)
theorem accE_ne {s : ByteArray} (h : ((accE s : Nat) : Int) ≠ 0) : rightS s = false := by
  cases hr : rightS s with
  | false => rfl
  | true => rw [accE_yes hr] at h; exact absurd rfl h
theorem accE_eq {s : ByteArray} (h : ((accE s : Nat) : Int) = 0) : rightS s = true := by
  cases hr : rightS s with
  | true => rfl
  | false => rw [accE_no hr] at h; simp at h
theorem accL_ref {s : ByteArray} {bal non : Nat} (h : rightS s = true) : [s.size] ++ sB s ++ putB bal 8 8 ++ putB non 4 4 = accL s bal non := by
  have h2 := right_spec h
  unfold accL textW
  rw [if_pos (by rw [sB_length]; omega), putB_one (by rw [sB_length]; omega), sB_length]
theorem accL_byt (s : ByteArray) (bal non : Nat) : Byt (accL s bal non) := by
  have hp : ∀ n k j, Byt (putB n k j) := fun n k j x hx => by
    unfold Go.Alm.putB at hx
    obtain ⟨i, _, rfl⟩ := List.mem_map.1 hx
    exact Nat.mod_lt _ (by decide)
  unfold accL
  refine (Byt.cat ?_ (hp _ _ _)).cat (hp _ _ _)
  unfold textW
  split
  · exact (hp _ _ _).cat (sB_byt s)
  · exact Byt.nil
theorem accB_byt (s : ByteArray) (bal non : Nat) : Byt (accB s bal non) := by
  unfold accB; split
  · exact accL_byt s bal non
  · exact Byt.nil
def accS : ByteArray := ⟨#[97, 99, 99, 111, 117, 110, 116]⟩
def accH (s : ByteArray) (bal non : Nat) : List Nat := if rightS s = true then tag1 (sB accS) (accB s bal non) else List.replicate 32 0
theorem accH_length (s : ByteArray) (bal non : Nat) : (accH s bal non).length = 32 := by
  unfold accH; split
  · exact tagL_length _ _
  · simp
theorem accH_byt (s : ByteArray) (bal non : Nat) : Byt (accH s bal non) := by
  unfold accH; split
  · exact tagL_byt _ _
  · intro x hx; have := List.eq_of_mem_replicate hx; omega
end Go.Alm

namespace Go.Alm
open Go Go.RowKit
theorem accH_yes {s : ByteArray} {bal non : Nat} (h : rightS s = true) : accH s bal non = tag1 (sB accS) (accB s bal non) := if_pos h
theorem accH_no {s : ByteArray} {bal non : Nat} (h : rightS s = false) : accH s bal non = List.replicate 32 0 := if_neg (by rw [h]; decide)
def empS : ByteArray := ⟨#[101, 109, 112, 116, 121]⟩
def accNone : List Nat := tagL (sB empS) []
theorem accNone_length : accNone.length = 32 := tagL_length _ _
theorem accNone_byt : Byt accNone := tagL_byt _ _
/-- An account. -/
structure Acct where
  s : ByteArray
  bal : Nat
  non : Nat
structure Acct.Ok (a : Acct) : Prop where
  s : a.s.size ≤ maxLen
  bal : a.bal < 18446744073709551616
  non : a.non < 4294967296
def Acct.cells (a : Acct) : Array Value := #[.string a.s, .int .u64 (a.bal : Int), .int .u32 (a.non : Int)]
def acct0 : Acct := ⟨⟨#[]⟩, 0, 0⟩
/-- What is read of bytes. -/
abbrev accQ1 (l : List Nat) : Rs := (Rs.mk 0 l).textR 8
abbrev accQ2 (l : List Nat) : Rs := ((Rs.mk 0 l).textR 8).take 8
abbrev accQ3 (l : List Nat) : Rs := (((Rs.mk 0 l).textR 8).take 8).take 4
abbrev accN (l : List Nat) : ByteArray := toStr ((Rs.mk 0 l).text 8)
def accF (l : List Nat) : Nat := if (accQ3 l).end = 0 then (if rightS (accN l) = true then 0 else 2) else (accQ3 l).end
def accRd (l : List Nat) : Acct := if accF l = 0 then ⟨accN l, (accQ1 l).num 8, (accQ2 l).num 4⟩ else acct0
theorem accF_a {l : List Nat} (h : (accQ3 l).end = 0) (hr : rightS (accN l) = true) : accF l = 0 ∧ accRd l = ⟨accN l, (accQ1 l).num 8, (accQ2 l).num 4⟩ := by
  have : accF l = 0 := by unfold accF; rw [if_pos h, if_pos hr]
  exact ⟨this, if_pos this⟩
theorem accF_b {l : List Nat} (h : (accQ3 l).end = 0) (hr : rightS (accN l) = false) : accF l = 2 ∧ accRd l = acct0 := by
  have : accF l = 2 := by unfold accF; rw [if_pos h, if_neg (by rw [hr]; decide)]
  exact ⟨this, if_neg (by rw [this]; decide)⟩
theorem accF_c {l : List Nat} (h : (accQ3 l).end ≠ 0) : accF l = (accQ3 l).end ∧ accRd l = acct0 := by
  have : accF l = (accQ3 l).end := by unfold accF; rw [if_neg h]
  exact ⟨this, if_neg (by rw [this]; exact h)⟩
theorem accF_zero {l : List Nat} (h : accF l = 0) : (accQ3 l).end = 0 ∧ rightS (accN l) = true := by
  by_cases h1 : (accQ3 l).end = 0
  · refine ⟨h1, ?_⟩
    cases hr : rightS (accN l) with
    | true => rfl
    | false => rw [(accF_b h1 hr).1] at h; cases h
  · rw [(accF_c h1).1] at h; exact absurd h h1
theorem accRd_ok {l : List Nat} (hB : Byt l) : (accRd l).Ok := by
  unfold accRd
  split
  · have hB1 : Byt (accQ1 l).l := Byt.textR (r := ⟨0, l⟩) hB 8
    refine ⟨?_, ?_, ?_⟩
    · simp only [toStr_size]
      have := text_bound (r := ⟨0, l⟩) (m := 8) hB
      simp only [maxLen]; omega
    · exact Rs.num_lt hB1 (Nat.le_refl 8)
    · exact Rs.num_lt (hB1.rtake 8) (Nat.le_refl 4)
  · exact ⟨by decide, by decide, by decide⟩
theorem Acct.wf {a : Acct} (h : a.Ok) : WfA a.cells := WfA.lit (l := [.string a.s, .int .u64 (a.bal : Int), .int .u32 (a.non : Int)]) ⟨h.s, wf_n64 h.bal, wf_n32 h.non, trivial⟩
theorem Acct.inj {a b : Acct} (h : a.cells = b.cells) : a = b := by
  obtain ⟨s, m, n⟩ := a
  obtain ⟨s', m', n'⟩ := b
  simp only [Acct.cells, Array.mk.injEq, List.cons.injEq, Value.string.injEq, Value.int.injEq, true_and, and_true] at h
  obtain ⟨rfl, h2, h3⟩ := h
  have : m = m' := by omega
  subst this
  have : n = n' := by omega
  subst this
  rfl
theorem Acct.eq_iff {s t : ByteArray} {m n p q : Nat} : (#[Value.string s, .int .u64 (m : Int), .int .u32 (n : Int)] = #[Value.string t, .int .u64 (p : Int), .int .u32 (q : Int)]) ↔ s = t ∧ m = p ∧ n = q := by
  constructor
  · intro h
    have := Acct.inj (a := ⟨s, m, n⟩) (b := ⟨t, p, q⟩) h
    simp only [Acct.mk.injEq] at this
    exact this
  · rintro ⟨rfl, rfl, rfl⟩; rfl
/-! ### there and back -/
theorem sB_right {s : ByteArray} (h : rightS s = true) : (sB s).length ≤ 8 := by rw [sB_length]; exact (right_spec h).2.1
theorem acc_read {s : ByteArray} {bal non : Nat} (h : rightS s = true) (hb : bal < 18446744073709551616) (hn : non < 4294967296) : accF (accB s bal non) = 0 ∧ accRd (accB s bal non) = ⟨s, bal, non⟩ := by
  have hl : accB s bal non = textW (sB s) ++ (putB bal 8 8 ++ putB non 4 4) := by rw [accB_yes h]; unfold accL; rw [List.append_assoc]
  have h1 := textR_appm (b := putB bal 8 8 ++ putB non 4 4) (sB_right h) (by decide : 8 ≤ 255)
  have q1 : accQ1 (accB s bal non) = ⟨0, putB bal 8 8 ++ putB non 4 4⟩ := by unfold accQ1; rw [hl, h1.1]
  have q2 : accQ2 (accB s bal non) = ⟨0, putB non 4 4⟩ := by
    show (accQ1 (accB s bal non)).take 8 = _
    rw [q1, (take_app (putB_length _ _ _)).1]
  have q3 : accQ3 (accB s bal non) = ⟨0, []⟩ := by
    show (accQ2 (accB s bal non)).take 4 = _
    rw [q2, take_app1 (putB_length _ _ _)]
  have n1 : accN (accB s bal non) = s := by unfold accN; rw [hl, h1.2, toStr_sB]
  have he : (accQ3 (accB s bal non)).end = 0 := by rw [q3]; rfl
  have := accF_a he (by rw [n1]; exact h)
  refine ⟨this.1, ?_⟩
  rw [this.2, n1, q1, q2, num_app (by omega), num_app1 (by omega)]
theorem acc_back {l : List Nat} (hB : Byt l) (h : accF l = 0) : rightS (accRd l).s = true ∧ accB (accRd l).s (accRd l).bal (accRd l).non = l := by
  obtain ⟨he, hr⟩ := accF_zero h
  have hd := (accF_a he hr).2
  rw [hd]
  refine ⟨hr, ?_⟩
  have hB1 : Byt (accQ1 l).l := Byt.textR (r := ⟨0, l⟩) hB 8
  obtain ⟨e3, l3⟩ := Rs.end_ok he
  have n3 := Rs.num_ok (hB1.rtake 8) e3
  have e2 := (Rs.take_ok e3).1
  have n2 := Rs.num_ok hB1 e2
  have e1 := (Rs.take_ok e2).1
  obtain ⟨_, t1, t2⟩ := Rs.text_ok (r := ⟨0, l⟩) hB (by decide) e1
  simp only
  rw [accB_yes hr]
  unfold accL
  rw [sB_toStr (Byt.text (r := ⟨0, l⟩) hB 8)]
  unfold textW
  rw [if_pos (by omega)]
  rw [l3, List.append_nil] at n3
  rw [← n3] at n2
  rw [← n2] at t2
  simp only [List.append_assoc] at t2 ⊢
  exact t2
theorem acc_inj {s t : ByteArray} {m n p q : Nat} (h : rightS s = true) (h' : rightS t = true) (hm : m < 18446744073709551616) (hn : n < 4294967296) (hp : p < 18446744073709551616) (hq : q < 4294967296) :
    (s = t ∧ m = p ∧ n = q) ↔ accB s m n = accB t p q := by
  constructor
  · rintro ⟨rfl, rfl, rfl⟩; rfl
  · intro e
    have h1 := (acc_read h hm hn).2
    rw [e, (acc_read h' hp hq).2] at h1
    simp only [Acct.mk.injEq] at h1
    exact ⟨h1.1.symm, h1.2.1.symm, h1.2.2.symm⟩
theorem accL_length {s : ByteArray} {bal non : Nat} (h : rightS s = true) : (accB s bal non).length = s.size + 13 := by
  have := right_spec h
  rw [accB_yes h]
  unfold accL textW
  rw [if_pos (by rw [sB_length]; omega)]
  simp only [List.length_append, putB_length, sB_length]
  omega
theorem acc_short {s : ByteArray} {bal non : Nat} (h : rightS s = true) : accF (((accB s bal non).drop 0).take ((accB s bal non).length - 1)) = 3 := by
  have hl : accB s bal non = textW (sB s) ++ (putB bal 8 8 ++ putB non 4 4) := by rw [accB_yes h]; unfold accL; rw [List.append_assoc]
  have hs := right_spec h
  have hw : (textW (sB s)).length = s.size + 1 := by
    unfold textW
    rw [if_pos (by rw [sB_length]; omega)]
    simp only [List.length_append, putB_length, sB_length]
    omega
  have hc : ((accB s bal non).drop 0).take ((accB s bal non).length - 1) = textW (sB s) ++ (putB bal 8 8 ++ (putB non 4 4).take 3) := by
    rw [accL_length h, List.drop_zero, hl, List.take_append, hw, List.take_of_length_le (by omega), List.take_append, putB_length, List.take_of_length_le (by rw [putB_length]; omega)]
    congr 3
    omega
  rw [hc]
  have h1 := textR_appm (b := putB bal 8 8 ++ (putB non 4 4).take 3) (sB_right h) (by decide : 8 ≤ 255)
  have q3 : accQ3 (textW (sB s) ++ (putB bal 8 8 ++ (putB non 4 4).take 3)) = ⟨3, []⟩ := by
    unfold accQ3
    rw [h1.1, (take_app (putB_length _ _ _)).1, take_cut (by rw [List.length_take, putB_length]; omega)]
  have he : (accQ3 (textW (sB s) ++ (putB bal 8 8 ++ (putB non 4 4).take 3))).end = 3 := by rw [q3]; rfl
  rw [(accF_c (by rw [he]; decide)).1, he]
theorem acc_long {s : ByteArray} {bal non : Nat} (h : rightS s = true) (b : Nat) : accF (accB s bal non ++ [b]) = 4 := by
  have hl : accB s bal non ++ [b] = textW (sB s) ++ (putB bal 8 8 ++ (putB non 4 4 ++ [b])) := by rw [accB_yes h]; unfold accL; simp only [List.append_assoc]
  rw [hl]
  have h1 := textR_appm (b := putB bal 8 8 ++ (putB non 4 4 ++ [b])) (sB_right h) (by decide : 8 ≤ 255)
  have q3 : accQ3 (textW (sB s) ++ (putB bal 8 8 ++ (putB non 4 4 ++ [b]))) = ⟨0, [b]⟩ := by
    unfold accQ3
    rw [h1.1, (take_app (putB_length _ _ _)).1, (take_app (putB_length _ _ _)).1]
  have he : (accQ3 (textW (sB s) ++ (putB bal 8 8 ++ (putB non 4 4 ++ [b])))).end = 4 := by rw [q3]; rfl
  rw [(accF_c (by rw [he]; decide)).1, he]
theorem acc_iff (s : ByteArray) : ((((accE s : Nat) : Int) == 0) == rightS s) = true := by
  unfold accE
  cases rightS s <;> rfl
end Go.Alm
