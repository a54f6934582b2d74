/- The walk of the reference's comparison of bytes. -/
import Derived.Test.YtboggbknebepdaaDoorWire
import Derived.Test.YtboggbknebepdaaDoorProg
namespace Go.Proofs.YtboggbknebepdaaDoor
open Go Go.RowKit Go.Alm
noncomputable def same_c_R0 : Array Oper := rAt Tryd.prog 23 [0]
noncomputable def same_c_R1 : Array Oper := rAt Tryd.prog 23 [1, 0, 0]
noncomputable def same_c_R2 : Array Oper := rAt Tryd.prog 23 [1, 0, 1, 0, 0]
noncomputable def same_c_R3 : Array Oper := rAt Tryd.prog 23 [1, 1, 0, 0]
noncomputable def same_c_R4 : Array Oper := rAt Tryd.prog 23 [1, 1, 0, 1, 0, 0, 0, 0]
noncomputable def same_c_R6 : Array Oper := rAt Tryd.prog 23 [1, 1, 0, 1, 0, 0, 1, 0, 0, 0]
def same_c_sk6 : Nat → Bool := fun i => decide (i ∈ [4, 5, 6, 7])
def same_c_pl6 : List (Nat × PK) := [(0, .q false), (1, .q false), (2, .q false), (3, .q true), (4, .q false), (5, .q false), (6, .q false), (7, .q true), (8, .q false)]
noncomputable def same_c_R7 : Array Oper := rAt Tryd.prog 23 [1, 1, 0, 1, 0, 0, 1, 0, 0, 1, 0, 0]
noncomputable def same_c_R5 : Array Oper := rAt Tryd.prog 23 [1, 1, 0, 1, 0, 0, 1, 1]
noncomputable def same_c_R8 : Array Oper := rAt Tryd.prog 23 [1, 1, 1, 0]
set_option maxRecDepth 100000 in
theorem same_c (sa : Value) (la : List Nat) (sb : Value) (lb : List Nat) (w : World) (h_a : SlV w sa la.length (B la)) (h_b : SlV w sb lb.length (B lb)) (hla : la.length ≤ 100000000) (hlb : lb.length ≤ 100000000) :
    Calls Tryd.prog 23 #[sa, sb] w fun e w' => e = .returned (.bool (decide (la = lb))) ∧ Fr w w' N0 := by
  obtain ⟨ao_b, cap_b, rfl, h_b⟩ := h_b
  obtain ⟨ao_a, cap_a, rfl, h_a⟩ := h_a
  refine c_enter (mk 26 [(0, (.slice ao_a la.length cap_a)), (1, (.slice ao_b lb.length cap_b))] (fun _ => undef)) Tryd.func23 (by kernel_rfl) (by kernel_rfl) ?_
  refine c_seq [0] [1] (by kernel_rfl) ?_
  refine c_reg 0 same_c_R0 (by kernel_rfl) ?_
  refine at_pures 1 (by kernel_rfl) (by kernel_rfl) ?_
  refine at_done (by kernel_rfl) ?_
  refine then_n ?_
  refine c_seq [1, 0] [1, 1] (by kernel_rfl) ?_
  refine c_seq [1, 0, 0] [1, 0, 1] (by kernel_rfl) ?_
  refine c_reg 1 same_c_R1 (by kernel_rfl) ?_
  refine at_pures 5 (by kernel_rfl) (by kernel_rfl) ?_
  refine at_done (by kernel_rfl) ?_
  refine then_n ?_
  refine c_if (.tmp 10) ((la.length : Int) != (lb.length : Int)) [1, 0, 1, 0] [1, 0, 1, 1] (by kernel_rfl) (by kernel_rfl) (fun c1_ => ?_) (fun c1_ => ?_)
  · -- yes
    replace c1_ : (la.length : Int) ≠ (lb.length : Int) := by simpa using c1_
    refine c_seq [1, 0, 1, 0, 0] [1, 0, 1, 0, 1] (by kernel_rfl) ?_
    refine c_reg 2 same_c_R2 (by kernel_rfl) ?_
    refine at_pures 1 (by kernel_rfl) (by kernel_rfl) ?_
    refine at_done (by kernel_rfl) ?_
    refine then_n ?_
    refine c_ret (by kernel_rfl) ?_
    refine then_r ?_
    refine fin_ret (.bool false) (by kernel_rfl) (by kernel_rfl) ?_
    exact ⟨(by rw [decide_eq_false (fun e => by subst e; omega)]), (Fr.refl w N0)⟩
  · -- no
    replace c1_ : (la.length : Int) = (lb.length : Int) := by simpa using c1_
    refine c_skip (by kernel_rfl) ?_
    refine then_n ?_
    refine c_seq [1, 1, 0] [1, 1, 1] (by kernel_rfl) ?_
    refine c_seq [1, 1, 0, 0] [1, 1, 0, 1] (by kernel_rfl) ?_
    refine c_reg 3 same_c_R3 (by kernel_rfl) ?_
    refine at_pures 1 (by kernel_rfl) (by kernel_rfl) ?_
    refine at_done (by kernel_rfl) ?_
    refine then_n ?_
    refine c_block 0 [1, 1, 0, 1, 0] (by kernel_rfl) ?_
    refine c_loop (fun a w' => ∃ (k : Nat), (∃ u, a = mk 26 [(0, (.slice ao_a la.length cap_a)), (1, (.slice ao_b lb.length cap_b)), (5, (.int .i64 (k : Int))), (6, (.slice ao_a la.length cap_a)), (7, (.int .i64 (la.length : Int))), (8, (.slice ao_b lb.length cap_b)), (9, (.int .i64 (lb.length : Int))), (10, (.bool ((la.length : Int) != (lb.length : Int))))] u) ∧ (k ≤ la.length) ∧ (la.take k = lb.take k) ∧ (Rd w' ao_a (B la)) ∧ (Rd w' ao_b (B lb)) ∧ (Fr w w' N0)) (fun a _ => cnt (la.length) 5 a) [1, 1, 0, 1, 0, 0] (by kernel_rfl) ⟨0, is_mk (by kernel_rfl) (by kernel_rfl) (by kernel_rfl), ⟨Nat.zero_le _, (by simp), h_a, h_b, (Fr.refl w N0)⟩⟩ ?_
    rintro a3_ w4_ ⟨k, ⟨u5_, rfl⟩, ⟨hk, hE, q_0L2_, q_1L2_, hFrL2_⟩⟩
    refine c_seq [1, 1, 0, 1, 0, 0, 0] [1, 1, 0, 1, 0, 0, 1] (by kernel_rfl) ?_
    refine c_seq [1, 1, 0, 1, 0, 0, 0, 0] [1, 1, 0, 1, 0, 0, 0, 1] (by kernel_rfl) ?_
    refine c_reg 4 same_c_R4 (by kernel_rfl) ?_
    refine at_pures 4 (by kernel_rfl) (by kernel_rfl) ?_
    refine at_done (by kernel_rfl) ?_
    refine then_n ?_
    refine c_if (.tmp 14) (decide ((k : Int) < (la.length : Int))) [1, 1, 0, 1, 0, 0, 0, 1, 0] [1, 1, 0, 1, 0, 0, 0, 1, 1] (by kernel_rfl) (by kernel_rfl) (fun c6_ => ?_) (fun c6_ => ?_)
    · -- yes
      replace c6_ : (k : Int) < (la.length : Int) := of_decide_eq_true c6_
      refine c_skip (by kernel_rfl) ?_
      refine then_n ?_
      refine c_seq [1, 1, 0, 1, 0, 0, 1, 0] [1, 1, 0, 1, 0, 0, 1, 1] (by kernel_rfl) ?_
      refine c_block 1 [1, 1, 0, 1, 0, 0, 1, 0, 0] (by kernel_rfl) ?_
      refine c_seq [1, 1, 0, 1, 0, 0, 1, 0, 0, 0] [1, 1, 0, 1, 0, 0, 1, 0, 0, 1] (by kernel_rfl) ?_
      refine c_plan 6 same_c_R6 (fun w' => Rd w' ao_a (B la) ∧ Rd w' ao_b (B lb) ∧ True) same_c_sk6 same_c_pl6 (by kernel_rfl) (by kernel_rfl) (by kernel_rfl) (by kernel_rfl) (by kernel_rfl) (fun w7_ F8_ => ?_)
      have T9_ := Fr.tr hFrL2_ F8_
      have h11_ := Rd.keep' q_0L2_ F8_ Dis.n0
      have h12_ := Rd.keep' q_1L2_ F8_ Dis.n0
      have S10_ : Rd w7_ ao_a (B la) ∧ Rd w7_ ao_b (B lb) ∧ True := ⟨h11_, h12_, trivial⟩
      refine pl_pures 2 (by kernel_rfl) (by kernel_rfl) (off (by kernel_rfl)) ?_
      obtain ⟨ad13_, ha14_⟩ := h11_.has (k * 1) (by rw [B_length]; omega)
      refine pl_quiet 2 (.pointer (some (ad13_.add (k * 1)))) (by kernel_rfl) (by kernel_rfl) (fun w' => run_idx_o 22 (.tmp 17) (.tmp 18) 1 ao_a ad13_ la.length cap_a .i64 k (by kernel_rfl) (by kernel_rfl) (by kernel_rfl) (by kernel_rfl) (by kernel_rfl) ha14_ (by omega)) (off (by kernel_rfl)) ?_
      refine pl_read 3 (.int .u8 (((la).getD k 0 : Nat) : Int)) (by kernel_rfl) (by kernel_rfl) (fun w' hs => run_loadE1 5 (.tmp 19) ao_a ad13_ (k * 1) (B la) (.int .u8 (((la).getD k 0 : Nat) : Int)) (by kernel_rfl) (by kernel_rfl) (by kernel_rfl) ha14_ hs.1 (by rw [Nat.mul_one]; exact B_getD _ _ (by first | omega | (simp only [List.length_take, List.length_drop]; omega)))) S10_ ?_
      refine pl_pures 6 (by kernel_rfl) (by kernel_rfl) (fun _ => S10_) ?_
      obtain ⟨ad15_, ha16_⟩ := h12_.has (k * 1) (by rw [B_length]; omega)
      refine pl_quiet 6 (.pointer (some (ad15_.add (k * 1)))) (by kernel_rfl) (by kernel_rfl) (fun w' => run_idx_o 22 (.tmp 21) (.tmp 22) 1 ao_b ad15_ lb.length cap_b .i64 k (by kernel_rfl) (by kernel_rfl) (by kernel_rfl) (by kernel_rfl) (by kernel_rfl) ha16_ (by omega)) (fun _ => S10_) ?_
      refine pl_read 7 (.int .u8 (((lb).getD k 0 : Nat) : Int)) (by kernel_rfl) (by kernel_rfl) (fun w' hs => run_loadE1 5 (.tmp 23) ao_b ad15_ (k * 1) (B lb) (.int .u8 (((lb).getD k 0 : Nat) : Int)) (by kernel_rfl) (by kernel_rfl) (by kernel_rfl) ha16_ hs.2.1 (by rw [Nat.mul_one]; exact B_getD _ _ (by first | omega | (simp only [List.length_take, List.length_drop]; omega)))) S10_ ?_
      refine pl_pures 9 (by kernel_rfl) (by kernel_rfl) (off (by kernel_rfl)) ?_
      refine pl_done (by kernel_rfl) ?_
      refine then_n ?_
      refine c_if (.tmp 25) ((((la).getD k 0 : Nat) : Int) != (((lb).getD k 0 : Nat) : Int)) [1, 1, 0, 1, 0, 0, 1, 0, 0, 1, 0] [1, 1, 0, 1, 0, 0, 1, 0, 0, 1, 1] (by kernel_rfl) (by kernel_rfl) (fun c17_ => ?_) (fun c17_ => ?_)
      · -- yes
        replace c17_ : (((la).getD k 0 : Nat) : Int) ≠ (((lb).getD k 0 : Nat) : Int) := by simpa using c17_
        refine c_seq [1, 1, 0, 1, 0, 0, 1, 0, 0, 1, 0, 0] [1, 1, 0, 1, 0, 0, 1, 0, 0, 1, 0, 1] (by kernel_rfl) ?_
        refine c_reg 7 same_c_R7 (by kernel_rfl) ?_
        refine at_pures 1 (by kernel_rfl) (by kernel_rfl) ?_
        refine at_done (by kernel_rfl) ?_
        refine then_n ?_
        refine c_ret (by kernel_rfl) ?_
        refine blk_r ?_
        refine then_r ?_
        refine then_r ?_
        refine blk_r ?_
        refine then_r ?_
        refine fin_ret (.bool false) (by kernel_rfl) (by kernel_rfl) ?_
        exact ⟨(by rw [decide_eq_false (fun e => by subst e; omega)]), T9_⟩
      · -- no
        replace c17_ : (((la).getD k 0 : Nat) : Int) = (((lb).getD k 0 : Nat) : Int) := by simpa using c17_
        refine c_skip (by kernel_rfl) ?_
        refine blk_n ?_
        refine then_n ?_
        refine c_reg 5 same_c_R5 (by kernel_rfl) ?_
        refine at_pures 1 (by kernel_rfl) (by kernel_rfl) ?_
        refine at_int (kd := .i64) (IntKind.i64.wrap ((k : Int) + (1 : Int))) ((k : Int) + (1 : Int)) (by kernel_rfl) (by kernel_rfl) (wrapN_i64 (by omega) (by omega)) ?_
        refine at_pures 3 (by kernel_rfl) (by kernel_rfl) ?_
        refine at_done (by kernel_rfl) ?_
        refine then_n ?_
        exact ⟨⟨k + 1, is_mk (by kernel_rfl) (by kernel_rfl) (by kernel_rfl), ⟨(by omega), take_eq_step hE (by omega) (by omega) (by omega), h11_, h12_, T9_⟩⟩, cnt_lt (k := (k : Int)) (k' := ((k : Int) + (1 : Int))) (by kernel_rfl) (by kernel_rfl) (by omega) (by omega)⟩
    · -- no
      replace c6_ : ¬ ((k : Int) < (la.length : Int)) := of_decide_eq_false c6_
      refine c_exit 0 (by kernel_rfl) ?_
      refine then_e ?_
      refine then_e ?_
      refine blk_hit ?_
      refine then_n ?_
      refine c_seq [1, 1, 1, 0] [1, 1, 1, 1] (by kernel_rfl) ?_
      refine c_reg 8 same_c_R8 (by kernel_rfl) ?_
      refine at_pures 1 (by kernel_rfl) (by kernel_rfl) ?_
      refine at_done (by kernel_rfl) ?_
      refine then_n ?_
      refine c_ret (by kernel_rfl) ?_
      refine fin_ret (.bool true) (by kernel_rfl) (by kernel_rfl) ?_
      exact ⟨(by rw [decide_eq_true (by rw [List.take_of_length_le (by omega), List.take_of_length_le (by omega)] at hE; exact hE)]), hFrL2_⟩
end Go.Proofs.YtboggbknebepdaaDoor
