/- The walks of layer 4's reference. -/
import Derived.Test.YtinmmamnldephaaGreatDoorWR
import Derived.Test.YtinmmamnldephaaGreatDoorLib2
namespace Go.Proofs.YtinmmamnldephaaGreatDoor
open Go Go.RowKit Go.Alm
noncomputable def rput_c_R0 : Array Oper := rAt Tryz.prog 95 [0]
noncomputable def rput_c_R1 : Array Oper := rAt Tryz.prog 95 [1, 0]
noncomputable def rput_c_R2 : Array Oper := rAt Tryz.prog 95 [1, 1, 0, 0]
noncomputable def rput_c_R3 : Array Oper := rAt Tryz.prog 95 [1, 1, 0, 1, 0, 0, 0, 0]
noncomputable def rput_c_R5 : Array Oper := rAt Tryz.prog 95 [1, 1, 0, 1, 0, 0, 1, 0, 0, 0]
noncomputable def rput_c_R6 : Array Oper := rAt Tryz.prog 95 [1, 1, 0, 1, 0, 0, 1, 0, 0, 1]
noncomputable def rput_c_R4 : Array Oper := rAt Tryz.prog 95 [1, 1, 0, 1, 0, 0, 1, 1]
noncomputable def rput_c_R7 : Array Oper := rAt Tryz.prog 95 [1, 1, 1, 0]
set_option maxRecDepth 100000 in
theorem rput_c (n : Nat) (size : Nat) (w : World) (hn : n < 18446744073709551616) (hs : size ≤ 8) :
    Calls Tryz.prog 95 #[(.int .u64 (n : Int)), (.int .i64 (size : Int))] w fun e w' => ∃ (v_out' : Value), e = .returned v_out' ∧ Row w' 5 1 v_out' size (B (putB n size size)) ∧ Fr w w' N0 ∧ New w N0 (Own v_out') := by
  refine c_enter (mk 22 [(0, (.int .u64 (n : Int))), (1, (.int .i64 (size : Int)))] (fun _ => undef)) Tryz.func95 (by kernel_rfl) (by kernel_rfl) ?_
  refine c_seq [0] [1] (by kernel_rfl) ?_
  refine c_reg 0 rput_c_R0 (by kernel_rfl) ?_
  refine at_pures 1 (by kernel_rfl) (by kernel_rfl) ?_
  refine at_done (by kernel_rfl) ?_
  refine then_n ?_
  refine c_seq [1, 0] [1, 1] (by kernel_rfl) ?_
  refine c_reg 1 rput_c_R1 (by kernel_rfl) ?_
  refine at_do (by kernel_rfl) (op_new (.cells #[] 5) (fun N => (.slice (some ⟨N, 0, none⟩) 0 0)) (fun _ => by kernel_rfl) (fun w2_ b1_ h3_ q4_ F5_ => ?_))
  have N6_ : New w N0 (One b1_) := New.made q4_ (Fr.size (Fr.refl w N0))
  have T7_ := Fr.tr (Fr.refl w N0) F5_
  refine at_pures 2 (by kernel_rfl) (by kernel_rfl) ?_
  refine at_done (by kernel_rfl) ?_
  refine then_n ?_
  refine c_seq [1, 1, 0] [1, 1, 1] (by kernel_rfl) ?_
  refine c_seq [1, 1, 0, 0] [1, 1, 0, 1] (by kernel_rfl) ?_
  refine c_reg 2 rput_c_R2 (by kernel_rfl) ?_
  refine at_pures 1 (by kernel_rfl) (by kernel_rfl) ?_
  refine at_done (by kernel_rfl) ?_
  refine then_n ?_
  refine c_block 0 [1, 1, 0, 1, 0] (by kernel_rfl) ?_
  have h8_ : Row w2_ 5 1 (.slice (some ⟨b1_, 0, none⟩) 0 0) 0 [] := Row.made' h3_ (by rfl) (by decide) (by decide) (by rfl)
  refine c_loop (fun a w' => ∃ (k : Nat), ∃ (vo : Value), (∃ u, a = mk 22 [(0, (.int .u64 ((lowQ n k : Nat) : Int))), (1, (.int .i64 (size : Int))), (4, (.slice none 0 0)), (5, vo), (6, (.int .i64 (k : Int))), (7, (.slice (some ⟨b1_, 0, none⟩) 0 0))] u) ∧ (k ≤ size) ∧ (Row w' 5 1 vo (k) (B (putB n k k))) ∧ (New w N0 (Own vo)) ∧ (Fr w w' N0)) (fun a _ => cnt (size) 6 a) [1, 1, 0, 1, 0, 0] (by kernel_rfl) ⟨0, _, is_mk (by kernel_rfl) (by kernel_rfl) (by kernel_rfl), ⟨Nat.zero_le _, h8_, (New.own N6_), T7_⟩⟩ ?_
  rintro a10_ w11_ ⟨k, vo, ⟨u12_, rfl⟩, ⟨hk, q_0L9_, n_0L9_, hFrL9_⟩⟩
  have hq := lowQ_le n k
  refine c_seq [1, 1, 0, 1, 0, 0, 0] [1, 1, 0, 1, 0, 0, 1] (by kernel_rfl) ?_
  refine c_seq [1, 1, 0, 1, 0, 0, 0, 0] [1, 1, 0, 1, 0, 0, 0, 1] (by kernel_rfl) ?_
  refine c_reg 3 rput_c_R3 (by kernel_rfl) ?_
  refine at_pures 3 (by kernel_rfl) (by kernel_rfl) ?_
  refine at_done (by kernel_rfl) ?_
  refine then_n ?_
  refine c_if (.tmp 10) (decide ((k : Int) < (size : Int))) [1, 1, 0, 1, 0, 0, 0, 1, 0] [1, 1, 0, 1, 0, 0, 0, 1, 1] (by kernel_rfl) (by kernel_rfl) (fun c13_ => ?_) (fun c13_ => ?_)
  · -- yes
    replace c13_ : (k : Int) < (size : Int) := of_decide_eq_true c13_
    refine c_skip (by kernel_rfl) ?_
    refine then_n ?_
    refine c_seq [1, 1, 0, 1, 0, 0, 1, 0] [1, 1, 0, 1, 0, 0, 1, 1] (by kernel_rfl) ?_
    refine c_block 1 [1, 1, 0, 1, 0, 0, 1, 0, 0] (by kernel_rfl) ?_
    refine c_seq [1, 1, 0, 1, 0, 0, 1, 0, 0, 0] [1, 1, 0, 1, 0, 0, 1, 0, 0, 1] (by kernel_rfl) ?_
    refine c_reg 5 rput_c_R5 (by kernel_rfl) ?_
    refine at_pures 1 (by kernel_rfl) (by kernel_rfl) ?_
    refine at_int (kd := .u64) (((lowQ n k : Nat) : Int).tmod (256 : Int)) ((((lowQ n k : Nat) % 256 : Nat) : Int)) (by kernel_rfl) (by kernel_rfl) (rem_nat2 (n := (lowQ n k : Nat)) (by omega)) ?_
    refine at_int (kd := .u8) (IntKind.u8.wrap ((((lowQ n k : Nat) % 256 : Nat) : Int))) ((((lowQ n k : Nat) % 256 : Nat) : Int)) (by kernel_rfl) (by kernel_rfl) (wrapN_u8 (by omega) (by omega)) ?_
    refine at_do (by kernel_rfl) (op_new (.cells #[(.int .u8 (((lowQ n k : Nat) % 256 : Nat) : Int))] 5) (fun N => (.slice (some ⟨N, 0, none⟩) 1 1)) (fun _ => by kernel_rfl) (fun w15_ b14_ h16_ q17_ F18_ => ?_))
    have d19_ : Dis (One b14_) (Own vo) := Dis.fresh (New.one q17_) (Row.in q_0L9_)
    have N20_ : New w N0 (One b14_) := New.made q17_ (Fr.size hFrL9_)
    have T21_ := Fr.tr hFrL9_ F18_
    refine at_pures 5 (by kernel_rfl) (by kernel_rfl) ?_
    have h22_ := Row.keep q_0L9_ F18_ Dis.n0
    have h23_ : Row w15_ 5 1 (.slice (some ⟨b14_, 0, none⟩) 1 1) 1 ((#[(.int .u8 (((lowQ n k : Nat) % 256 : Nat) : Int))]).toList) := Row.made' h16_ (by rfl) (by decide) (by decide) (by rfl)
    refine at_do (by kernel_rfl) (op_append (.tmp 16) (.tmp 17) 102 102 5 1 1 (.int .u8 0) (by kernel_rfl) (by kernel_rfl) (by rfl) (v := (.slice (some ⟨b14_, 0, none⟩) 1 1)) (by kernel_rfl) h23_ (xv := vo) (m := k) (news := B (putB n k k)) (by kernel_rfl) (Row.src (e' := 5) (by kernel_rfl) h22_ (by decide) B_one) (by simp only [maxLen]; omega) (by omega) (fun v24_ w25_ h26_ F27_ s28_ => ?_))
    have T29_ := Fr.then T21_ F27_ (New.own N20_)
    have N30_ : New w N0 (Own v24_) := New.trans (New.own N20_) s28_ (Fr.size T21_)
    refine at_pures 7 (by kernel_rfl) (by kernel_rfl) ?_
    refine at_done (by kernel_rfl) ?_
    refine then_n ?_
    refine c_reg 6 rput_c_R6 (by kernel_rfl) ?_
    refine at_pures 1 (by kernel_rfl) (by kernel_rfl) ?_
    refine at_int (kd := .u64) (IntKind.u64.wrap (((lowQ n k : Nat) : Int).tdiv (256 : Int))) ((((lowQ n k : Nat) / 256 : Nat) : Int)) (by kernel_rfl) (by kernel_rfl) (quo_u64 (by omega)) ?_
    refine at_pures 3 (by kernel_rfl) (by kernel_rfl) ?_
    refine at_done (by kernel_rfl) ?_
    refine blk_n ?_
    refine then_n ?_
    refine c_reg 4 rput_c_R4 (by kernel_rfl) ?_
    refine at_pures 1 (by kernel_rfl) (by kernel_rfl) ?_
    refine at_int (kd := .i64) (IntKind.i64.wrap ((k : Int) + (1 : Int))) ((k : Int) + (1 : Int)) (by kernel_rfl) (by kernel_rfl) (wrapN_i64 (by omega) (by omega)) ?_
    refine at_pures 3 (by kernel_rfl) (by kernel_rfl) ?_
    refine at_done (by kernel_rfl) ?_
    refine then_n ?_
    exact ⟨⟨k + 1, v24_, is_mk (by kernel_rfl) (by kernel_rfl) (by kernel_rfl), ⟨(by omega), (by have h := h26_; rw [put_head, Nat.add_comm 1 k] at h; exact h), N30_, T29_⟩⟩, cnt_lt (k := (k : Int)) (k' := ((k : Int) + (1 : Int))) (by kernel_rfl) (by kernel_rfl) (by omega) (by omega)⟩
  · -- no
    replace c13_ : ¬ ((k : Int) < (size : Int)) := of_decide_eq_false c13_
    refine c_exit 0 (by kernel_rfl) ?_
    refine then_e ?_
    refine then_e ?_
    refine blk_hit ?_
    refine then_n ?_
    refine c_seq [1, 1, 1, 0] [1, 1, 1, 1] (by kernel_rfl) ?_
    refine c_reg 7 rput_c_R7 (by kernel_rfl) ?_
    refine at_pures 2 (by kernel_rfl) (by kernel_rfl) ?_
    refine at_done (by kernel_rfl) ?_
    refine then_n ?_
    refine c_ret (by kernel_rfl) ?_
    refine fin_ret vo (by kernel_rfl) (by kernel_rfl) ?_
    exact ⟨vo, rfl, (by have e : k = size := (by omega); subst e; exact q_0L9_), hFrL9_, n_0L9_⟩








end Go.Proofs.YtinmmamnldephaaGreatDoor
