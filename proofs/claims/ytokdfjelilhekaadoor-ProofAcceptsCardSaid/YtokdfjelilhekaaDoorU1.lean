/- The walks of layer 14. -/
import Derived.Test.YtokdfjelilhekaaDoorWY
import Derived.Test.YtokdfjelilhekaaDoorWF
import Derived.Test.YtokdfjelilhekaaDoorLib3
namespace Go.Proofs.YtokdfjelilhekaaDoor
open Go Go.RowKit Go.Alm
noncomputable def aright_c_R0 : Array Oper := rAt Tryd.prog 50 [0]
noncomputable def aright_c_R1 : Array Oper := rAt Tryd.prog 50 [1, 0, 0]
noncomputable def aright_c_R2 : Array Oper := rAt Tryd.prog 50 [1, 0, 1, 0, 0, 0]
noncomputable def aright_c_R3 : Array Oper := rAt Tryd.prog 50 [1, 0, 1, 0, 0, 1, 1, 0, 0]
noncomputable def aright_c_R4 : Array Oper := rAt Tryd.prog 50 [1, 0, 1, 0, 0, 1, 1, 0, 1, 0]
noncomputable def aright_c_R5 : Array Oper := rAt Tryd.prog 50 [1, 0, 1, 0, 0, 1, 1, 0, 1, 1, 0, 0]
noncomputable def aright_c_R6 : Array Oper := rAt Tryd.prog 50 [1, 1, 0]
set_option maxRecDepth 100000 in
theorem aright_c (s : ByteArray) (bal : Nat) (non : Nat) (w : World) :
    Calls Tryd.prog 50 #[(.agg #[(.string s), (.int .u64 (bal : Int)), (.int .u32 (non : Int))])] w fun e w' => e = .returned (.bool (rightS s)) ∧ Fr w w' N0 := by
  refine c_enter (mk 26 [(0, (.agg #[(.string s), (.int .u64 (bal : Int)), (.int .u32 (non : Int))]))] (fun _ => undef)) Tryd.func50 (by kernel_rfl) (by kernel_rfl) ?_
  refine c_seq [0] [1] (by kernel_rfl) ?_
  refine c_reg 0 aright_c_R0 (by kernel_rfl) ?_
  refine at_do (by kernel_rfl) (op_new (.cells #[(.string s), (.int .u64 (bal : Int)), (.int .u32 (non : Int))] 36) (fun N => (.pointer (some ⟨N, 0, none⟩))) (fun _ => by kernel_rfl) (fun w2_ b1_ h3_ q4_ F5_ => ?_))
  have N6_ : New w N0 (One b1_) := New.made q4_ (Fr.size (Fr.refl w N0))
  have T7_ := Fr.tr (Fr.refl w N0) F5_
  refine at_pures 2 (by kernel_rfl) (by kernel_rfl) ?_
  refine at_done (by kernel_rfl) ?_
  refine then_n ?_
  refine c_seq [1, 0] [1, 1] (by kernel_rfl) ?_
  refine c_seq [1, 0, 0] [1, 0, 1] (by kernel_rfl) ?_
  refine c_reg 1 aright_c_R1 (by kernel_rfl) ?_
  refine at_pures 1 (by kernel_rfl) (by kernel_rfl) ?_
  refine at_load1 9 (.tmp 5) b1_ 0 _ _ _ (.string s) (by kernel_rfl) (by kernel_rfl) (by kernel_rfl) (by kernel_rfl) h3_ (by kernel_rfl) ?_
  refine at_do (by kernel_rfl) (op_new (.stringIter s 0) (fun N => .pointer (some ⟨N, 0, none⟩)) (fun _ => by kernel_rfl) (fun w9_ b8_ h10_ q11_ F12_ => ?_))
  have d13_ : Dis (One b8_) (One b1_) := Dis.fresh (New.one q11_) (In.one h3_)
  have N14_ : New w N0 (One b8_) := New.made q11_ (Fr.size T7_)
  have T15_ := Fr.tr T7_ F12_
  refine at_done (by kernel_rfl) ?_
  refine then_n ?_
  refine c_block 0 [1, 0, 1, 0] (by kernel_rfl) ?_
  have h16_ := Fr.keep F12_ h3_ Dis.n0
  refine c_loop (fun a w' => ∃ (i : Nat), (∃ u, a = mk 26 [(0, (.agg #[(.string s), (.int .u64 (bal : Int)), (.int .u32 (non : Int))])), (1, (.pointer (some ⟨b1_, 0, none⟩))), (5, (.pointer (some ⟨b1_, 0, none⟩))), (6, (.string s)), (7, (.pointer (some ⟨b8_, 0, none⟩)))] u) ∧ (i ≤ s.size) ∧ (((sB s).take i).all ltr = true) ∧ (w'.heap[b1_]? = some (.cells #[(.string s), (.int .u64 (bal : Int)), (.int .u32 (non : Int))] 36 (0, 0))) ∧ (w'.heap[b8_]? = some (.stringIter s i)) ∧ (Fr w w' N0)) (fun _ w_ => itPos b8_ w_) [1, 0, 1, 0, 0] (by kernel_rfl) ⟨0, is_mk (by kernel_rfl) (by kernel_rfl) (by kernel_rfl), ⟨Nat.zero_le _, rfl, h16_, h10_, T15_⟩⟩ ?_
  rintro a18_ w19_ ⟨i, ⟨u20_, rfl⟩, ⟨hi, hL, q_0L17_, q_1L17_, hFrL17_⟩⟩
  refine c_seq [1, 0, 1, 0, 0, 0] [1, 0, 1, 0, 0, 1] (by kernel_rfl) ?_
  refine c_reg 2 aright_c_R2 (by kernel_rfl) ?_
  by_cases hp21_ : i < s.size
  · by_cases hl22_ : (sB s).getD i 0 < 128
    · -- of one byte
      refine at_do (by kernel_rfl) (op_next_low (.tmp 7) b8_ i s (by kernel_rfl) (by kernel_rfl) q_1L17_ hp21_ hl22_ (fun w23_ h24_ z25_ F26_ => ?_))
      have T29_ := Fr.then hFrL17_ F26_ N14_
      have h30_ := Fr.keep F26_ q_0L17_ (Dis.sym d13_)
      refine at_pures 2 (by kernel_rfl) (by kernel_rfl) ?_
      refine at_done (by kernel_rfl) ?_
      refine then_n ?_
      refine c_seq [1, 0, 1, 0, 0, 1, 0] [1, 0, 1, 0, 0, 1, 1] (by kernel_rfl) ?_
      refine c_then (.tmp 9) [1, 0, 1, 0, 0, 1, 0, 0] [1, 0, 1, 0, 0, 1, 0, 1] (by kernel_rfl) (by kernel_rfl) ?_
      refine c_skip (by kernel_rfl) ?_
      refine then_n ?_
      refine c_block 1 [1, 0, 1, 0, 0, 1, 1, 0] (by kernel_rfl) ?_
      refine c_seq [1, 0, 1, 0, 0, 1, 1, 0, 0] [1, 0, 1, 0, 0, 1, 1, 0, 1] (by kernel_rfl) ?_
      refine c_reg 3 aright_c_R3 (by kernel_rfl) ?_
      refine at_pures 2 (by kernel_rfl) (by kernel_rfl) ?_
      refine at_done (by kernel_rfl) ?_
      refine then_n ?_
      refine c_seq [1, 0, 1, 0, 0, 1, 1, 0, 1, 0] [1, 0, 1, 0, 0, 1, 1, 0, 1, 1] (by kernel_rfl) ?_
      refine c_reg 4 aright_c_R4 (by kernel_rfl) ?_
      refine at_pures 2 (by kernel_rfl) (by kernel_rfl) ?_
      refine at_split (decide ((((sB s).getD i 0 : Nat) : Int) < (97 : Int))) (by kernel_rfl) (by kernel_rfl) (fun c31_ => ?_) (fun c31_ => ?_)
      · -- yes
        replace c31_ : (((sB s).getD i 0 : Nat) : Int) < (97 : Int) := of_decide_eq_true c31_
        refine at_pures 6 (by kernel_rfl) (by kernel_rfl) ?_
        refine at_done (by kernel_rfl) ?_
        refine then_n ?_
        refine c_then (.tmp 16) [1, 0, 1, 0, 0, 1, 1, 0, 1, 1, 0] [1, 0, 1, 0, 0, 1, 1, 0, 1, 1, 1] (by kernel_rfl) (by kernel_rfl) ?_
        refine c_seq [1, 0, 1, 0, 0, 1, 1, 0, 1, 1, 0, 0] [1, 0, 1, 0, 0, 1, 1, 0, 1, 1, 0, 1] (by kernel_rfl) ?_
        refine c_reg 5 aright_c_R5 (by kernel_rfl) ?_
        refine at_pures 1 (by kernel_rfl) (by kernel_rfl) ?_
        refine at_done (by kernel_rfl) ?_
        refine then_n ?_
        refine c_ret (by kernel_rfl) ?_
        refine blk_r ?_
        refine then_r ?_
        refine blk_r ?_
        refine then_r ?_
        refine fin_ret (.bool false) (by kernel_rfl) (by kernel_rfl) ?_
        exact ⟨(by first | rw [right_no (k := i) (by omega) (by omega)] | rw [right_size (by first | omega | (have := empty_eq (s := s) (by assumption); omega))]), T29_⟩
      · -- no
        replace c31_ : ¬ ((((sB s).getD i 0 : Nat) : Int) < (97 : Int)) := of_decide_eq_false c31_
        refine at_pures 6 (by kernel_rfl) (by kernel_rfl) ?_
        refine at_done (by kernel_rfl) ?_
        refine then_n ?_
        refine c_if (.tmp 16) (decide ((((sB s).getD i 0 : Nat) : Int) > (122 : Int))) [1, 0, 1, 0, 0, 1, 1, 0, 1, 1, 0] [1, 0, 1, 0, 0, 1, 1, 0, 1, 1, 1] (by kernel_rfl) (by kernel_rfl) (fun c32_ => ?_) (fun c32_ => ?_)
        · -- yes
          replace c32_ : (((sB s).getD i 0 : Nat) : Int) > (122 : Int) := of_decide_eq_true c32_
          refine c_seq [1, 0, 1, 0, 0, 1, 1, 0, 1, 1, 0, 0] [1, 0, 1, 0, 0, 1, 1, 0, 1, 1, 0, 1] (by kernel_rfl) ?_
          refine c_reg 5 aright_c_R5 (by kernel_rfl) ?_
          refine at_pures 1 (by kernel_rfl) (by kernel_rfl) ?_
          refine at_done (by kernel_rfl) ?_
          refine then_n ?_
          refine c_ret (by kernel_rfl) ?_
          refine blk_r ?_
          refine then_r ?_
          refine blk_r ?_
          refine then_r ?_
          refine fin_ret (.bool false) (by kernel_rfl) (by kernel_rfl) ?_
          exact ⟨(by first | rw [right_no (k := i) (by omega) (by omega)] | rw [right_size (by first | omega | (have := empty_eq (s := s) (by assumption); omega))]), T29_⟩
        · -- no
          replace c32_ : ¬ ((((sB s).getD i 0 : Nat) : Int) > (122 : Int)) := of_decide_eq_false c32_
          refine c_skip (by kernel_rfl) ?_
          refine blk_n ?_
          refine then_n ?_
          exact ⟨⟨i + 1, is_mk (by kernel_rfl) (by kernel_rfl) (by kernel_rfl), ⟨(by omega), (by first | exact all_step hL (by rw [sB_length]; omega) ⟨by omega, by omega⟩ | (exfalso; omega)), h30_, h24_, T29_⟩⟩, itPos_lt q_1L17_ h24_ (Nat.lt_succ_self i) (by omega)⟩
    · -- of more
      refine at_do (by kernel_rfl) (op_next_high (.tmp 7) b8_ i s (by kernel_rfl) (by kernel_rfl) q_1L17_ hp21_ hl22_ (fun w33_ c37_ p38_ hc37_ h34_ z35_ F36_ => ?_))
      have T39_ := Fr.then hFrL17_ F36_ N14_
      have h40_ := Fr.keep F36_ q_0L17_ (Dis.sym d13_)
      refine at_pures 2 (by kernel_rfl) (by kernel_rfl) ?_
      refine at_done (by kernel_rfl) ?_
      refine then_n ?_
      refine c_seq [1, 0, 1, 0, 0, 1, 0] [1, 0, 1, 0, 0, 1, 1] (by kernel_rfl) ?_
      refine c_then (.tmp 9) [1, 0, 1, 0, 0, 1, 0, 0] [1, 0, 1, 0, 0, 1, 0, 1] (by kernel_rfl) (by kernel_rfl) ?_
      refine c_skip (by kernel_rfl) ?_
      refine then_n ?_
      refine c_block 1 [1, 0, 1, 0, 0, 1, 1, 0] (by kernel_rfl) ?_
      refine c_seq [1, 0, 1, 0, 0, 1, 1, 0, 0] [1, 0, 1, 0, 0, 1, 1, 0, 1] (by kernel_rfl) ?_
      refine c_reg 3 aright_c_R3 (by kernel_rfl) ?_
      refine at_pures 2 (by kernel_rfl) (by kernel_rfl) ?_
      refine at_done (by kernel_rfl) ?_
      refine then_n ?_
      refine c_seq [1, 0, 1, 0, 0, 1, 1, 0, 1, 0] [1, 0, 1, 0, 0, 1, 1, 0, 1, 1] (by kernel_rfl) ?_
      refine c_reg 4 aright_c_R4 (by kernel_rfl) ?_
      refine at_pures 2 (by kernel_rfl) (by kernel_rfl) ?_
      refine at_split (decide ((c37_ : Int) < (97 : Int))) (by kernel_rfl) (by kernel_rfl) (fun c41_ => ?_) (fun c41_ => ?_)
      · -- yes
        replace c41_ : (c37_ : Int) < (97 : Int) := of_decide_eq_true c41_
        refine at_pures 6 (by kernel_rfl) (by kernel_rfl) ?_
        refine at_done (by kernel_rfl) ?_
        refine then_n ?_
        refine c_then (.tmp 16) [1, 0, 1, 0, 0, 1, 1, 0, 1, 1, 0] [1, 0, 1, 0, 0, 1, 1, 0, 1, 1, 1] (by kernel_rfl) (by kernel_rfl) ?_
        refine c_seq [1, 0, 1, 0, 0, 1, 1, 0, 1, 1, 0, 0] [1, 0, 1, 0, 0, 1, 1, 0, 1, 1, 0, 1] (by kernel_rfl) ?_
        refine c_reg 5 aright_c_R5 (by kernel_rfl) ?_
        refine at_pures 1 (by kernel_rfl) (by kernel_rfl) ?_
        refine at_done (by kernel_rfl) ?_
        refine then_n ?_
        refine c_ret (by kernel_rfl) ?_
        refine blk_r ?_
        refine then_r ?_
        refine blk_r ?_
        refine then_r ?_
        refine fin_ret (.bool false) (by kernel_rfl) (by kernel_rfl) ?_
        exact ⟨(by first | rw [right_no (k := i) (by omega) (by omega)] | rw [right_size (by first | omega | (have := empty_eq (s := s) (by assumption); omega))]), T39_⟩
      · -- no
        replace c41_ : ¬ ((c37_ : Int) < (97 : Int)) := of_decide_eq_false c41_
        refine at_pures 6 (by kernel_rfl) (by kernel_rfl) ?_
        refine at_done (by kernel_rfl) ?_
        refine then_n ?_
        refine c_if (.tmp 16) (decide ((c37_ : Int) > (122 : Int))) [1, 0, 1, 0, 0, 1, 1, 0, 1, 1, 0] [1, 0, 1, 0, 0, 1, 1, 0, 1, 1, 1] (by kernel_rfl) (by kernel_rfl) (fun c42_ => ?_) (fun c42_ => ?_)
        · -- yes
          replace c42_ : (c37_ : Int) > (122 : Int) := of_decide_eq_true c42_
          refine c_seq [1, 0, 1, 0, 0, 1, 1, 0, 1, 1, 0, 0] [1, 0, 1, 0, 0, 1, 1, 0, 1, 1, 0, 1] (by kernel_rfl) ?_
          refine c_reg 5 aright_c_R5 (by kernel_rfl) ?_
          refine at_pures 1 (by kernel_rfl) (by kernel_rfl) ?_
          refine at_done (by kernel_rfl) ?_
          refine then_n ?_
          refine c_ret (by kernel_rfl) ?_
          refine blk_r ?_
          refine then_r ?_
          refine blk_r ?_
          refine then_r ?_
          refine fin_ret (.bool false) (by kernel_rfl) (by kernel_rfl) ?_
          exact ⟨(by first | rw [right_no (k := i) (by omega) (by omega)] | rw [right_size (by first | omega | (have := empty_eq (s := s) (by assumption); omega))]), T39_⟩
        · -- no
          replace c42_ : ¬ ((c37_ : Int) > (122 : Int)) := of_decide_eq_false c42_
          refine c_skip (by kernel_rfl) ?_
          refine blk_n ?_
          refine then_n ?_
          exfalso; omega
  · -- at the end
    refine at_run (.tuple #[.bool false]) _ (by kernel_rfl) (run_over (.tmp 7) b8_ i s (by kernel_rfl) (by kernel_rfl) q_1L17_ hp21_) ?_
    refine at_pures 2 (by kernel_rfl) (by kernel_rfl) ?_
    refine at_done (by kernel_rfl) ?_
    refine then_n ?_
    refine c_seq [1, 0, 1, 0, 0, 1, 0] [1, 0, 1, 0, 0, 1, 1] (by kernel_rfl) ?_
    refine c_else (.tmp 9) [1, 0, 1, 0, 0, 1, 0, 0] [1, 0, 1, 0, 0, 1, 0, 1] (by kernel_rfl) (by kernel_rfl) ?_
    refine c_exit 0 (by kernel_rfl) ?_
    refine then_e ?_
    refine then_e ?_
    refine blk_hit ?_
    refine then_n ?_
    refine c_seq [1, 1, 0] [1, 1, 1] (by kernel_rfl) ?_
    refine c_reg 6 aright_c_R6 (by kernel_rfl) ?_
    refine at_pures 1 (by kernel_rfl) (by kernel_rfl) ?_
    refine at_load1 9 (.tmp 17) b1_ 0 _ _ _ (.string s) (by kernel_rfl) (by kernel_rfl) (by kernel_rfl) (by kernel_rfl) q_0L17_ (by kernel_rfl) ?_
    refine at_run (.bool (!(s == (⟨#[]⟩ : ByteArray)))) _ (by kernel_rfl) (run_eq_str false 9 (.tmp 18) (.const (.string (⟨#[]⟩ : ByteArray))) s (⟨#[]⟩ : ByteArray) (by kernel_rfl) (by kernel_rfl) (by kernel_rfl)) ?_
    refine at_split (!(s == (⟨#[]⟩ : ByteArray))) (by kernel_rfl) (by kernel_rfl) (fun c43_ => ?_) (fun c43_ => ?_)
    · -- yes
      replace c43_ : (s == (⟨#[]⟩ : ByteArray)) = false := by simpa using c43_
      replace c43_ : s ≠ (⟨#[]⟩ : ByteArray) := str_no c43_
      refine at_pures 5 (by kernel_rfl) (by kernel_rfl) ?_
      refine at_load1 9 (.tmp 21) b1_ 0 _ _ _ (.string s) (by kernel_rfl) (by kernel_rfl) (by kernel_rfl) (by kernel_rfl) q_0L17_ (by kernel_rfl) ?_
      refine at_pures 10 (by kernel_rfl) (by kernel_rfl) ?_
      refine at_done (by kernel_rfl) ?_
      refine then_n ?_
      refine c_ret (by kernel_rfl) ?_
      refine fin_ret (.bool (decide ((s.size : Int) ≤ (8 : Int)))) (by kernel_rfl) (by kernel_rfl) ?_
      exact ⟨(by have h0 := empty_size (s := s) (by assumption); by_cases h8 : s.size ≤ 8 <;> first | rw [right_yes hL (by omega) h0 h8, decide_eq_true (by omega)] | rw [right_size (by omega), decide_eq_false (by omega)]), hFrL17_⟩
    · -- no
      replace c43_ : (s == (⟨#[]⟩ : ByteArray)) = true := by simpa using c43_
      replace c43_ : s = (⟨#[]⟩ : ByteArray) := str_yes c43_
      refine at_pures 10 (by kernel_rfl) (by kernel_rfl) ?_
      refine at_done (by kernel_rfl) ?_
      refine then_n ?_
      refine c_ret (by kernel_rfl) ?_
      refine fin_ret (.bool false) (by kernel_rfl) (by kernel_rfl) ?_
      exact ⟨(by first | rw [right_no (k := i) (by omega) (by omega)] | rw [right_size (by first | omega | (have := empty_eq (s := s) (by assumption); omega))]), hFrL17_⟩

noncomputable def raright_c_R0 : Array Oper := rAt Tryd.prog 44 [0]
noncomputable def raright_c_R1 : Array Oper := rAt Tryd.prog 44 [1, 0, 0]
noncomputable def raright_c_R2 : Array Oper := rAt Tryd.prog 44 [1, 0, 1, 0, 0]
noncomputable def raright_c_R3 : Array Oper := rAt Tryd.prog 44 [1, 1, 0, 0]
noncomputable def raright_c_R4 : Array Oper := rAt Tryd.prog 44 [1, 1, 0, 1, 0, 0, 0, 0]
noncomputable def raright_c_R6 : Array Oper := rAt Tryd.prog 44 [1, 1, 0, 1, 0, 0, 1, 0, 0, 0]
noncomputable def raright_c_R7 : Array Oper := rAt Tryd.prog 44 [1, 1, 0, 1, 0, 0, 1, 0, 0, 1, 0, 0]
noncomputable def raright_c_R5 : Array Oper := rAt Tryd.prog 44 [1, 1, 0, 1, 0, 0, 1, 1]
noncomputable def raright_c_R8 : Array Oper := rAt Tryd.prog 44 [1, 1, 1, 0]
set_option maxRecDepth 100000 in
theorem raright_c (s : ByteArray) (bal : Nat) (non : Nat) (w : World) :
    Calls Tryd.prog 44 #[(.agg #[(.string s), (.int .u64 (bal : Int)), (.int .u32 (non : Int))])] w fun e w' => e = .returned (.bool (rightS s)) ∧ Fr w w' N0 := by
  refine c_enter (mk 33 [(0, (.agg #[(.string s), (.int .u64 (bal : Int)), (.int .u32 (non : Int))]))] (fun _ => undef)) Tryd.func44 (by kernel_rfl) (by kernel_rfl) ?_
  refine c_seq [0] [1] (by kernel_rfl) ?_
  refine c_reg 0 raright_c_R0 (by kernel_rfl) ?_
  refine at_do (by kernel_rfl) (op_new (.cells #[(.string s), (.int .u64 (bal : Int)), (.int .u32 (non : Int))] 31) (fun N => (.pointer (some ⟨N, 0, none⟩))) (fun _ => by kernel_rfl) (fun w2_ b1_ h3_ q4_ F5_ => ?_))
  have N6_ : New w N0 (One b1_) := New.made q4_ (Fr.size (Fr.refl w N0))
  have T7_ := Fr.tr (Fr.refl w N0) F5_
  refine at_pures 2 (by kernel_rfl) (by kernel_rfl) ?_
  refine at_done (by kernel_rfl) ?_
  refine then_n ?_
  refine c_seq [1, 0] [1, 1] (by kernel_rfl) ?_
  refine c_seq [1, 0, 0] [1, 0, 1] (by kernel_rfl) ?_
  refine c_reg 1 raright_c_R1 (by kernel_rfl) ?_
  refine at_pures 1 (by kernel_rfl) (by kernel_rfl) ?_
  refine at_load1 9 (.tmp 4) b1_ 0 _ _ _ (.string s) (by kernel_rfl) (by kernel_rfl) (by kernel_rfl) (by kernel_rfl) h3_ (by kernel_rfl) ?_
  refine at_pures 4 (by kernel_rfl) (by kernel_rfl) ?_
  refine at_split (decide ((s.size : Int) < (1 : Int))) (by kernel_rfl) (by kernel_rfl) (fun c8_ => ?_) (fun c8_ => ?_)
  · -- yes
    replace c8_ : (s.size : Int) < (1 : Int) := of_decide_eq_true c8_
    refine at_pures 10 (by kernel_rfl) (by kernel_rfl) ?_
    refine at_done (by kernel_rfl) ?_
    refine then_n ?_
    refine c_then (.tmp 13) [1, 0, 1, 0] [1, 0, 1, 1] (by kernel_rfl) (by kernel_rfl) ?_
    refine c_seq [1, 0, 1, 0, 0] [1, 0, 1, 0, 1] (by kernel_rfl) ?_
    refine c_reg 2 raright_c_R2 (by kernel_rfl) ?_
    refine at_pures 1 (by kernel_rfl) (by kernel_rfl) ?_
    refine at_done (by kernel_rfl) ?_
    refine then_n ?_
    refine c_ret (by kernel_rfl) ?_
    refine then_r ?_
    refine fin_ret (.bool false) (by kernel_rfl) (by kernel_rfl) ?_
    exact ⟨(by first | rw [right_size (by omega)] | rw [right_no (k := i) (by omega) (by omega)]), T7_⟩
  · -- no
    replace c8_ : ¬ ((s.size : Int) < (1 : Int)) := of_decide_eq_false c8_
    refine at_pures 6 (by kernel_rfl) (by kernel_rfl) ?_
    refine at_load1 9 (.tmp 9) b1_ 0 _ _ _ (.string s) (by kernel_rfl) (by kernel_rfl) (by kernel_rfl) (by kernel_rfl) h3_ (by kernel_rfl) ?_
    refine at_pures 10 (by kernel_rfl) (by kernel_rfl) ?_
    refine at_done (by kernel_rfl) ?_
    refine then_n ?_
    refine c_if (.tmp 13) (decide ((s.size : Int) > (8 : Int))) [1, 0, 1, 0] [1, 0, 1, 1] (by kernel_rfl) (by kernel_rfl) (fun c9_ => ?_) (fun c9_ => ?_)
    · -- yes
      replace c9_ : (s.size : Int) > (8 : Int) := of_decide_eq_true c9_
      refine c_seq [1, 0, 1, 0, 0] [1, 0, 1, 0, 1] (by kernel_rfl) ?_
      refine c_reg 2 raright_c_R2 (by kernel_rfl) ?_
      refine at_pures 1 (by kernel_rfl) (by kernel_rfl) ?_
      refine at_done (by kernel_rfl) ?_
      refine then_n ?_
      refine c_ret (by kernel_rfl) ?_
      refine then_r ?_
      refine fin_ret (.bool false) (by kernel_rfl) (by kernel_rfl) ?_
      exact ⟨(by first | rw [right_size (by omega)] | rw [right_no (k := i) (by omega) (by omega)]), T7_⟩
    · -- no
      replace c9_ : ¬ ((s.size : Int) > (8 : Int)) := of_decide_eq_false c9_
      refine c_skip (by kernel_rfl) ?_
      refine then_n ?_
      refine c_seq [1, 1, 0] [1, 1, 1] (by kernel_rfl) ?_
      refine c_seq [1, 1, 0, 0] [1, 1, 0, 1] (by kernel_rfl) ?_
      refine c_reg 3 raright_c_R3 (by kernel_rfl) ?_
      refine at_pures 1 (by kernel_rfl) (by kernel_rfl) ?_
      refine at_done (by kernel_rfl) ?_
      refine then_n ?_
      refine c_block 0 [1, 1, 0, 1, 0] (by kernel_rfl) ?_
      refine c_loop (fun a w' => ∃ (i : Nat), (∃ u, a = mk 33 [(0, (.agg #[(.string s), (.int .u64 (bal : Int)), (.int .u32 (non : Int))])), (1, (.pointer (some ⟨b1_, 0, none⟩))), (3, (.int .i64 (i : Int))), (4, (.pointer (some ⟨b1_, 0, none⟩))), (5, (.string s)), (6, (.int .i64 (s.size : Int))), (7, (.bool (decide ((s.size : Int) < (1 : Int))))), (8, (.bool false)), (9, (.pointer (some ⟨b1_, 0, none⟩))), (10, (.string s)), (11, (.int .i64 (s.size : Int))), (12, (.bool (decide ((s.size : Int) > (8 : Int))))), (13, (.bool (decide ((s.size : Int) > (8 : Int)))))] u) ∧ (i ≤ s.size) ∧ (((sB s).take i).all ltr = true) ∧ (w'.heap[b1_]? = some (.cells #[(.string s), (.int .u64 (bal : Int)), (.int .u32 (non : Int))] 31 (0, 0))) ∧ (Fr w w' N0)) (fun a _ => cnt (s.size) 3 a) [1, 1, 0, 1, 0, 0] (by kernel_rfl) ⟨0, is_mk (by kernel_rfl) (by kernel_rfl) (by kernel_rfl), ⟨Nat.zero_le _, rfl, h3_, T7_⟩⟩ ?_
      rintro a11_ w12_ ⟨i, ⟨u13_, rfl⟩, ⟨hi, hL, q_0L10_, hFrL10_⟩⟩
      refine c_seq [1, 1, 0, 1, 0, 0, 0] [1, 1, 0, 1, 0, 0, 1] (by kernel_rfl) ?_
      refine c_seq [1, 1, 0, 1, 0, 0, 0, 0] [1, 1, 0, 1, 0, 0, 0, 1] (by kernel_rfl) ?_
      refine c_reg 4 raright_c_R4 (by kernel_rfl) ?_
      refine at_pures 2 (by kernel_rfl) (by kernel_rfl) ?_
      refine at_load1 9 (.tmp 15) b1_ 0 _ _ _ (.string s) (by kernel_rfl) (by kernel_rfl) (by kernel_rfl) (by kernel_rfl) q_0L10_ (by kernel_rfl) ?_
      refine at_pures 5 (by kernel_rfl) (by kernel_rfl) ?_
      refine at_done (by kernel_rfl) ?_
      refine then_n ?_
      refine c_if (.tmp 18) (decide ((i : Int) < (s.size : Int))) [1, 1, 0, 1, 0, 0, 0, 1, 0] [1, 1, 0, 1, 0, 0, 0, 1, 1] (by kernel_rfl) (by kernel_rfl) (fun c14_ => ?_) (fun c14_ => ?_)
      · -- yes
        replace c14_ : (i : Int) < (s.size : Int) := of_decide_eq_true c14_
        refine c_skip (by kernel_rfl) ?_
        refine then_n ?_
        refine c_seq [1, 1, 0, 1, 0, 0, 1, 0] [1, 1, 0, 1, 0, 0, 1, 1] (by kernel_rfl) ?_
        refine c_block 1 [1, 1, 0, 1, 0, 0, 1, 0, 0] (by kernel_rfl) ?_
        refine c_seq [1, 1, 0, 1, 0, 0, 1, 0, 0, 0] [1, 1, 0, 1, 0, 0, 1, 0, 0, 1] (by kernel_rfl) ?_
        refine c_reg 6 raright_c_R6 (by kernel_rfl) ?_
        refine at_pures 1 (by kernel_rfl) (by kernel_rfl) ?_
        refine at_load1 9 (.tmp 21) b1_ 0 _ _ _ (.string s) (by kernel_rfl) (by kernel_rfl) (by kernel_rfl) (by kernel_rfl) q_0L10_ (by kernel_rfl) ?_
        refine at_pures 3 (by kernel_rfl) (by kernel_rfl) ?_
        refine at_run (.int .u8 (((sB s).getD i 0 : Nat) : Int)) _ (by kernel_rfl) (run_index_str 9 (.tmp 22) (.tmp 23) s .i64 i (by kernel_rfl) (by kernel_rfl) (by kernel_rfl) (by kernel_rfl) (by omega)) ?_
        refine at_pures 5 (by kernel_rfl) (by kernel_rfl) ?_
        refine at_split (decide ((((sB s).getD i 0 : Nat) : Int) < (97 : Int))) (by kernel_rfl) (by kernel_rfl) (fun c15_ => ?_) (fun c15_ => ?_)
        · -- yes
          replace c15_ : (((sB s).getD i 0 : Nat) : Int) < (97 : Int) := of_decide_eq_true c15_
          refine at_pures 12 (by kernel_rfl) (by kernel_rfl) ?_
          refine at_done (by kernel_rfl) ?_
          refine then_n ?_
          refine c_then (.tmp 32) [1, 1, 0, 1, 0, 0, 1, 0, 0, 1, 0] [1, 1, 0, 1, 0, 0, 1, 0, 0, 1, 1] (by kernel_rfl) (by kernel_rfl) ?_
          refine c_seq [1, 1, 0, 1, 0, 0, 1, 0, 0, 1, 0, 0] [1, 1, 0, 1, 0, 0, 1, 0, 0, 1, 0, 1] (by kernel_rfl) ?_
          refine c_reg 7 raright_c_R7 (by kernel_rfl) ?_
          refine at_pures 1 (by kernel_rfl) (by kernel_rfl) ?_
          refine at_done (by kernel_rfl) ?_
          refine then_n ?_
          refine c_ret (by kernel_rfl) ?_
          refine blk_r ?_
          refine then_r ?_
          refine then_r ?_
          refine blk_r ?_
          refine then_r ?_
          refine fin_ret (.bool false) (by kernel_rfl) (by kernel_rfl) ?_
          exact ⟨(by first | rw [right_size (by omega)] | rw [right_no (k := i) (by omega) (by omega)]), hFrL10_⟩
        · -- no
          replace c15_ : ¬ ((((sB s).getD i 0 : Nat) : Int) < (97 : Int)) := of_decide_eq_false c15_
          refine at_pures 7 (by kernel_rfl) (by kernel_rfl) ?_
          refine at_load1 9 (.tmp 27) b1_ 0 _ _ _ (.string s) (by kernel_rfl) (by kernel_rfl) (by kernel_rfl) (by kernel_rfl) q_0L10_ (by kernel_rfl) ?_
          refine at_pures 9 (by kernel_rfl) (by kernel_rfl) ?_
          refine at_run (.int .u8 (((sB s).getD i 0 : Nat) : Int)) _ (by kernel_rfl) (run_index_str 9 (.tmp 28) (.tmp 29) s .i64 i (by kernel_rfl) (by kernel_rfl) (by kernel_rfl) (by kernel_rfl) (by omega)) ?_
          refine at_pures 12 (by kernel_rfl) (by kernel_rfl) ?_
          refine at_done (by kernel_rfl) ?_
          refine then_n ?_
          refine c_if (.tmp 32) (decide ((((sB s).getD i 0 : Nat) : Int) > (122 : Int))) [1, 1, 0, 1, 0, 0, 1, 0, 0, 1, 0] [1, 1, 0, 1, 0, 0, 1, 0, 0, 1, 1] (by kernel_rfl) (by kernel_rfl) (fun c16_ => ?_) (fun c16_ => ?_)
          · -- yes
            replace c16_ : (((sB s).getD i 0 : Nat) : Int) > (122 : Int) := of_decide_eq_true c16_
            refine c_seq [1, 1, 0, 1, 0, 0, 1, 0, 0, 1, 0, 0] [1, 1, 0, 1, 0, 0, 1, 0, 0, 1, 0, 1] (by kernel_rfl) ?_
            refine c_reg 7 raright_c_R7 (by kernel_rfl) ?_
            refine at_pures 1 (by kernel_rfl) (by kernel_rfl) ?_
            refine at_done (by kernel_rfl) ?_
            refine then_n ?_
            refine c_ret (by kernel_rfl) ?_
            refine blk_r ?_
            refine then_r ?_
            refine then_r ?_
            refine blk_r ?_
            refine then_r ?_
            refine fin_ret (.bool false) (by kernel_rfl) (by kernel_rfl) ?_
            exact ⟨(by first | rw [right_size (by omega)] | rw [right_no (k := i) (by omega) (by omega)]), hFrL10_⟩
          · -- no
            replace c16_ : ¬ ((((sB s).getD i 0 : Nat) : Int) > (122 : Int)) := of_decide_eq_false c16_
            refine c_skip (by kernel_rfl) ?_
            refine blk_n ?_
            refine then_n ?_
            refine c_reg 5 raright_c_R5 (by kernel_rfl) ?_
            refine at_pures 1 (by kernel_rfl) (by kernel_rfl) ?_
            refine at_int (kd := .i64) (IntKind.i64.wrap ((i : Int) + (1 : Int))) ((i : Int) + (1 : Int)) (by kernel_rfl) (by kernel_rfl) (wrapN_i64 (by omega) (by omega)) ?_
            refine at_pures 3 (by kernel_rfl) (by kernel_rfl) ?_
            refine at_done (by kernel_rfl) ?_
            refine then_n ?_
            exact ⟨⟨i + 1, is_mk (by kernel_rfl) (by kernel_rfl) (by kernel_rfl), ⟨(by omega), all_step hL (by rw [sB_length]; omega) ⟨by omega, by omega⟩, q_0L10_, hFrL10_⟩⟩, cnt_lt (k := (i : Int)) (k' := ((i : Int) + (1 : Int))) (by kernel_rfl) (by kernel_rfl) (by omega) (by omega)⟩
      · -- no
        replace c14_ : ¬ ((i : Int) < (s.size : Int)) := of_decide_eq_false c14_
        refine c_exit 0 (by kernel_rfl) ?_
        refine then_e ?_
        refine then_e ?_
        refine blk_hit ?_
        refine then_n ?_
        refine c_seq [1, 1, 1, 0] [1, 1, 1, 1] (by kernel_rfl) ?_
        refine c_reg 8 raright_c_R8 (by kernel_rfl) ?_
        refine at_pures 1 (by kernel_rfl) (by kernel_rfl) ?_
        refine at_done (by kernel_rfl) ?_
        refine then_n ?_
        refine c_ret (by kernel_rfl) ?_
        refine fin_ret (.bool true) (by kernel_rfl) (by kernel_rfl) ?_
        exact ⟨(by rw [right_yes hL (by omega) (by omega) (by omega)]), hFrL10_⟩

noncomputable def abytes_c_R0 : Array Oper := rAt Tryd.prog 49 [0]
noncomputable def abytes_c_R1 : Array Oper := rAt Tryd.prog 49 [1, 0, 0]
noncomputable def abytes_c_R2 : Array Oper := rAt Tryd.prog 49 [1, 0, 1, 0, 0]
noncomputable def abytes_c_R3 : Array Oper := rAt Tryd.prog 49 [1, 1, 0]
noncomputable def abytes_c_R4 : Array Oper := rAt Tryd.prog 49 [1, 1, 1, 0]
noncomputable def abytes_c_R5 : Array Oper := rAt Tryd.prog 49 [1, 1, 1, 1, 0]
noncomputable def abytes_c_R6 : Array Oper := rAt Tryd.prog 49 [1, 1, 1, 1, 1, 0]
noncomputable def abytes_c_R7 : Array Oper := rAt Tryd.prog 49 [1, 1, 1, 1, 1, 1, 0]
set_option maxRecDepth 100000 in
theorem abytes_c (s : ByteArray) (bal : Nat) (non : Nat) (w : World) (hbal : bal < 18446744073709551616) (hnon : non < 4294967296) :
    Calls Tryd.prog 49 #[(.agg #[(.string s), (.int .u64 (bal : Int)), (.int .u32 (non : Int))])] w fun e w' => ∃ (v_out' : Value), e = .returned (.tuple #[v_out', (.int .i64 ((accE s : Nat) : Int))]) ∧ Row w' 5 1 v_out' ((accB s bal non).length) (B (accB s bal non)) ∧ Fr w w' N0 ∧ New w N0 (Own v_out') := by
  refine c_enter (mk 25 [(0, (.agg #[(.string s), (.int .u64 (bal : Int)), (.int .u32 (non : Int))]))] (fun _ => undef)) Tryd.func49 (by kernel_rfl) (by kernel_rfl) ?_
  refine c_seq [0] [1] (by kernel_rfl) ?_
  refine c_reg 0 abytes_c_R0 (by kernel_rfl) ?_
  refine at_do (by kernel_rfl) (op_new (.cells #[(.string s), (.int .u64 (bal : Int)), (.int .u32 (non : Int))] 36) (fun N => (.pointer (some ⟨N, 0, none⟩))) (fun _ => by kernel_rfl) (fun w2_ b1_ h3_ q4_ F5_ => ?_))
  have N6_ : New w N0 (One b1_) := New.made q4_ (Fr.size (Fr.refl w N0))
  have T7_ := Fr.tr (Fr.refl w N0) F5_
  refine at_pures 3 (by kernel_rfl) (by kernel_rfl) ?_
  refine at_done (by kernel_rfl) ?_
  refine then_n ?_
  refine c_seq [1, 0] [1, 1] (by kernel_rfl) ?_
  refine c_seq [1, 0, 0] [1, 0, 1] (by kernel_rfl) ?_
  refine c_reg 1 abytes_c_R1 (by kernel_rfl) ?_
  refine at_loadN 36 (.tmp 1) b1_ 0 3 _ _ _ #[(.string s), (.int .u64 (bal : Int)), (.int .u32 (non : Int))] (by kernel_rfl) (by kernel_rfl) (by kernel_rfl) (by kernel_rfl) (by kernel_rfl) h3_ (by kernel_rfl) (by kernel_rfl) ?_
  refine at_do (by kernel_rfl) (op_call 50 #[(.tmp 5)] #[(.agg #[(.string s), (.int .u64 (bal : Int)), (.int .u32 (non : Int))])] (by kernel_rfl) (by kernel_rfl) (by kernel_rfl) ?_)
  have C12_ := aright_c s bal non w2_   
  refine Calls.mono C12_ ?_
  rintro e11_ w9_ ⟨rfl, F10_⟩
  refine ⟨_, rfl, ?_⟩
  have T13_ := Fr.tr T7_ F10_
  have h14_ := Fr.keep F10_ h3_ Dis.n0
  refine at_pures 3 (by kernel_rfl) (by kernel_rfl) ?_
  refine at_done (by kernel_rfl) ?_
  refine then_n ?_
  refine c_if (.tmp 7) (!(rightS s)) [1, 0, 1, 0] [1, 0, 1, 1] (by kernel_rfl) (by kernel_rfl) (fun c15_ => ?_) (fun c15_ => ?_)
  · -- yes
    replace c15_ : (rightS s) = false := by simpa using c15_
    refine c_seq [1, 0, 1, 0, 0] [1, 0, 1, 0, 1] (by kernel_rfl) ?_
    refine c_reg 2 abytes_c_R2 (by kernel_rfl) ?_
    refine at_pures 2 (by kernel_rfl) (by kernel_rfl) ?_
    refine at_done (by kernel_rfl) ?_
    refine then_n ?_
    refine c_ret (by kernel_rfl) ?_
    refine then_r ?_
    refine fin_ret (.tuple #[(.slice none 0 0), (.int .i64 1)]) (by kernel_rfl) (by kernel_rfl) ?_
    rw [show (accB s bal non) = [] from accB_no (by assumption)]
    have h16_ : Row w9_ 5 1 (.slice none 0 0) 0 [] := Row.nil _ _ _
    exact ⟨(.slice none 0 0), (by rw [accE_no (by assumption)]; rfl), h16_, T13_, (by rw [Own_nil]; exact fun _ h => h.elim)⟩
  · -- no
    replace c15_ : (rightS s) = true := by simpa using c15_
    refine c_skip (by kernel_rfl) ?_
    refine then_n ?_
    refine c_seq [1, 1, 0] [1, 1, 1] (by kernel_rfl) ?_
    refine c_reg 3 abytes_c_R3 (by kernel_rfl) ?_
    refine at_pures 1 (by kernel_rfl) (by kernel_rfl) ?_
    refine at_do (by kernel_rfl) (op_new (.cells #[(.slice none 0 0)] 118) (fun N => (.pointer (some ⟨N, 0, none⟩))) (fun _ => by kernel_rfl) (fun w19_ b18_ h20_ q21_ F22_ => ?_))
    have d23_ : Dis (One b18_) (One b1_) := Dis.fresh (New.one q21_) (In.one h14_)
    have N24_ : New w N0 (One b18_) := New.made q21_ (Fr.size T13_)
    have T25_ := Fr.tr T13_ F22_
    refine at_pures 3 (by kernel_rfl) (by kernel_rfl) ?_
    refine at_done (by kernel_rfl) ?_
    refine then_n ?_
    refine c_seq [1, 1, 1, 0] [1, 1, 1, 1] (by kernel_rfl) ?_
    refine c_reg 4 abytes_c_R4 (by kernel_rfl) ?_
    refine at_pures 2 (by kernel_rfl) (by kernel_rfl) ?_
    have h26_ := Fr.keep F22_ h14_ Dis.n0
    refine at_load1 9 (.tmp 11) b1_ 0 _ _ _ (.string s) (by kernel_rfl) (by kernel_rfl) (by kernel_rfl) (by kernel_rfl) h26_ (by kernel_rfl) ?_
    refine at_do (by kernel_rfl) (op_str_bytes 9 64 5 (.tmp 12) s (by kernel_rfl) (by kernel_rfl) (by kernel_rfl) (by kernel_rfl) (by kernel_rfl) (fun w29_ b27_ n28_ h30_ q31_ F32_ hi33_ hn34_ => ?_))
    have d35_ : Dis (One b27_) (One b1_) := Dis.fresh (New.one q31_) (In.one h26_)
    have d36_ : Dis (One b27_) (One b18_) := Dis.fresh (New.one q31_) (In.one h20_)
    have N37_ : New w N0 (One b27_) := New.made q31_ (Fr.size T25_)
    have T38_ := Fr.tr T25_ F32_
    have hsz := right_spec (s := s) (by assumption); have hsl := sB_length s; have htw := textW_len (sB s)
    have h39_ := Fr.keep F32_ h26_ Dis.n0
    have h40_ := Fr.keep F32_ h20_ Dis.n0
    have h41_ : WrAt 5 118 w29_ b18_ (.slice none 0 0) [] := WrAt.nil h40_
    refine at_do (by kernel_rfl) (op_call 67 #[(.tmp 10), (.tmp 13)] #[(.pointer (some ⟨b18_, 0, none⟩)), (.slice (some ⟨b27_, 0, none⟩) ((sB s).length) n28_)] (by kernel_rfl) (by kernel_rfl) (by kernel_rfl) ?_)
    have C48_ := text_c b18_ (.slice none 0 0) [] (.slice (some ⟨b27_, 0, none⟩) ((sB s).length) n28_) (sB s) w29_ h41_ (by first | omega | (simp only [List.length_nil]; omega)) (by omega) ⟨_, _, rfl, h30_⟩ (Dis.sym (Dis.wrNil (Dis.sym (Sub.dis Sub.arOne d36_))))
    refine Calls.mono C48_ ?_
    rintro e47_ w45_ ⟨rfl, v42_, h43_, F46_, N44_⟩
    refine ⟨_, rfl, ?_⟩
    have T49_ := Fr.then T38_ F46_ (New.wrNil N24_)
    have d50_ : Dis (wrS b18_ v42_) (One b1_) := Dis.step (Dis.wrNil d23_) N44_ (In.one h39_)
    have h51_ := Fr.keep F46_ h39_ (Dis.sym (Dis.wrNil d23_))
    have d52_ : Dis (wrS b18_ v42_) (Ar (some ⟨b27_, 0, none⟩) (B (sB s))) := Dis.step (Dis.wrNil (Dis.sym (Sub.dis Sub.arOne d36_))) N44_ (Rd.in h30_)
    have h53_ := Rd.keep' h30_ F46_ (Dis.sym (Dis.wrNil (Dis.sym (Sub.dis Sub.arOne d36_))))
    have N54_ : New w N0 (wrS b18_ v42_) := New.trans (New.wrNil N24_) N44_ (Fr.size T38_)
    refine at_done (by kernel_rfl) ?_
    refine then_n ?_
    refine c_seq [1, 1, 1, 1, 0] [1, 1, 1, 1, 1] (by kernel_rfl) ?_
    refine c_reg 5 abytes_c_R5 (by kernel_rfl) ?_
    refine at_pures 2 (by kernel_rfl) (by kernel_rfl) ?_
    refine at_load1 28 (.tmp 16) b1_ 1 _ _ _ (.int .u64 (bal : Int)) (by kernel_rfl) (by kernel_rfl) (by kernel_rfl) (by kernel_rfl) h51_ (by kernel_rfl) ?_
    refine at_do (by kernel_rfl) (op_call 68 #[(.tmp 15), (.tmp 17)] #[(.pointer (some ⟨b18_, 0, none⟩)), (.int .u64 (bal : Int))] (by kernel_rfl) (by kernel_rfl) (by kernel_rfl) ?_)
    have C61_ := long_c b18_ v42_ ([] ++ textW (sB s)) bal w45_ h43_ (by first | omega | (simp only [List.length_append, List.length_nil]; omega)) (by omega)
    refine Calls.mono C61_ ?_
    rintro e60_ w58_ ⟨rfl, v55_, h56_, F59_, N57_⟩
    refine ⟨_, rfl, ?_⟩
    have T62_ := Fr.then T49_ F59_ N54_
    have d63_ : Dis (wrS b18_ v55_) (One b1_) := Dis.step d50_ N57_ (In.one h51_)
    have h64_ := Fr.keep F59_ h51_ (Dis.sym d50_)
    have d65_ : Dis (wrS b18_ v55_) (Ar (some ⟨b27_, 0, none⟩) (B (sB s))) := Dis.step d52_ N57_ (Rd.in h53_)
    have h66_ := Rd.keep' h53_ F59_ (Dis.sym d52_)
    have N67_ : New w N0 (wrS b18_ v55_) := New.trans N54_ N57_ (Fr.size T49_)
    refine at_done (by kernel_rfl) ?_
    refine then_n ?_
    refine c_seq [1, 1, 1, 1, 1, 0] [1, 1, 1, 1, 1, 1] (by kernel_rfl) ?_
    refine c_reg 6 abytes_c_R6 (by kernel_rfl) ?_
    refine at_pures 2 (by kernel_rfl) (by kernel_rfl) ?_
    refine at_load1 29 (.tmp 20) b1_ 2 _ _ _ (.int .u32 (non : Int)) (by kernel_rfl) (by kernel_rfl) (by kernel_rfl) (by kernel_rfl) h64_ (by kernel_rfl) ?_
    refine at_do (by kernel_rfl) (op_call 69 #[(.tmp 19), (.tmp 21)] #[(.pointer (some ⟨b18_, 0, none⟩)), (.int .u32 (non : Int))] (by kernel_rfl) (by kernel_rfl) (by kernel_rfl) ?_)
    have C74_ := num_c b18_ v55_ ([] ++ textW (sB s) ++ putB bal 8 8) non w58_ h56_ (by first | omega | (simp only [List.length_append, List.length_nil, putB_length]; omega)) (by omega)
    refine Calls.mono C74_ ?_
    rintro e73_ w71_ ⟨rfl, v68_, h69_, F72_, N70_⟩
    refine ⟨_, rfl, ?_⟩
    have T75_ := Fr.then T62_ F72_ N67_
    have d76_ : Dis (wrS b18_ v68_) (One b1_) := Dis.step d63_ N70_ (In.one h64_)
    have h77_ := Fr.keep F72_ h64_ (Dis.sym d63_)
    have d78_ : Dis (wrS b18_ v68_) (Ar (some ⟨b27_, 0, none⟩) (B (sB s))) := Dis.step d65_ N70_ (Rd.in h66_)
    have h79_ := Rd.keep' h66_ F72_ (Dis.sym d65_)
    have N80_ : New w N0 (wrS b18_ v68_) := New.trans N67_ N70_ (Fr.size T62_)
    refine at_done (by kernel_rfl) ?_
    refine then_n ?_
    refine c_seq [1, 1, 1, 1, 1, 1, 0] [1, 1, 1, 1, 1, 1, 1] (by kernel_rfl) ?_
    refine c_reg 7 abytes_c_R7 (by kernel_rfl) ?_
    refine at_pures 1 (by kernel_rfl) (by kernel_rfl) ?_
    refine at_do (by kernel_rfl) (op_call 70 #[(.tmp 23)] #[(.pointer (some ⟨b18_, 0, none⟩))] (by kernel_rfl) (by kernel_rfl) (by kernel_rfl) ?_)
    have C88_ := bytes_c b18_ v68_ ([] ++ textW (sB s) ++ putB bal 8 8 ++ putB non 4 4) w71_ h69_  (by first | omega | (simp only [List.length_append, List.length_nil, putB_length]; omega) | with_reducible assumption)
    refine Calls.mono C88_ ?_
    rintro e87_ w85_ ⟨vout81_, rfl, h82_, F86_, h84_⟩
    refine ⟨_, rfl, ?_⟩
    have d89_ : Dis (Own vout81_) (One b1_) := Dis.fresh h84_ (In.one h77_)
    have d90_ : Dis (Own vout81_) (Ar (some ⟨b27_, 0, none⟩) (B (sB s))) := Dis.fresh h84_ (Rd.in h79_)
    have d91_ : Dis (Own vout81_) (wrS b18_ v68_) := Dis.fresh h84_ (WrAt.in h69_)
    have T92_ := Fr.tr T75_ F86_
    have h93_ := Fr.keep F86_ h77_ Dis.n0
    have h94_ := Rd.keep' h79_ F86_ Dis.n0
    have h95_ := WrAt.keep h69_ F86_ Dis.n0
    have N97_ : New w N0 (Own vout81_) := New.later' h84_ (Fr.size T75_)
    obtain ⟨ao98_, cap99_, rfl, hc100_, hm101_, hR102_, ho103_⟩ := Row.read h82_
    refine at_pures 4 (by kernel_rfl) (by kernel_rfl) ?_
    refine at_done (by kernel_rfl) ?_
    refine then_n ?_
    refine c_ret (by kernel_rfl) ?_
    refine fin_ret (.tuple #[(.slice ao98_ (([] ++ textW (sB s) ++ putB bal 8 8 ++ putB non 4 4).length) cap99_), (.int .i64 0)]) (by kernel_rfl) (by kernel_rfl) ?_
    have hA : (accB s bal non) = ([] ++ textW (sB s) ++ putB bal 8 8 ++ putB non 4 4) := by rw [accB_yes (by assumption)]; first | rfl | (rw [← accL_ref (by assumption), List.take_of_length_le (by rw [sB_length]; omega)])
    rw [hA]
    exact ⟨(.slice ao98_ (([] ++ textW (sB s) ++ putB bal 8 8 ++ putB non 4 4).length) cap99_), (by rw [accE_yes (by assumption)]; rfl), h82_, T92_, N97_⟩

noncomputable def rabytes_c_R0 : Array Oper := rAt Tryd.prog 72 [0]
noncomputable def rabytes_c_R1 : Array Oper := rAt Tryd.prog 72 [1, 0, 0]
noncomputable def rabytes_c_R2 : Array Oper := rAt Tryd.prog 72 [1, 0, 1, 0, 0]
noncomputable def rabytes_c_R3 : Array Oper := rAt Tryd.prog 72 [1, 1, 0]
noncomputable def rabytes_c_R4 : Array Oper := rAt Tryd.prog 72 [1, 1, 1, 0, 0]
noncomputable def rabytes_c_R5 : Array Oper := rAt Tryd.prog 72 [1, 1, 1, 0, 1, 0, 0, 0, 0]
noncomputable def rabytes_c_R7 : Array Oper := rAt Tryd.prog 72 [1, 1, 1, 0, 1, 0, 0, 1, 0, 0]
noncomputable def rabytes_c_R6 : Array Oper := rAt Tryd.prog 72 [1, 1, 1, 0, 1, 0, 0, 1, 1]
noncomputable def rabytes_c_R8 : Array Oper := rAt Tryd.prog 72 [1, 1, 1, 1, 0]
noncomputable def rabytes_c_R9 : Array Oper := rAt Tryd.prog 72 [1, 1, 1, 1, 1, 0]
set_option maxRecDepth 100000 in
theorem rabytes_c (s : ByteArray) (bal : Nat) (non : Nat) (w : World) (hbal : bal < 18446744073709551616) (hnon : non < 4294967296) :
    Calls Tryd.prog 72 #[(.agg #[(.string s), (.int .u64 (bal : Int)), (.int .u32 (non : Int))])] w fun e w' => ∃ (v_out' : Value), e = .returned (.tuple #[v_out', (.int .i64 ((accE s : Nat) : Int))]) ∧ Row w' 5 1 v_out' ((accB s bal non).length) (B (accB s bal non)) ∧ Fr w w' N0 ∧ New w N0 (Own v_out') := by
  refine c_enter (mk 39 [(0, (.agg #[(.string s), (.int .u64 (bal : Int)), (.int .u32 (non : Int))]))] (fun _ => undef)) Tryd.func72 (by kernel_rfl) (by kernel_rfl) ?_
  refine c_seq [0] [1] (by kernel_rfl) ?_
  refine c_reg 0 rabytes_c_R0 (by kernel_rfl) ?_
  refine at_do (by kernel_rfl) (op_new (.cells #[(.string s), (.int .u64 (bal : Int)), (.int .u32 (non : Int))] 31) (fun N => (.pointer (some ⟨N, 0, none⟩))) (fun _ => by kernel_rfl) (fun w2_ b1_ h3_ q4_ F5_ => ?_))
  have N6_ : New w N0 (One b1_) := New.made q4_ (Fr.size (Fr.refl w N0))
  have T7_ := Fr.tr (Fr.refl w N0) F5_
  refine at_pures 3 (by kernel_rfl) (by kernel_rfl) ?_
  refine at_done (by kernel_rfl) ?_
  refine then_n ?_
  refine c_seq [1, 0] [1, 1] (by kernel_rfl) ?_
  refine c_seq [1, 0, 0] [1, 0, 1] (by kernel_rfl) ?_
  refine c_reg 1 rabytes_c_R1 (by kernel_rfl) ?_
  refine at_loadN 31 (.tmp 1) b1_ 0 3 _ _ _ #[(.string s), (.int .u64 (bal : Int)), (.int .u32 (non : Int))] (by kernel_rfl) (by kernel_rfl) (by kernel_rfl) (by kernel_rfl) (by kernel_rfl) h3_ (by kernel_rfl) (by kernel_rfl) ?_
  refine at_do (by kernel_rfl) (op_call 44 #[(.tmp 6)] #[(.agg #[(.string s), (.int .u64 (bal : Int)), (.int .u32 (non : Int))])] (by kernel_rfl) (by kernel_rfl) (by kernel_rfl) ?_)
  have C12_ := raright_c s bal non w2_   
  refine Calls.mono C12_ ?_
  rintro e11_ w9_ ⟨rfl, F10_⟩
  refine ⟨_, rfl, ?_⟩
  have T13_ := Fr.tr T7_ F10_
  have h14_ := Fr.keep F10_ h3_ Dis.n0
  refine at_pures 3 (by kernel_rfl) (by kernel_rfl) ?_
  refine at_done (by kernel_rfl) ?_
  refine then_n ?_
  refine c_if (.tmp 8) (!(rightS s)) [1, 0, 1, 0] [1, 0, 1, 1] (by kernel_rfl) (by kernel_rfl) (fun c15_ => ?_) (fun c15_ => ?_)
  · -- yes
    replace c15_ : (rightS s) = false := by simpa using c15_
    refine c_seq [1, 0, 1, 0, 0] [1, 0, 1, 0, 1] (by kernel_rfl) ?_
    refine c_reg 2 rabytes_c_R2 (by kernel_rfl) ?_
    refine at_pures 2 (by kernel_rfl) (by kernel_rfl) ?_
    refine at_done (by kernel_rfl) ?_
    refine then_n ?_
    refine c_ret (by kernel_rfl) ?_
    refine then_r ?_
    refine fin_ret (.tuple #[(.slice none 0 0), (.int .i64 1)]) (by kernel_rfl) (by kernel_rfl) ?_
    rw [show (accB s bal non) = [] from accB_no (by assumption)]
    have h16_ : Row w9_ 5 1 (.slice none 0 0) 0 [] := Row.nil _ _ _
    exact ⟨(.slice none 0 0), (by rw [accE_no (by assumption)]; rfl), h16_, T13_, (by rw [Own_nil]; exact fun _ h => h.elim)⟩
  · -- no
    replace c15_ : (rightS s) = true := by simpa using c15_
    refine c_skip (by kernel_rfl) ?_
    refine then_n ?_
    refine c_seq [1, 1, 0] [1, 1, 1] (by kernel_rfl) ?_
    refine c_reg 3 rabytes_c_R3 (by kernel_rfl) ?_
    refine at_pures 1 (by kernel_rfl) (by kernel_rfl) ?_
    refine at_load1 9 (.tmp 9) b1_ 0 _ _ _ (.string s) (by kernel_rfl) (by kernel_rfl) (by kernel_rfl) (by kernel_rfl) h14_ (by kernel_rfl) ?_
    refine at_pures 3 (by kernel_rfl) (by kernel_rfl) ?_
    have hsz := right_spec (s := s) (by assumption); have hsl := sB_length s
    refine at_int (kd := .u8) (IntKind.u8.wrap ((s.size : Int))) ((s.size : Int)) (by kernel_rfl) (by kernel_rfl) (wrapN_u8 (by omega) (by omega)) ?_
    refine at_do (by kernel_rfl) (op_new (.cells #[(.int .u8 (s.size : Int))] 5) (fun N => (.slice (some ⟨N, 0, none⟩) 1 1)) (fun _ => by kernel_rfl) (fun w19_ b18_ h20_ q21_ F22_ => ?_))
    have d23_ : Dis (One b18_) (One b1_) := Dis.fresh (New.one q21_) (In.one h14_)
    have N24_ : New w N0 (One b18_) := New.made q21_ (Fr.size T13_)
    have T25_ := Fr.tr T13_ F22_
    refine at_pures 6 (by kernel_rfl) (by kernel_rfl) ?_
    refine at_done (by kernel_rfl) ?_
    refine then_n ?_
    refine c_seq [1, 1, 1, 0] [1, 1, 1, 1] (by kernel_rfl) ?_
    refine c_seq [1, 1, 1, 0, 0] [1, 1, 1, 0, 1] (by kernel_rfl) ?_
    refine c_reg 4 rabytes_c_R4 (by kernel_rfl) ?_
    refine at_pures 1 (by kernel_rfl) (by kernel_rfl) ?_
    refine at_done (by kernel_rfl) ?_
    refine then_n ?_
    refine c_block 0 [1, 1, 1, 0, 1, 0] (by kernel_rfl) ?_
    have h26_ := Fr.keep F22_ h14_ Dis.n0
    have h27_ : Row w19_ 5 1 (.slice (some ⟨b18_, 0, none⟩) 1 1) 1 ((#[(.int .u8 (s.size : Int))]).toList) := Row.made' h20_ (by rfl) (by decide) (by decide) (by rfl)
    refine c_loop (fun a w' => ∃ (i : Nat), ∃ (vi : Value), (∃ u, a = mk 39 [(0, (.agg #[(.string s), (.int .u64 (bal : Int)), (.int .u32 (non : Int))])), (1, (.pointer (some ⟨b1_, 0, none⟩))), (2, (.slice none 0 0)), (3, (.int .i64 0)), (4, vi), (5, (.int .i64 (i : Int))), (6, (.agg #[(.string s), (.int .u64 (bal : Int)), (.int .u32 (non : Int))])), (7, (.bool (rightS s))), (8, (.bool (!(rightS s)))), (9, (.pointer (some ⟨b1_, 0, none⟩))), (10, (.string s)), (11, (.int .i64 (s.size : Int))), (12, (.int .u8 (s.size : Int))), (13, (.slice (some ⟨b18_, 0, none⟩) 1 1))] u) ∧ (i ≤ s.size) ∧ (w'.heap[b1_]? = some (.cells #[(.string s), (.int .u64 (bal : Int)), (.int .u32 (non : Int))] 31 (0, 0))) ∧ (Row w' 5 1 vi (([s.size] ++ (sB s).take i).length) (B ([s.size] ++ (sB s).take i))) ∧ (Dis (One b1_) (Own vi)) ∧ (New w N0 (Own vi)) ∧ (Fr w w' N0)) (fun a _ => cnt (s.size) 5 a) [1, 1, 1, 0, 1, 0, 0] (by kernel_rfl) ⟨0, _, is_mk (by kernel_rfl) (by kernel_rfl) (by kernel_rfl), ⟨Nat.zero_le _, h26_, (by exact h27_), (Dis.sym (Dis.own d23_)), (New.own N24_), T25_⟩⟩ ?_
    rintro a29_ w30_ ⟨i, vi, ⟨u31_, rfl⟩, ⟨hi, q_0L28_, q_1L28_, d_0_1L28_, n_1L28_, hFrL28_⟩⟩
    refine c_seq [1, 1, 1, 0, 1, 0, 0, 0] [1, 1, 1, 0, 1, 0, 0, 1] (by kernel_rfl) ?_
    refine c_seq [1, 1, 1, 0, 1, 0, 0, 0, 0] [1, 1, 1, 0, 1, 0, 0, 0, 1] (by kernel_rfl) ?_
    refine c_reg 5 rabytes_c_R5 (by kernel_rfl) ?_
    refine at_pures 2 (by kernel_rfl) (by kernel_rfl) ?_
    refine at_load1 9 (.tmp 15) b1_ 0 _ _ _ (.string s) (by kernel_rfl) (by kernel_rfl) (by kernel_rfl) (by kernel_rfl) q_0L28_ (by kernel_rfl) ?_
    refine at_pures 5 (by kernel_rfl) (by kernel_rfl) ?_
    refine at_done (by kernel_rfl) ?_
    refine then_n ?_
    refine c_if (.tmp 18) (decide ((i : Int) < (s.size : Int))) [1, 1, 1, 0, 1, 0, 0, 0, 1, 0] [1, 1, 1, 0, 1, 0, 0, 0, 1, 1] (by kernel_rfl) (by kernel_rfl) (fun c32_ => ?_) (fun c32_ => ?_)
    · -- yes
      replace c32_ : (i : Int) < (s.size : Int) := of_decide_eq_true c32_
      refine c_skip (by kernel_rfl) ?_
      refine then_n ?_
      refine c_seq [1, 1, 1, 0, 1, 0, 0, 1, 0] [1, 1, 1, 0, 1, 0, 0, 1, 1] (by kernel_rfl) ?_
      refine c_block 1 [1, 1, 1, 0, 1, 0, 0, 1, 0, 0] (by kernel_rfl) ?_
      refine c_reg 7 rabytes_c_R7 (by kernel_rfl) ?_
      refine at_pures 2 (by kernel_rfl) (by kernel_rfl) ?_
      refine at_load1 9 (.tmp 22) b1_ 0 _ _ _ (.string s) (by kernel_rfl) (by kernel_rfl) (by kernel_rfl) (by kernel_rfl) q_0L28_ (by kernel_rfl) ?_
      refine at_pures 4 (by kernel_rfl) (by kernel_rfl) ?_
      refine at_run (.int .u8 (((sB s).getD i 0 : Nat) : Int)) _ (by kernel_rfl) (run_index_str 9 (.tmp 23) (.tmp 24) s .i64 i (by kernel_rfl) (by kernel_rfl) (by kernel_rfl) (by kernel_rfl) (by omega)) ?_
      refine at_do (by kernel_rfl) (op_new (.cells #[(.int .u8 (((sB s).getD i 0 : Nat) : Int))] 5) (fun N => (.slice (some ⟨N, 0, none⟩) 1 1)) (fun _ => by kernel_rfl) (fun w34_ b33_ h35_ q36_ F37_ => ?_))
      have d38_ : Dis (One b33_) (One b1_) := Dis.fresh (New.one q36_) (In.one q_0L28_)
      have d39_ : Dis (One b33_) (Own vi) := Dis.fresh (New.one q36_) (Row.in q_1L28_)
      have N40_ : New w N0 (One b33_) := New.made q36_ (Fr.size hFrL28_)
      have T41_ := Fr.tr hFrL28_ F37_
      have h42_ := Fr.keep F37_ q_0L28_ Dis.n0
      have h43_ := Row.keep q_1L28_ F37_ Dis.n0
      refine at_do (by kernel_rfl) (op_append (.tmp 21) (.tmp 26) 64 64 5 1 1 (.int .u8 0) (by kernel_rfl) (by kernel_rfl) (by rfl) (v := vi) (by kernel_rfl) h43_ (xv := (.slice (some ⟨b33_, 0, none⟩) 1 1)) (m := 1) (news := (#[(.int .u8 (((sB s).getD i 0 : Nat) : Int))]).toList) (by kernel_rfl) (Rd.src (xs := (#[(.int .u8 (((sB s).getD i 0 : Nat) : Int))]).toList) (size := 1) (e := 5) (by kernel_rfl) (Rd.of_cut h35_ 0 1 (by kernel_rfl)) (by kernel_rfl) (by decide) (ones (by kernel_rfl))) (by first | (simp only [maxLen]; omega) | (simp only [maxLen, List.length_append, List.length_cons, List.length_nil, List.length_take, sB_length]; omega)) (by first | omega | (simp only [List.length_append, List.length_cons, List.length_nil, List.length_take, sB_length]; omega)) (fun v44_ w45_ h46_ F47_ s48_ => ?_))
      have T49_ := Fr.then T41_ F47_ n_1L28_
      have d50_ : Dis (Own v44_) (One b1_) := Dis.step (Dis.sym d_0_1L28_) s48_ (In.one h42_)
      have h51_ := Fr.keep F47_ h42_ d_0_1L28_
      have N52_ : New w N0 (Own v44_) := New.trans n_1L28_ s48_ (Fr.size T41_)
      have h53_ : Row w45_ 5 1 v44_ (([s.size] ++ (sB s).take i) ++ [((sB s).getD i 0 : Nat)]).length (B (([s.size] ++ (sB s).take i) ++ [((sB s).getD i 0 : Nat)])) := Row.appB h46_ (by rfl)
      refine at_pures 8 (by kernel_rfl) (by kernel_rfl) ?_
      refine at_done (by kernel_rfl) ?_
      refine blk_n ?_
      refine then_n ?_
      refine c_reg 6 rabytes_c_R6 (by kernel_rfl) ?_
      refine at_pures 1 (by kernel_rfl) (by kernel_rfl) ?_
      refine at_int (kd := .i64) (IntKind.i64.wrap ((i : Int) + (1 : Int))) ((i : Int) + (1 : Int)) (by kernel_rfl) (by kernel_rfl) (wrapN_i64 (by omega) (by omega)) ?_
      refine at_pures 3 (by kernel_rfl) (by kernel_rfl) ?_
      refine at_done (by kernel_rfl) ?_
      refine then_n ?_
      exact ⟨⟨i + 1, v44_, is_mk (by kernel_rfl) (by kernel_rfl) (by kernel_rfl), ⟨(by omega), h51_, (by rw [take_snoc (sB s) i (by rw [sB_length]; omega), ← List.append_assoc]; exact h53_), (Dis.sym d50_), N52_, T49_⟩⟩, cnt_lt (k := (i : Int)) (k' := ((i : Int) + (1 : Int))) (by kernel_rfl) (by kernel_rfl) (by omega) (by omega)⟩
    · -- no
      replace c32_ : ¬ ((i : Int) < (s.size : Int)) := of_decide_eq_false c32_
      refine c_exit 0 (by kernel_rfl) ?_
      refine then_e ?_
      refine then_e ?_
      refine blk_hit ?_
      refine then_n ?_
      refine c_seq [1, 1, 1, 1, 0] [1, 1, 1, 1, 1] (by kernel_rfl) ?_
      refine c_reg 8 rabytes_c_R8 (by kernel_rfl) ?_
      refine at_pures 2 (by kernel_rfl) (by kernel_rfl) ?_
      refine at_load1 28 (.tmp 29) b1_ 1 _ _ _ (.int .u64 (bal : Int)) (by kernel_rfl) (by kernel_rfl) (by kernel_rfl) (by kernel_rfl) q_0L28_ (by kernel_rfl) ?_
      refine at_do (by kernel_rfl) (op_call 82 #[(.tmp 30), (.const (.int .i64 8))] #[(.int .u64 (bal : Int)), (.int .i64 8)] (by kernel_rfl) (by kernel_rfl) (by kernel_rfl) ?_)
      have C61_ := rput_c bal 8 w30_   (by omega) (by omega)
      refine Calls.mono C61_ ?_
      rintro e60_ w58_ ⟨vout54_, rfl, h55_, F59_, h57_⟩
      refine ⟨_, rfl, ?_⟩
      have d62_ : Dis (Own vout54_) (One b1_) := Dis.fresh h57_ (In.one q_0L28_)
      have d63_ : Dis (Own vout54_) (Own vi) := Dis.fresh h57_ (Row.in q_1L28_)
      have T64_ := Fr.tr hFrL28_ F59_
      have h65_ := Fr.keep F59_ q_0L28_ Dis.n0
      have h66_ := Row.keep q_1L28_ F59_ Dis.n0
      have N68_ : New w N0 (Own vout54_) := New.later' h57_ (Fr.size hFrL28_)
      obtain ⟨ao69_, cap70_, rfl, hc71_, hm72_, hR73_, ho74_⟩ := Row.read h55_
      refine at_do (by kernel_rfl) (op_append (.tmp 28) (.tmp 31) 64 64 5 1 1 (.int .u8 0) (by kernel_rfl) (by kernel_rfl) (by rfl) (v := vi) (by kernel_rfl) h66_ (xv := (.slice ao69_ 8 cap70_)) (m := 8) (news := B (putB bal 8 8)) (by kernel_rfl) (Row.src (e' := 5) (by kernel_rfl) h55_ (by decide) B_one) (by first | (simp only [maxLen]; omega) | (simp only [maxLen, List.length_append, List.length_cons, List.length_nil, List.length_take, sB_length]; omega)) (by first | omega | (simp only [List.length_append, List.length_cons, List.length_nil, List.length_take, sB_length]; omega)) (fun v75_ w76_ h77_ F78_ s79_ => ?_))
      have T80_ := Fr.then T64_ F78_ n_1L28_
      have d81_ : Dis (Own v75_) (One b1_) := Dis.step (Dis.sym d_0_1L28_) s79_ (In.one h65_)
      have h82_ := Fr.keep F78_ h65_ d_0_1L28_
      have N83_ : New w N0 (Own v75_) := New.trans n_1L28_ s79_ (Fr.size T64_)
      have h84_ : Row w76_ 5 1 v75_ (([s.size] ++ (sB s).take i) ++ (putB bal 8 8)).length (B (([s.size] ++ (sB s).take i) ++ (putB bal 8 8))) := Row.appB h77_ rfl
      refine at_pures 6 (by kernel_rfl) (by kernel_rfl) ?_
      refine at_done (by kernel_rfl) ?_
      refine then_n ?_
      refine c_seq [1, 1, 1, 1, 1, 0] [1, 1, 1, 1, 1, 1] (by kernel_rfl) ?_
      refine c_reg 9 rabytes_c_R9 (by kernel_rfl) ?_
      refine at_pures 2 (by kernel_rfl) (by kernel_rfl) ?_
      refine at_load1 29 (.tmp 34) b1_ 2 _ _ _ (.int .u32 (non : Int)) (by kernel_rfl) (by kernel_rfl) (by kernel_rfl) (by kernel_rfl) h82_ (by kernel_rfl) ?_
      refine at_int (kd := .u64) (IntKind.u64.wrap ((non : Int))) ((non : Int)) (by kernel_rfl) (by kernel_rfl) (wrapN_u64 (by omega) (by omega)) ?_
      refine at_do (by kernel_rfl) (op_call 82 #[(.tmp 36), (.const (.int .i64 4))] #[(.int .u64 (non : Int)), (.int .i64 4)] (by kernel_rfl) (by kernel_rfl) (by kernel_rfl) ?_)
      have C92_ := rput_c non 4 w76_   (by omega) (by omega)
      refine Calls.mono C92_ ?_
      rintro e91_ w89_ ⟨vout85_, rfl, h86_, F90_, h88_⟩
      refine ⟨_, rfl, ?_⟩
      have d93_ : Dis (Own vout85_) (One b1_) := Dis.fresh h88_ (In.one h82_)
      have d94_ : Dis (Own vout85_) (Own v75_) := Dis.fresh h88_ (Row.in h84_)
      have T95_ := Fr.tr T80_ F90_
      have h96_ := Fr.keep F90_ h82_ Dis.n0
      have h97_ := Row.keep h84_ F90_ Dis.n0
      have N99_ : New w N0 (Own vout85_) := New.later' h88_ (Fr.size T80_)
      obtain ⟨ao100_, cap101_, rfl, hc102_, hm103_, hR104_, ho105_⟩ := Row.read h86_
      refine at_do (by kernel_rfl) (op_append (.tmp 33) (.tmp 37) 64 64 5 1 1 (.int .u8 0) (by kernel_rfl) (by kernel_rfl) (by rfl) (v := v75_) (by kernel_rfl) h97_ (xv := (.slice ao100_ 4 cap101_)) (m := 4) (news := B (putB non 4 4)) (by kernel_rfl) (Row.src (e' := 5) (by kernel_rfl) h86_ (by decide) B_one) (by first | (simp only [maxLen]; omega) | (simp only [maxLen, List.length_append, List.length_cons, List.length_nil, List.length_take, putB_length, sB_length]; omega)) (by first | omega | (simp only [List.length_append, List.length_cons, List.length_nil, List.length_take, putB_length, sB_length]; omega)) (fun v106_ w107_ h108_ F109_ s110_ => ?_))
      have T111_ := Fr.then T95_ F109_ N83_
      have d112_ : Dis (Own v106_) (One b1_) := Dis.step d81_ s110_ (In.one h96_)
      have h113_ := Fr.keep F109_ h96_ (Dis.sym d81_)
      have N114_ : New w N0 (Own v106_) := New.trans N83_ s110_ (Fr.size T95_)
      have h115_ : Row w107_ 5 1 v106_ (([s.size] ++ (sB s).take i) ++ (putB bal 8 8) ++ (putB non 4 4)).length (B (([s.size] ++ (sB s).take i) ++ (putB bal 8 8) ++ (putB non 4 4))) := Row.appB h108_ rfl
      refine at_pures 8 (by kernel_rfl) (by kernel_rfl) ?_
      refine at_done (by kernel_rfl) ?_
      refine then_n ?_
      refine c_ret (by kernel_rfl) ?_
      refine fin_ret (.tuple #[v106_, (.int .i64 0)]) (by kernel_rfl) (by kernel_rfl) ?_
      have hA : (accB s bal non) = ([s.size] ++ (sB s).take i) ++ (putB bal 8 8) ++ (putB non 4 4) := by rw [accB_yes (by assumption)]; first | rfl | (rw [← accL_ref (by assumption), List.take_of_length_le (by rw [sB_length]; omega)])
      rw [hA]
      exact ⟨v106_, (by rw [accE_yes (by assumption)]; rfl), h115_, T111_, N114_⟩

noncomputable def rone_c_R0 : Array Oper := rAt Tryd.prog 73 [0]
noncomputable def rone_c_R1 : Array Oper := rAt Tryd.prog 73 [1, 0]
set_option maxRecDepth 100000 in
theorem rone_c (s : ByteArray) (v : Value) (l : List Nat) (w : World) (h_b : Row w 5 1 v l.length (B l)) (h_ks0 : Rd w (some ⟨0, 0, none⟩) ((hw KL).toList)) (hl : l.length ≤ 700000) (hB : Byt l) :
    Calls Tryd.prog 73 #[(.string s), v] w fun e w' => e = .returned (.agg (hv (tag1 (sB s) l))) ∧ Fr w w' N0 := by
  obtain ⟨ao, cap, rfl, hcap, hcm, hR, ho⟩ := Row.read h_b
  refine c_enter (mk 9 [(0, (.string s)), (1, (.slice ao l.length cap))] (fun _ => undef)) Tryd.func73 (by kernel_rfl) (by kernel_rfl) ?_
  refine c_seq [0] [1] (by kernel_rfl) ?_
  refine c_reg 0 rone_c_R0 (by kernel_rfl) ?_
  refine at_do (by kernel_rfl) (op_new (.cells #[(.int .u8 0), (.int .u8 0), (.int .u8 0), (.int .u8 0), (.int .u8 0), (.int .u8 0), (.int .u8 0), (.int .u8 0), (.int .u8 0), (.int .u8 0), (.int .u8 0), (.int .u8 0), (.int .u8 0), (.int .u8 0), (.int .u8 0), (.int .u8 0), (.int .u8 0), (.int .u8 0), (.int .u8 0), (.int .u8 0), (.int .u8 0), (.int .u8 0), (.int .u8 0), (.int .u8 0), (.int .u8 0), (.int .u8 0), (.int .u8 0), (.int .u8 0), (.int .u8 0), (.int .u8 0), (.int .u8 0), (.int .u8 0)] 49) (fun N => (.pointer (some ⟨N, 0, none⟩))) (fun _ => by kernel_rfl) (fun w2_ b1_ h3_ q4_ F5_ => ?_))
  have d6_ : Dis (One b1_) (Own (.slice ao l.length cap)) := Dis.fresh (New.one q4_) (Row.in h_b)
  have d7_ : Dis (One b1_) (Ar (some ⟨0, 0, none⟩) ((hw KL).toList)) := Dis.fresh (New.one q4_) (Rd.in h_ks0)
  have N8_ : New w N0 (One b1_) := New.made q4_ (Fr.size (Fr.refl w N0))
  have T9_ := Fr.tr (Fr.refl w N0) F5_
  refine at_done (by kernel_rfl) ?_
  refine then_n ?_
  refine c_seq [1, 0] [1, 1] (by kernel_rfl) ?_
  refine c_reg 1 rone_c_R1 (by kernel_rfl) ?_
  refine at_pures 2 (by kernel_rfl) (by kernel_rfl) ?_
  refine at_do (by kernel_rfl) (op_new (.cells #[(.slice ao l.length cap)] 64) (fun N => (.slice (some ⟨N, 0, none⟩) 1 1)) (fun _ => by kernel_rfl) (fun w11_ b10_ h12_ q13_ F14_ => ?_))
  have h15_ := Row.keep h_b F5_ Dis.n0
  have d16_ : Dis (One b10_) (Own (.slice ao l.length cap)) := Dis.fresh (New.one q13_) (Row.in h15_)
  have h17_ := Rd.keep' h_ks0 F5_ Dis.n0
  have d18_ : Dis (One b10_) (Ar (some ⟨0, 0, none⟩) ((hw KL).toList)) := Dis.fresh (New.one q13_) (Rd.in h17_)
  have d19_ : Dis (One b10_) (One b1_) := Dis.fresh (New.one q13_) (In.one h3_)
  have N20_ : New w N0 (One b10_) := New.made q13_ (Fr.size T9_)
  have T21_ := Fr.tr T9_ F14_
  have h22_ := Row.keep h15_ F14_ Dis.n0
  have h23_ := Rd.keep' h17_ F14_ Dis.n0
  have h24_ := Fr.keep F14_ h3_ Dis.n0
  have h25_ : RowsAt (Or2 (One b10_) (Ar ao (B l))) w11_ (some ⟨b10_, 0, none⟩) [⟨ao, cap, l⟩] := RowsAt.one h12_ (by kernel_rfl) (Row.rd h22_) (Sub.refl _) (Rd.in (Row.rd h22_)) (by first | assumption | exact Byt.nil | exact tagL_byt _ _ | exact tagK_byt _ | exact shaL_byt _ | exact Byt.all (by kernel_rfl)) (by first | assumption | omega | exact Nat.le_refl _ | decide) (by first | assumption | (simp only [maxLen]; omega) | decide)
  refine at_do (by kernel_rfl) (op_call 71 #[(.tmp 5), (.tmp 7)] #[(.string s), (.slice (some ⟨b10_, 0, none⟩) 1 1)] (by kernel_rfl) (by kernel_rfl) (by kernel_rfl) ?_)
  have C31_ := rtagof_c s (Or2 (One b10_) (Ar ao (B l))) (some ⟨b10_, 0, none⟩) 1 ([⟨ao, cap, l⟩] : List BSl) w11_ h25_ h23_  (by first | exact parts1_le (by omega) | omega | assumption | (simp only [List.length_cons, List.length_nil]; omega)) (by first | exact parts1_le (by omega) | omega | assumption | (simp only [List.length_cons, List.length_nil]; omega))
  refine Calls.mono C31_ ?_
  rintro e30_ w28_ ⟨rfl, F29_⟩
  refine ⟨_, rfl, ?_⟩
  have T32_ := Fr.tr T21_ F29_
  have h33_ := Row.keep h22_ F29_ Dis.n0
  have h34_ := Rd.keep' h23_ F29_ Dis.n0
  have h35_ := Fr.keep F29_ h24_ Dis.n0
  have h36_ := Fr.keep F29_ h12_ Dis.n0
  have h37_ := RowsAt.keep h25_ F29_ Dis.n0
  refine at_do (by kernel_rfl) (op_store 49 (.tmp 4) (.tmp 8) b1_ 0 (.agg (hv (tagL (sB s) ([⟨ao, cap, l⟩] : List BSl)))) _ _ (hv (tagL (sB s) ([⟨ao, cap, l⟩] : List BSl))) (by kernel_rfl) (by kernel_rfl) (by kernel_rfl) h35_ (by kernel_rfl) (by kernel_rfl) (by kernel_rfl) (by kernel_rfl) (fun w38_ h39_ z40_ F41_ => ?_))
  have T42_ := Fr.then T32_ F41_ N8_
  have h43_ := Row.keep h33_ F41_ (Dis.sym d6_)
  have h44_ := Rd.keep' h34_ F41_ (Dis.sym d7_)
  have h45_ := Fr.keep F41_ h36_ d19_
  have h46_ := RowsAt.keep h37_ F41_ (Dis.or d19_ (Sub.dis (Row.ar h22_) (Dis.sym d6_)))
  refine at_done (by kernel_rfl) ?_
  refine then_n ?_
  refine c_ret (by kernel_rfl) ?_
  refine fin_retL [.cell 4 49] [(.agg (hv (tagL (sB s) ([⟨ao, cap, l⟩] : List BSl))))] (.agg (hv (tagL (sB s) ([⟨ao, cap, l⟩] : List BSl)))) (by kernel_rfl) (by rfl) ⟨ResOne.cellN (off := 0) (n := 32) (vs := (hv (tagL (sB s) ([⟨ao, cap, l⟩] : List BSl)))) (by kernel_rfl) (by kernel_rfl) (by kernel_rfl) h39_ (by kernel_rfl) (by kernel_rfl), trivial⟩ (by rfl) ?_
  exact ⟨(by rw [tag1_eq]), T42_⟩

noncomputable def ahash_c_R0 : Array Oper := rAt Tryd.prog 26 [0]
noncomputable def ahash_c_R1 : Array Oper := rAt Tryd.prog 26 [1, 0]
noncomputable def ahash_c_R2 : Array Oper := rAt Tryd.prog 26 [1, 1, 0, 0]
noncomputable def ahash_c_R3 : Array Oper := rAt Tryd.prog 26 [1, 1, 0, 1, 0, 0]
noncomputable def ahash_c_R4 : Array Oper := rAt Tryd.prog 26 [1, 1, 1, 0]
set_option maxRecDepth 100000 in
theorem ahash_c (s : ByteArray) (bal : Nat) (non : Nat) (w : World) (h_ks1 : Rd w (some ⟨1, 0, none⟩) ((hw KL).toList)) (hbal : bal < 18446744073709551616) (hnon : non < 4294967296) :
    Calls Tryd.prog 26 #[(.agg #[(.string s), (.int .u64 (bal : Int)), (.int .u32 (non : Int))])] w fun e w' => e = .returned (.tuple #[(.agg (hv (accH s bal non))), (.int .i64 ((accE s : Nat) : Int))]) ∧ Fr w w' N0 := by
  have hal := accB_len (s := s) (bal := bal) (non := non); have hab := accB_byt s bal non
  refine c_enter (mk 18 [(0, (.agg #[(.string s), (.int .u64 (bal : Int)), (.int .u32 (non : Int))]))] (fun _ => undef)) Tryd.func26 (by kernel_rfl) (by kernel_rfl) ?_
  refine c_seq [0] [1] (by kernel_rfl) ?_
  refine c_reg 0 ahash_c_R0 (by kernel_rfl) ?_
  refine at_do (by kernel_rfl) (op_new (.cells #[(.string s), (.int .u64 (bal : Int)), (.int .u32 (non : Int))] 36) (fun N => (.pointer (some ⟨N, 0, none⟩))) (fun _ => by kernel_rfl) (fun w2_ b1_ h3_ q4_ F5_ => ?_))
  have d6_ : Dis (One b1_) (Ar (some ⟨1, 0, none⟩) ((hw KL).toList)) := Dis.fresh (New.one q4_) (Rd.in h_ks1)
  have N7_ : New w N0 (One b1_) := New.made q4_ (Fr.size (Fr.refl w N0))
  have T8_ := Fr.tr (Fr.refl w N0) F5_
  refine at_do (by kernel_rfl) (op_new (.cells #[(.int .u8 0), (.int .u8 0), (.int .u8 0), (.int .u8 0), (.int .u8 0), (.int .u8 0), (.int .u8 0), (.int .u8 0), (.int .u8 0), (.int .u8 0), (.int .u8 0), (.int .u8 0), (.int .u8 0), (.int .u8 0), (.int .u8 0), (.int .u8 0), (.int .u8 0), (.int .u8 0), (.int .u8 0), (.int .u8 0), (.int .u8 0), (.int .u8 0), (.int .u8 0), (.int .u8 0), (.int .u8 0), (.int .u8 0), (.int .u8 0), (.int .u8 0), (.int .u8 0), (.int .u8 0), (.int .u8 0), (.int .u8 0)] 50) (fun N => (.pointer (some ⟨N, 0, none⟩))) (fun _ => by kernel_rfl) (fun w10_ b9_ h11_ q12_ F13_ => ?_))
  have h14_ := Rd.keep' h_ks1 F5_ Dis.n0
  have d15_ : Dis (One b9_) (Ar (some ⟨1, 0, none⟩) ((hw KL).toList)) := Dis.fresh (New.one q12_) (Rd.in h14_)
  have d16_ : Dis (One b9_) (One b1_) := Dis.fresh (New.one q12_) (In.one h3_)
  have N17_ : New w N0 (One b9_) := New.made q12_ (Fr.size T8_)
  have T18_ := Fr.tr T8_ F13_
  refine at_pures 3 (by kernel_rfl) (by kernel_rfl) ?_
  refine at_done (by kernel_rfl) ?_
  refine then_n ?_
  refine c_seq [1, 0] [1, 1] (by kernel_rfl) ?_
  refine c_reg 1 ahash_c_R1 (by kernel_rfl) ?_
  have h19_ := Fr.keep F13_ h3_ Dis.n0
  refine at_loadN 36 (.tmp 1) b1_ 0 3 _ _ _ #[(.string s), (.int .u64 (bal : Int)), (.int .u32 (non : Int))] (by kernel_rfl) (by kernel_rfl) (by kernel_rfl) (by kernel_rfl) (by kernel_rfl) h19_ (by kernel_rfl) (by kernel_rfl) ?_
  have h20_ := Rd.keep' h14_ F13_ Dis.n0
  refine at_do (by kernel_rfl) (op_call 49 #[(.tmp 7)] #[(.agg #[(.string s), (.int .u64 (bal : Int)), (.int .u32 (non : Int))])] (by kernel_rfl) (by kernel_rfl) (by kernel_rfl) ?_)
  have C28_ := abytes_c s bal non w10_   (by first | omega | assumption | exact parts1_le (by omega) | (simp only [List.length_cons, List.length_nil]; omega)) (by first | omega | assumption | exact parts1_le (by omega) | (simp only [List.length_cons, List.length_nil]; omega))
  refine Calls.mono C28_ ?_
  rintro e27_ w25_ ⟨vout21_, rfl, h22_, F26_, h24_⟩
  refine ⟨_, rfl, ?_⟩
  have d29_ : Dis (Own vout21_) (Ar (some ⟨1, 0, none⟩) ((hw KL).toList)) := Dis.fresh h24_ (Rd.in h20_)
  have d30_ : Dis (Own vout21_) (One b1_) := Dis.fresh h24_ (In.one h19_)
  have d31_ : Dis (Own vout21_) (One b9_) := Dis.fresh h24_ (In.one h11_)
  have T32_ := Fr.tr T18_ F26_
  have h33_ := Rd.keep' h20_ F26_ Dis.n0
  have h34_ := Fr.keep F26_ h19_ Dis.n0
  have h35_ := Fr.keep F26_ h11_ Dis.n0
  have N37_ : New w N0 (Own vout21_) := New.later' h24_ (Fr.size T18_)
  obtain ⟨ao38_, cap39_, rfl, hc40_, hm41_, hR42_, ho43_⟩ := Row.read h22_
  refine at_pures 7 (by kernel_rfl) (by kernel_rfl) ?_
  refine at_done (by kernel_rfl) ?_
  refine then_n ?_
  refine c_seq [1, 1, 0] [1, 1, 1] (by kernel_rfl) ?_
  refine c_seq [1, 1, 0, 0] [1, 1, 0, 1] (by kernel_rfl) ?_
  refine c_reg 2 ahash_c_R2 (by kernel_rfl) ?_
  refine at_pures 2 (by kernel_rfl) (by kernel_rfl) ?_
  refine at_done (by kernel_rfl) ?_
  refine then_n ?_
  refine c_if (.tmp 12) (((accE s : Nat) : Int) != (0 : Int)) [1, 1, 0, 1, 0] [1, 1, 0, 1, 1] (by kernel_rfl) (by kernel_rfl) (fun c44_ => ?_) (fun c44_ => ?_)
  · -- yes
    replace c44_ : ((accE s : Nat) : Int) ≠ (0 : Int) := by simpa using c44_
    refine c_seq [1, 1, 0, 1, 0, 0] [1, 1, 0, 1, 0, 1] (by kernel_rfl) ?_
    refine c_reg 3 ahash_c_R3 (by kernel_rfl) ?_
    refine at_pures 2 (by kernel_rfl) (by kernel_rfl) ?_
    refine at_do (by kernel_rfl) (op_store 50 (.tmp 2) (.tmp 13) b9_ 0 (.agg #[(.int .u8 0), (.int .u8 0), (.int .u8 0), (.int .u8 0), (.int .u8 0), (.int .u8 0), (.int .u8 0), (.int .u8 0), (.int .u8 0), (.int .u8 0), (.int .u8 0), (.int .u8 0), (.int .u8 0), (.int .u8 0), (.int .u8 0), (.int .u8 0), (.int .u8 0), (.int .u8 0), (.int .u8 0), (.int .u8 0), (.int .u8 0), (.int .u8 0), (.int .u8 0), (.int .u8 0), (.int .u8 0), (.int .u8 0), (.int .u8 0), (.int .u8 0), (.int .u8 0), (.int .u8 0), (.int .u8 0), (.int .u8 0)]) _ _ #[(.int .u8 0), (.int .u8 0), (.int .u8 0), (.int .u8 0), (.int .u8 0), (.int .u8 0), (.int .u8 0), (.int .u8 0), (.int .u8 0), (.int .u8 0), (.int .u8 0), (.int .u8 0), (.int .u8 0), (.int .u8 0), (.int .u8 0), (.int .u8 0), (.int .u8 0), (.int .u8 0), (.int .u8 0), (.int .u8 0), (.int .u8 0), (.int .u8 0), (.int .u8 0), (.int .u8 0), (.int .u8 0), (.int .u8 0), (.int .u8 0), (.int .u8 0), (.int .u8 0), (.int .u8 0), (.int .u8 0), (.int .u8 0)] (by kernel_rfl) (by kernel_rfl) (by kernel_rfl) h35_ (by kernel_rfl) (by kernel_rfl) (by kernel_rfl) (by kernel_rfl) (fun w45_ h46_ z47_ F48_ => ?_))
    have T49_ := Fr.then T32_ F48_ N17_
    have h50_ := Rd.keep' h33_ F48_ (Dis.sym d15_)
    have h51_ := Fr.keep F48_ h34_ (Dis.sym d16_)
    have h52_ := Row.keep h22_ F48_ d31_
    refine at_pures 4 (by kernel_rfl) (by kernel_rfl) ?_
    refine at_done (by kernel_rfl) ?_
    refine then_n ?_
    refine c_ret (by kernel_rfl) ?_
    refine then_r ?_
    refine fin_retL [.cell 2 50, .tmp 3] [(.agg #[(.int .u8 0), (.int .u8 0), (.int .u8 0), (.int .u8 0), (.int .u8 0), (.int .u8 0), (.int .u8 0), (.int .u8 0), (.int .u8 0), (.int .u8 0), (.int .u8 0), (.int .u8 0), (.int .u8 0), (.int .u8 0), (.int .u8 0), (.int .u8 0), (.int .u8 0), (.int .u8 0), (.int .u8 0), (.int .u8 0), (.int .u8 0), (.int .u8 0), (.int .u8 0), (.int .u8 0), (.int .u8 0), (.int .u8 0), (.int .u8 0), (.int .u8 0), (.int .u8 0), (.int .u8 0), (.int .u8 0), (.int .u8 0)]), (.int .i64 ((accE s : Nat) : Int))] (.tuple #[(.agg #[(.int .u8 0), (.int .u8 0), (.int .u8 0), (.int .u8 0), (.int .u8 0), (.int .u8 0), (.int .u8 0), (.int .u8 0), (.int .u8 0), (.int .u8 0), (.int .u8 0), (.int .u8 0), (.int .u8 0), (.int .u8 0), (.int .u8 0), (.int .u8 0), (.int .u8 0), (.int .u8 0), (.int .u8 0), (.int .u8 0), (.int .u8 0), (.int .u8 0), (.int .u8 0), (.int .u8 0), (.int .u8 0), (.int .u8 0), (.int .u8 0), (.int .u8 0), (.int .u8 0), (.int .u8 0), (.int .u8 0), (.int .u8 0)]), (.int .i64 ((accE s : Nat) : Int))]) (by kernel_rfl) (by rfl) ⟨ResOne.cellN (off := 0) (n := 32) (vs := #[(.int .u8 0), (.int .u8 0), (.int .u8 0), (.int .u8 0), (.int .u8 0), (.int .u8 0), (.int .u8 0), (.int .u8 0), (.int .u8 0), (.int .u8 0), (.int .u8 0), (.int .u8 0), (.int .u8 0), (.int .u8 0), (.int .u8 0), (.int .u8 0), (.int .u8 0), (.int .u8 0), (.int .u8 0), (.int .u8 0), (.int .u8 0), (.int .u8 0), (.int .u8 0), (.int .u8 0), (.int .u8 0), (.int .u8 0), (.int .u8 0), (.int .u8 0), (.int .u8 0), (.int .u8 0), (.int .u8 0), (.int .u8 0)]) (by kernel_rfl) (by kernel_rfl) (by kernel_rfl) h46_ (by kernel_rfl) (by kernel_rfl), ResOne.tmp (by kernel_rfl), trivial⟩ (by rfl) ?_
    exact ⟨(by rw [accH_no (accE_ne (by assumption)), accE_no (accE_ne (by assumption))]; kernel_rfl), T49_⟩
  · -- no
    replace c44_ : ((accE s : Nat) : Int) = (0 : Int) := by simpa using c44_
    refine c_skip (by kernel_rfl) ?_
    refine then_n ?_
    refine c_seq [1, 1, 1, 0] [1, 1, 1, 1] (by kernel_rfl) ?_
    refine c_reg 4 ahash_c_R4 (by kernel_rfl) ?_
    refine at_pures 1 (by kernel_rfl) (by kernel_rfl) ?_
    refine at_do (by kernel_rfl) (op_new (.cells #[(.slice ao38_ ((accB s bal non).length) cap39_)] 64) (fun N => (.slice (some ⟨N, 0, none⟩) 1 1)) (fun _ => by kernel_rfl) (fun w54_ b53_ h55_ q56_ F57_ => ?_))
    have d58_ : Dis (One b53_) (Ar (some ⟨1, 0, none⟩) ((hw KL).toList)) := Dis.fresh (New.one q56_) (Rd.in h33_)
    have d59_ : Dis (One b53_) (One b1_) := Dis.fresh (New.one q56_) (In.one h34_)
    have d60_ : Dis (One b53_) (One b9_) := Dis.fresh (New.one q56_) (In.one h35_)
    have d61_ : Dis (One b53_) (Own (.slice ao38_ ((accB s bal non).length) cap39_)) := Dis.fresh (New.one q56_) (Row.in h22_)
    have N62_ : New w N0 (One b53_) := New.made q56_ (Fr.size T32_)
    have T63_ := Fr.tr T32_ F57_
    have h64_ := Rd.keep' h33_ F57_ Dis.n0
    have h65_ := Fr.keep F57_ h34_ Dis.n0
    have h66_ := Fr.keep F57_ h35_ Dis.n0
    have h67_ := Row.keep h22_ F57_ Dis.n0
    have h68_ : RowsAt (Or2 (One b53_) (Ar ao38_ (B (accB s bal non)))) w54_ (some ⟨b53_, 0, none⟩) [⟨ao38_, cap39_, (accB s bal non)⟩] := RowsAt.one h55_ (by kernel_rfl) (Row.rd h67_) (Sub.refl _) (Rd.in (Row.rd h67_)) (by first | assumption | exact Byt.nil | exact tagL_byt _ _ | exact tagK_byt _ | exact shaL_byt _ | exact Byt.all (by kernel_rfl)) (by first | assumption | omega | exact Nat.le_refl _ | decide) (by first | assumption | (simp only [maxLen]; omega) | decide)
    refine at_do (by kernel_rfl) (op_call 48 #[(.const (.string (⟨#[97, 99, 99, 111, 117, 110, 116]⟩ : ByteArray))), (.tmp 16)] #[(.string (⟨#[97, 99, 99, 111, 117, 110, 116]⟩ : ByteArray)), (.slice (some ⟨b53_, 0, none⟩) 1 1)] (by kernel_rfl) (by kernel_rfl) (by kernel_rfl) ?_)
    have C74_ := tagof_c (⟨#[97, 99, 99, 111, 117, 110, 116]⟩ : ByteArray) (Or2 (One b53_) (Ar ao38_ (B (accB s bal non)))) (some ⟨b53_, 0, none⟩) 1 ([⟨ao38_, cap39_, (accB s bal non)⟩] : List BSl) w54_ h68_ h64_  (by first | omega | assumption | exact parts1_le (by omega) | (simp only [List.length_cons, List.length_nil]; omega)) (by first | omega | assumption | exact parts1_le (by omega) | (simp only [List.length_cons, List.length_nil]; omega))
    refine Calls.mono C74_ ?_
    rintro e73_ w71_ ⟨rfl, F72_⟩
    refine ⟨_, rfl, ?_⟩
    have T75_ := Fr.tr T63_ F72_
    have h76_ := Rd.keep' h64_ F72_ Dis.n0
    have h77_ := Fr.keep F72_ h65_ Dis.n0
    have h78_ := Fr.keep F72_ h66_ Dis.n0
    have h79_ := Row.keep h67_ F72_ Dis.n0
    have h80_ := Fr.keep F72_ h55_ Dis.n0
    have h81_ := RowsAt.keep h68_ F72_ Dis.n0
    refine at_do (by kernel_rfl) (op_store 50 (.tmp 2) (.tmp 17) b9_ 0 (.agg (hv (tagL (sB (⟨#[97, 99, 99, 111, 117, 110, 116]⟩ : ByteArray)) ([⟨ao38_, cap39_, (accB s bal non)⟩] : List BSl)))) _ _ (hv (tagL (sB (⟨#[97, 99, 99, 111, 117, 110, 116]⟩ : ByteArray)) ([⟨ao38_, cap39_, (accB s bal non)⟩] : List BSl))) (by kernel_rfl) (by kernel_rfl) (by kernel_rfl) h78_ (by kernel_rfl) (by kernel_rfl) (by kernel_rfl) (by kernel_rfl) (fun w82_ h83_ z84_ F85_ => ?_))
    have T86_ := Fr.then T75_ F85_ N17_
    have h87_ := Rd.keep' h76_ F85_ (Dis.sym d15_)
    have h88_ := Fr.keep F85_ h77_ (Dis.sym d16_)
    have h89_ := Row.keep h79_ F85_ d31_
    have h90_ := Fr.keep F85_ h80_ d60_
    have h91_ := RowsAt.keep h81_ F85_ (Dis.or d60_ (Sub.dis (Row.ar h67_) d31_))
    refine at_pures 5 (by kernel_rfl) (by kernel_rfl) ?_
    refine at_done (by kernel_rfl) ?_
    refine then_n ?_
    refine c_ret (by kernel_rfl) ?_
    refine fin_retL [.cell 2 50, .tmp 3] [(.agg (hv (tagL (sB (⟨#[97, 99, 99, 111, 117, 110, 116]⟩ : ByteArray)) ([⟨ao38_, cap39_, (accB s bal non)⟩] : List BSl)))), (.int .i64 0)] (.tuple #[(.agg (hv (tagL (sB (⟨#[97, 99, 99, 111, 117, 110, 116]⟩ : ByteArray)) ([⟨ao38_, cap39_, (accB s bal non)⟩] : List BSl)))), (.int .i64 0)]) (by kernel_rfl) (by rfl) ⟨ResOne.cellN (off := 0) (n := 32) (vs := (hv (tagL (sB (⟨#[97, 99, 99, 111, 117, 110, 116]⟩ : ByteArray)) ([⟨ao38_, cap39_, (accB s bal non)⟩] : List BSl)))) (by kernel_rfl) (by kernel_rfl) (by kernel_rfl) h83_ (by kernel_rfl) (by kernel_rfl), ResOne.tmp (by kernel_rfl), trivial⟩ (by rfl) ?_
    exact ⟨(by rw [accH_yes (accE_eq (by assumption)), accE_yes (accE_eq (by assumption))]; rfl), T86_⟩

noncomputable def rahash_c_R0 : Array Oper := rAt Tryd.prog 55 [0]
noncomputable def rahash_c_R1 : Array Oper := rAt Tryd.prog 55 [1, 0]
noncomputable def rahash_c_R2 : Array Oper := rAt Tryd.prog 55 [1, 1, 0, 0]
noncomputable def rahash_c_R3 : Array Oper := rAt Tryd.prog 55 [1, 1, 0, 1, 0, 0]
noncomputable def rahash_c_R4 : Array Oper := rAt Tryd.prog 55 [1, 1, 1, 0]
set_option maxRecDepth 100000 in
theorem rahash_c (s : ByteArray) (bal : Nat) (non : Nat) (w : World) (h_ks0 : Rd w (some ⟨0, 0, none⟩) ((hw KL).toList)) (hbal : bal < 18446744073709551616) (hnon : non < 4294967296) :
    Calls Tryd.prog 55 #[(.agg #[(.string s), (.int .u64 (bal : Int)), (.int .u32 (non : Int))])] w fun e w' => e = .returned (.tuple #[(.agg (hv (accH s bal non))), (.int .i64 ((accE s : Nat) : Int))]) ∧ Fr w w' N0 := by
  have hal := accB_len (s := s) (bal := bal) (non := non); have hab := accB_byt s bal non
  refine c_enter (mk 17 [(0, (.agg #[(.string s), (.int .u64 (bal : Int)), (.int .u32 (non : Int))]))] (fun _ => undef)) Tryd.func55 (by kernel_rfl) (by kernel_rfl) ?_
  refine c_seq [0] [1] (by kernel_rfl) ?_
  refine c_reg 0 rahash_c_R0 (by kernel_rfl) ?_
  refine at_do (by kernel_rfl) (op_new (.cells #[(.string s), (.int .u64 (bal : Int)), (.int .u32 (non : Int))] 31) (fun N => (.pointer (some ⟨N, 0, none⟩))) (fun _ => by kernel_rfl) (fun w2_ b1_ h3_ q4_ F5_ => ?_))
  have d6_ : Dis (One b1_) (Ar (some ⟨0, 0, none⟩) ((hw KL).toList)) := Dis.fresh (New.one q4_) (Rd.in h_ks0)
  have N7_ : New w N0 (One b1_) := New.made q4_ (Fr.size (Fr.refl w N0))
  have T8_ := Fr.tr (Fr.refl w N0) F5_
  refine at_do (by kernel_rfl) (op_new (.cells #[(.int .u8 0), (.int .u8 0), (.int .u8 0), (.int .u8 0), (.int .u8 0), (.int .u8 0), (.int .u8 0), (.int .u8 0), (.int .u8 0), (.int .u8 0), (.int .u8 0), (.int .u8 0), (.int .u8 0), (.int .u8 0), (.int .u8 0), (.int .u8 0), (.int .u8 0), (.int .u8 0), (.int .u8 0), (.int .u8 0), (.int .u8 0), (.int .u8 0), (.int .u8 0), (.int .u8 0), (.int .u8 0), (.int .u8 0), (.int .u8 0), (.int .u8 0), (.int .u8 0), (.int .u8 0), (.int .u8 0), (.int .u8 0)] 50) (fun N => (.pointer (some ⟨N, 0, none⟩))) (fun _ => by kernel_rfl) (fun w10_ b9_ h11_ q12_ F13_ => ?_))
  have h14_ := Rd.keep' h_ks0 F5_ Dis.n0
  have d15_ : Dis (One b9_) (Ar (some ⟨0, 0, none⟩) ((hw KL).toList)) := Dis.fresh (New.one q12_) (Rd.in h14_)
  have d16_ : Dis (One b9_) (One b1_) := Dis.fresh (New.one q12_) (In.one h3_)
  have N17_ : New w N0 (One b9_) := New.made q12_ (Fr.size T8_)
  have T18_ := Fr.tr T8_ F13_
  refine at_pures 3 (by kernel_rfl) (by kernel_rfl) ?_
  refine at_done (by kernel_rfl) ?_
  refine then_n ?_
  refine c_seq [1, 0] [1, 1] (by kernel_rfl) ?_
  refine c_reg 1 rahash_c_R1 (by kernel_rfl) ?_
  have h19_ := Fr.keep F13_ h3_ Dis.n0
  refine at_loadN 31 (.tmp 1) b1_ 0 3 _ _ _ #[(.string s), (.int .u64 (bal : Int)), (.int .u32 (non : Int))] (by kernel_rfl) (by kernel_rfl) (by kernel_rfl) (by kernel_rfl) (by kernel_rfl) h19_ (by kernel_rfl) (by kernel_rfl) ?_
  have h20_ := Rd.keep' h14_ F13_ Dis.n0
  refine at_do (by kernel_rfl) (op_call 72 #[(.tmp 7)] #[(.agg #[(.string s), (.int .u64 (bal : Int)), (.int .u32 (non : Int))])] (by kernel_rfl) (by kernel_rfl) (by kernel_rfl) ?_)
  have C28_ := rabytes_c s bal non w10_   (by first | omega | assumption | exact parts1_le (by omega) | (simp only [List.length_cons, List.length_nil]; omega)) (by first | omega | assumption | exact parts1_le (by omega) | (simp only [List.length_cons, List.length_nil]; omega))
  refine Calls.mono C28_ ?_
  rintro e27_ w25_ ⟨vout21_, rfl, h22_, F26_, h24_⟩
  refine ⟨_, rfl, ?_⟩
  have d29_ : Dis (Own vout21_) (Ar (some ⟨0, 0, none⟩) ((hw KL).toList)) := Dis.fresh h24_ (Rd.in h20_)
  have d30_ : Dis (Own vout21_) (One b1_) := Dis.fresh h24_ (In.one h19_)
  have d31_ : Dis (Own vout21_) (One b9_) := Dis.fresh h24_ (In.one h11_)
  have T32_ := Fr.tr T18_ F26_
  have h33_ := Rd.keep' h20_ F26_ Dis.n0
  have h34_ := Fr.keep F26_ h19_ Dis.n0
  have h35_ := Fr.keep F26_ h11_ Dis.n0
  have N37_ : New w N0 (Own vout21_) := New.later' h24_ (Fr.size T18_)
  obtain ⟨ao38_, cap39_, rfl, hc40_, hm41_, hR42_, ho43_⟩ := Row.read h22_
  refine at_pures 7 (by kernel_rfl) (by kernel_rfl) ?_
  refine at_done (by kernel_rfl) ?_
  refine then_n ?_
  refine c_seq [1, 1, 0] [1, 1, 1] (by kernel_rfl) ?_
  refine c_seq [1, 1, 0, 0] [1, 1, 0, 1] (by kernel_rfl) ?_
  refine c_reg 2 rahash_c_R2 (by kernel_rfl) ?_
  refine at_pures 2 (by kernel_rfl) (by kernel_rfl) ?_
  refine at_done (by kernel_rfl) ?_
  refine then_n ?_
  refine c_if (.tmp 12) (((accE s : Nat) : Int) != (0 : Int)) [1, 1, 0, 1, 0] [1, 1, 0, 1, 1] (by kernel_rfl) (by kernel_rfl) (fun c44_ => ?_) (fun c44_ => ?_)
  · -- yes
    replace c44_ : ((accE s : Nat) : Int) ≠ (0 : Int) := by simpa using c44_
    refine c_seq [1, 1, 0, 1, 0, 0] [1, 1, 0, 1, 0, 1] (by kernel_rfl) ?_
    refine c_reg 3 rahash_c_R3 (by kernel_rfl) ?_
    refine at_pures 2 (by kernel_rfl) (by kernel_rfl) ?_
    refine at_do (by kernel_rfl) (op_store 50 (.tmp 2) (.tmp 13) b9_ 0 (.agg #[(.int .u8 0), (.int .u8 0), (.int .u8 0), (.int .u8 0), (.int .u8 0), (.int .u8 0), (.int .u8 0), (.int .u8 0), (.int .u8 0), (.int .u8 0), (.int .u8 0), (.int .u8 0), (.int .u8 0), (.int .u8 0), (.int .u8 0), (.int .u8 0), (.int .u8 0), (.int .u8 0), (.int .u8 0), (.int .u8 0), (.int .u8 0), (.int .u8 0), (.int .u8 0), (.int .u8 0), (.int .u8 0), (.int .u8 0), (.int .u8 0), (.int .u8 0), (.int .u8 0), (.int .u8 0), (.int .u8 0), (.int .u8 0)]) _ _ #[(.int .u8 0), (.int .u8 0), (.int .u8 0), (.int .u8 0), (.int .u8 0), (.int .u8 0), (.int .u8 0), (.int .u8 0), (.int .u8 0), (.int .u8 0), (.int .u8 0), (.int .u8 0), (.int .u8 0), (.int .u8 0), (.int .u8 0), (.int .u8 0), (.int .u8 0), (.int .u8 0), (.int .u8 0), (.int .u8 0), (.int .u8 0), (.int .u8 0), (.int .u8 0), (.int .u8 0), (.int .u8 0), (.int .u8 0), (.int .u8 0), (.int .u8 0), (.int .u8 0), (.int .u8 0), (.int .u8 0), (.int .u8 0)] (by kernel_rfl) (by kernel_rfl) (by kernel_rfl) h35_ (by kernel_rfl) (by kernel_rfl) (by kernel_rfl) (by kernel_rfl) (fun w45_ h46_ z47_ F48_ => ?_))
    have T49_ := Fr.then T32_ F48_ N17_
    have h50_ := Rd.keep' h33_ F48_ (Dis.sym d15_)
    have h51_ := Fr.keep F48_ h34_ (Dis.sym d16_)
    have h52_ := Row.keep h22_ F48_ d31_
    refine at_pures 4 (by kernel_rfl) (by kernel_rfl) ?_
    refine at_done (by kernel_rfl) ?_
    refine then_n ?_
    refine c_ret (by kernel_rfl) ?_
    refine then_r ?_
    refine fin_retL [.cell 2 50, .tmp 3] [(.agg #[(.int .u8 0), (.int .u8 0), (.int .u8 0), (.int .u8 0), (.int .u8 0), (.int .u8 0), (.int .u8 0), (.int .u8 0), (.int .u8 0), (.int .u8 0), (.int .u8 0), (.int .u8 0), (.int .u8 0), (.int .u8 0), (.int .u8 0), (.int .u8 0), (.int .u8 0), (.int .u8 0), (.int .u8 0), (.int .u8 0), (.int .u8 0), (.int .u8 0), (.int .u8 0), (.int .u8 0), (.int .u8 0), (.int .u8 0), (.int .u8 0), (.int .u8 0), (.int .u8 0), (.int .u8 0), (.int .u8 0), (.int .u8 0)]), (.int .i64 ((accE s : Nat) : Int))] (.tuple #[(.agg #[(.int .u8 0), (.int .u8 0), (.int .u8 0), (.int .u8 0), (.int .u8 0), (.int .u8 0), (.int .u8 0), (.int .u8 0), (.int .u8 0), (.int .u8 0), (.int .u8 0), (.int .u8 0), (.int .u8 0), (.int .u8 0), (.int .u8 0), (.int .u8 0), (.int .u8 0), (.int .u8 0), (.int .u8 0), (.int .u8 0), (.int .u8 0), (.int .u8 0), (.int .u8 0), (.int .u8 0), (.int .u8 0), (.int .u8 0), (.int .u8 0), (.int .u8 0), (.int .u8 0), (.int .u8 0), (.int .u8 0), (.int .u8 0)]), (.int .i64 ((accE s : Nat) : Int))]) (by kernel_rfl) (by rfl) ⟨ResOne.cellN (off := 0) (n := 32) (vs := #[(.int .u8 0), (.int .u8 0), (.int .u8 0), (.int .u8 0), (.int .u8 0), (.int .u8 0), (.int .u8 0), (.int .u8 0), (.int .u8 0), (.int .u8 0), (.int .u8 0), (.int .u8 0), (.int .u8 0), (.int .u8 0), (.int .u8 0), (.int .u8 0), (.int .u8 0), (.int .u8 0), (.int .u8 0), (.int .u8 0), (.int .u8 0), (.int .u8 0), (.int .u8 0), (.int .u8 0), (.int .u8 0), (.int .u8 0), (.int .u8 0), (.int .u8 0), (.int .u8 0), (.int .u8 0), (.int .u8 0), (.int .u8 0)]) (by kernel_rfl) (by kernel_rfl) (by kernel_rfl) h46_ (by kernel_rfl) (by kernel_rfl), ResOne.tmp (by kernel_rfl), trivial⟩ (by rfl) ?_
    exact ⟨(by rw [accH_no (accE_ne (by assumption)), accE_no (accE_ne (by assumption))]; kernel_rfl), T49_⟩
  · -- no
    replace c44_ : ((accE s : Nat) : Int) = (0 : Int) := by simpa using c44_
    refine c_skip (by kernel_rfl) ?_
    refine then_n ?_
    refine c_seq [1, 1, 1, 0] [1, 1, 1, 1] (by kernel_rfl) ?_
    refine c_reg 4 rahash_c_R4 (by kernel_rfl) ?_
    refine at_pures 1 (by kernel_rfl) (by kernel_rfl) ?_
    refine at_do (by kernel_rfl) (op_call 73 #[(.const (.string (⟨#[97, 99, 99, 111, 117, 110, 116]⟩ : ByteArray))), (.tmp 15)] #[(.string (⟨#[97, 99, 99, 111, 117, 110, 116]⟩ : ByteArray)), (.slice ao38_ ((accB s bal non).length) cap39_)] (by kernel_rfl) (by kernel_rfl) (by kernel_rfl) ?_)
    have C57_ := rone_c (⟨#[97, 99, 99, 111, 117, 110, 116]⟩ : ByteArray) (.slice ao38_ ((accB s bal non).length) cap39_) (accB s bal non) w25_ h22_ h33_  (by first | omega | assumption | exact parts1_le (by omega) | (simp only [List.length_cons, List.length_nil]; omega)) (by first | omega | assumption | exact parts1_le (by omega) | (simp only [List.length_cons, List.length_nil]; omega))
    refine Calls.mono C57_ ?_
    rintro e56_ w54_ ⟨rfl, F55_⟩
    refine ⟨_, rfl, ?_⟩
    have T58_ := Fr.tr T32_ F55_
    have h59_ := Rd.keep' h33_ F55_ Dis.n0
    have h60_ := Fr.keep F55_ h34_ Dis.n0
    have h61_ := Fr.keep F55_ h35_ Dis.n0
    have h62_ := Row.keep h22_ F55_ Dis.n0
    refine at_do (by kernel_rfl) (op_store 50 (.tmp 2) (.tmp 16) b9_ 0 (.agg (hv (tag1 (sB (⟨#[97, 99, 99, 111, 117, 110, 116]⟩ : ByteArray)) (accB s bal non)))) _ _ (hv (tag1 (sB (⟨#[97, 99, 99, 111, 117, 110, 116]⟩ : ByteArray)) (accB s bal non))) (by kernel_rfl) (by kernel_rfl) (by kernel_rfl) h61_ (by kernel_rfl) (by kernel_rfl) (by kernel_rfl) (by kernel_rfl) (fun w63_ h64_ z65_ F66_ => ?_))
    have T67_ := Fr.then T58_ F66_ N17_
    have h68_ := Rd.keep' h59_ F66_ (Dis.sym d15_)
    have h69_ := Fr.keep F66_ h60_ (Dis.sym d16_)
    have h70_ := Row.keep h62_ F66_ d31_
    refine at_pures 4 (by kernel_rfl) (by kernel_rfl) ?_
    refine at_done (by kernel_rfl) ?_
    refine then_n ?_
    refine c_ret (by kernel_rfl) ?_
    refine fin_retL [.cell 2 50, .tmp 3] [(.agg (hv (tag1 (sB (⟨#[97, 99, 99, 111, 117, 110, 116]⟩ : ByteArray)) (accB s bal non)))), (.int .i64 0)] (.tuple #[(.agg (hv (tag1 (sB (⟨#[97, 99, 99, 111, 117, 110, 116]⟩ : ByteArray)) (accB s bal non)))), (.int .i64 0)]) (by kernel_rfl) (by rfl) ⟨ResOne.cellN (off := 0) (n := 32) (vs := (hv (tag1 (sB (⟨#[97, 99, 99, 111, 117, 110, 116]⟩ : ByteArray)) (accB s bal non)))) (by kernel_rfl) (by kernel_rfl) (by kernel_rfl) h64_ (by kernel_rfl) (by kernel_rfl), ResOne.tmp (by kernel_rfl), trivial⟩ (by rfl) ?_
    exact ⟨(by rw [accH_yes (accE_eq (by assumption)), accE_yes (accE_eq (by assumption))]; rfl), T67_⟩

noncomputable def anone_c_R0 : Array Oper := rAt Tryd.prog 25 [0]
noncomputable def anone_c_R1 : Array Oper := rAt Tryd.prog 25 [1, 0]
set_option maxRecDepth 100000 in
theorem anone_c (w : World) (h_ks1 : Rd w (some ⟨1, 0, none⟩) ((hw KL).toList)) :
    Calls Tryd.prog 25 #[] w fun e w' => e = .returned (.agg (hv accNone)) ∧ Fr w w' N0 := by
  refine c_enter (mk 2 [] (fun _ => undef)) Tryd.func25 (by kernel_rfl) (by kernel_rfl) ?_
  refine c_seq [0] [1] (by kernel_rfl) ?_
  refine c_reg 0 anone_c_R0 (by kernel_rfl) ?_
  refine at_do (by kernel_rfl) (op_new (.cells #[(.int .u8 0), (.int .u8 0), (.int .u8 0), (.int .u8 0), (.int .u8 0), (.int .u8 0), (.int .u8 0), (.int .u8 0), (.int .u8 0), (.int .u8 0), (.int .u8 0), (.int .u8 0), (.int .u8 0), (.int .u8 0), (.int .u8 0), (.int .u8 0), (.int .u8 0), (.int .u8 0), (.int .u8 0), (.int .u8 0), (.int .u8 0), (.int .u8 0), (.int .u8 0), (.int .u8 0), (.int .u8 0), (.int .u8 0), (.int .u8 0), (.int .u8 0), (.int .u8 0), (.int .u8 0), (.int .u8 0), (.int .u8 0)] 50) (fun N => (.pointer (some ⟨N, 0, none⟩))) (fun _ => by kernel_rfl) (fun w2_ b1_ h3_ q4_ F5_ => ?_))
  have d6_ : Dis (One b1_) (Ar (some ⟨1, 0, none⟩) ((hw KL).toList)) := Dis.fresh (New.one q4_) (Rd.in h_ks1)
  have N7_ : New w N0 (One b1_) := New.made q4_ (Fr.size (Fr.refl w N0))
  have T8_ := Fr.tr (Fr.refl w N0) F5_
  refine at_done (by kernel_rfl) ?_
  refine then_n ?_
  refine c_seq [1, 0] [1, 1] (by kernel_rfl) ?_
  refine c_reg 1 anone_c_R1 (by kernel_rfl) ?_
  have h9_ := Rd.keep' h_ks1 F5_ Dis.n0
  have h10_ := RowsAt.none w2_
  refine at_do (by kernel_rfl) (op_call 48 #[(.const (.string (⟨#[101, 109, 112, 116, 121]⟩ : ByteArray))), (.const (.slice none 0 0))] #[(.string (⟨#[101, 109, 112, 116, 121]⟩ : ByteArray)), (.slice none 0 0)] (by kernel_rfl) (by kernel_rfl) (by kernel_rfl) ?_)
  have C16_ := tagof_c (⟨#[101, 109, 112, 116, 121]⟩ : ByteArray) N0 none 0 ([] : List BSl) w2_ h10_ h9_  (by first | exact parts0_le | exact Nat.zero_le _) (by first | exact parts0_le | exact Nat.zero_le _)
  refine Calls.mono C16_ ?_
  rintro e15_ w13_ ⟨rfl, F14_⟩
  refine ⟨_, rfl, ?_⟩
  have T17_ := Fr.tr T8_ F14_
  have h18_ := Rd.keep' h9_ F14_ Dis.n0
  have h19_ := Fr.keep F14_ h3_ Dis.n0
  have h20_ := RowsAt.keep h10_ F14_ Dis.n0
  refine at_do (by kernel_rfl) (op_store 50 (.tmp 0) (.tmp 1) b1_ 0 (.agg (hv (tagL (sB (⟨#[101, 109, 112, 116, 121]⟩ : ByteArray)) ([] : List BSl)))) _ _ (hv (tagL (sB (⟨#[101, 109, 112, 116, 121]⟩ : ByteArray)) ([] : List BSl))) (by kernel_rfl) (by kernel_rfl) (by kernel_rfl) h19_ (by kernel_rfl) (by kernel_rfl) (by kernel_rfl) (by kernel_rfl) (fun w21_ h22_ z23_ F24_ => ?_))
  have T25_ := Fr.then T17_ F24_ N7_
  have h26_ := Rd.keep' h18_ F24_ (Dis.sym d6_)
  have h27_ := RowsAt.keep h20_ F24_ Dis.n0'
  refine at_done (by kernel_rfl) ?_
  refine then_n ?_
  refine c_ret (by kernel_rfl) ?_
  refine fin_retL [.cell 0 50] [(.agg (hv (tagL (sB (⟨#[101, 109, 112, 116, 121]⟩ : ByteArray)) ([] : List BSl))))] (.agg (hv (tagL (sB (⟨#[101, 109, 112, 116, 121]⟩ : ByteArray)) ([] : List BSl)))) (by kernel_rfl) (by rfl) ⟨ResOne.cellN (off := 0) (n := 32) (vs := (hv (tagL (sB (⟨#[101, 109, 112, 116, 121]⟩ : ByteArray)) ([] : List BSl)))) (by kernel_rfl) (by kernel_rfl) (by kernel_rfl) h22_ (by kernel_rfl) (by kernel_rfl), trivial⟩ (by rfl) ?_
  exact ⟨rfl, T25_⟩

noncomputable def ranone_c_R0 : Array Oper := rAt Tryd.prog 65 [0]
noncomputable def ranone_c_R1 : Array Oper := rAt Tryd.prog 65 [1, 0]
set_option maxRecDepth 100000 in
theorem ranone_c (w : World) (h_ks0 : Rd w (some ⟨0, 0, none⟩) ((hw KL).toList)) :
    Calls Tryd.prog 65 #[] w fun e w' => e = .returned (.agg (hv accNone)) ∧ Fr w w' N0 := by
  refine c_enter (mk 2 [] (fun _ => undef)) Tryd.func65 (by kernel_rfl) (by kernel_rfl) ?_
  refine c_seq [0] [1] (by kernel_rfl) ?_
  refine c_reg 0 ranone_c_R0 (by kernel_rfl) ?_
  refine at_do (by kernel_rfl) (op_new (.cells #[(.int .u8 0), (.int .u8 0), (.int .u8 0), (.int .u8 0), (.int .u8 0), (.int .u8 0), (.int .u8 0), (.int .u8 0), (.int .u8 0), (.int .u8 0), (.int .u8 0), (.int .u8 0), (.int .u8 0), (.int .u8 0), (.int .u8 0), (.int .u8 0), (.int .u8 0), (.int .u8 0), (.int .u8 0), (.int .u8 0), (.int .u8 0), (.int .u8 0), (.int .u8 0), (.int .u8 0), (.int .u8 0), (.int .u8 0), (.int .u8 0), (.int .u8 0), (.int .u8 0), (.int .u8 0), (.int .u8 0), (.int .u8 0)] 50) (fun N => (.pointer (some ⟨N, 0, none⟩))) (fun _ => by kernel_rfl) (fun w2_ b1_ h3_ q4_ F5_ => ?_))
  have d6_ : Dis (One b1_) (Ar (some ⟨0, 0, none⟩) ((hw KL).toList)) := Dis.fresh (New.one q4_) (Rd.in h_ks0)
  have N7_ : New w N0 (One b1_) := New.made q4_ (Fr.size (Fr.refl w N0))
  have T8_ := Fr.tr (Fr.refl w N0) F5_
  refine at_done (by kernel_rfl) ?_
  refine then_n ?_
  refine c_seq [1, 0] [1, 1] (by kernel_rfl) ?_
  refine c_reg 1 ranone_c_R1 (by kernel_rfl) ?_
  have h9_ := Rd.keep' h_ks0 F5_ Dis.n0
  have h10_ := RowsAt.none w2_
  refine at_do (by kernel_rfl) (op_call 71 #[(.const (.string (⟨#[101, 109, 112, 116, 121]⟩ : ByteArray))), (.const (.slice none 0 0))] #[(.string (⟨#[101, 109, 112, 116, 121]⟩ : ByteArray)), (.slice none 0 0)] (by kernel_rfl) (by kernel_rfl) (by kernel_rfl) ?_)
  have C16_ := rtagof_c (⟨#[101, 109, 112, 116, 121]⟩ : ByteArray) N0 none 0 ([] : List BSl) w2_ h10_ h9_  (by first | exact parts0_le | exact Nat.zero_le _) (by first | exact parts0_le | exact Nat.zero_le _)
  refine Calls.mono C16_ ?_
  rintro e15_ w13_ ⟨rfl, F14_⟩
  refine ⟨_, rfl, ?_⟩
  have T17_ := Fr.tr T8_ F14_
  have h18_ := Rd.keep' h9_ F14_ Dis.n0
  have h19_ := Fr.keep F14_ h3_ Dis.n0
  have h20_ := RowsAt.keep h10_ F14_ Dis.n0
  refine at_do (by kernel_rfl) (op_store 50 (.tmp 0) (.tmp 1) b1_ 0 (.agg (hv (tagL (sB (⟨#[101, 109, 112, 116, 121]⟩ : ByteArray)) ([] : List BSl)))) _ _ (hv (tagL (sB (⟨#[101, 109, 112, 116, 121]⟩ : ByteArray)) ([] : List BSl))) (by kernel_rfl) (by kernel_rfl) (by kernel_rfl) h19_ (by kernel_rfl) (by kernel_rfl) (by kernel_rfl) (by kernel_rfl) (fun w21_ h22_ z23_ F24_ => ?_))
  have T25_ := Fr.then T17_ F24_ N7_
  have h26_ := Rd.keep' h18_ F24_ (Dis.sym d6_)
  have h27_ := RowsAt.keep h20_ F24_ Dis.n0'
  refine at_done (by kernel_rfl) ?_
  refine then_n ?_
  refine c_ret (by kernel_rfl) ?_
  refine fin_retL [.cell 0 50] [(.agg (hv (tagL (sB (⟨#[101, 109, 112, 116, 121]⟩ : ByteArray)) ([] : List BSl))))] (.agg (hv (tagL (sB (⟨#[101, 109, 112, 116, 121]⟩ : ByteArray)) ([] : List BSl)))) (by kernel_rfl) (by rfl) ⟨ResOne.cellN (off := 0) (n := 32) (vs := (hv (tagL (sB (⟨#[101, 109, 112, 116, 121]⟩ : ByteArray)) ([] : List BSl)))) (by kernel_rfl) (by kernel_rfl) (by kernel_rfl) h22_ (by kernel_rfl) (by kernel_rfl), trivial⟩ (by rfl) ?_
  exact ⟨rfl, T25_⟩


end Go.Proofs.YtokdfjelilhekaaDoor
