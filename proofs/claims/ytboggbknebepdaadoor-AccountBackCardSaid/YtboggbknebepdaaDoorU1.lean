/- The walks of layer 14. -/
import Derived.Test.YtboggbknebepdaaDoorWY
import Derived.Test.YtboggbknebepdaaDoorWF
import Derived.Test.YtboggbknebepdaaDoorAcc
import Derived.Test.YtboggbknebepdaaDoorMaps
namespace Go.Proofs.YtboggbknebepdaaDoor
open Go Go.RowKit Go.Alm
noncomputable def aright_c_R0 : Array Oper := rAt Tryd.prog 36 [0]
noncomputable def aright_c_R1 : Array Oper := rAt Tryd.prog 36 [1, 0, 0]
noncomputable def aright_c_R2 : Array Oper := rAt Tryd.prog 36 [1, 0, 1, 0, 0, 0]
noncomputable def aright_c_R3 : Array Oper := rAt Tryd.prog 36 [1, 0, 1, 0, 0, 1, 1, 0, 0]
noncomputable def aright_c_R4 : Array Oper := rAt Tryd.prog 36 [1, 0, 1, 0, 0, 1, 1, 0, 1, 0]
noncomputable def aright_c_R5 : Array Oper := rAt Tryd.prog 36 [1, 0, 1, 0, 0, 1, 1, 0, 1, 1, 0, 0]
noncomputable def aright_c_R6 : Array Oper := rAt Tryd.prog 36 [1, 1, 0]
set_option maxRecDepth 100000 in
theorem aright_c (s : ByteArray) (bal : Nat) (non : Nat) (w : World) :
    Calls Tryd.prog 36 #[(.agg #[(.string s), (.int .u64 (bal : Int)), (.int .u32 (non : Int))])] w fun e w' => e = .returned (.bool (rightS s)) ∧ Fr w w' N0 := by
  refine c_enter (mk 26 [(0, (.agg #[(.string s), (.int .u64 (bal : Int)), (.int .u32 (non : Int))]))] (fun _ => undef)) Tryd.func36 (by kernel_rfl) (by kernel_rfl) ?_
  refine c_seq [0] [1] (by kernel_rfl) ?_
  refine c_reg 0 aright_c_R0 (by kernel_rfl) ?_
  refine at_do (by kernel_rfl) (op_new (.cells #[(.string s), (.int .u64 (bal : Int)), (.int .u32 (non : Int))] 60) (fun N => (.pointer (some ⟨N, 0, none⟩))) (fun _ => by kernel_rfl) (fun w2_ b1_ h3_ q4_ F5_ => ?_))
  have N6_ : New w N0 (One b1_) := New.made q4_ (Fr.size (Fr.refl w N0))
  have T7_ := Fr.tr (Fr.refl w N0) F5_
  refine at_pures 2 (by kernel_rfl) (by kernel_rfl) ?_
  refine at_done (by kernel_rfl) ?_
  refine then_n ?_
  refine c_seq [1, 0] [1, 1] (by kernel_rfl) ?_
  refine c_seq [1, 0, 0] [1, 0, 1] (by kernel_rfl) ?_
  refine c_reg 1 aright_c_R1 (by kernel_rfl) ?_
  refine at_pures 1 (by kernel_rfl) (by kernel_rfl) ?_
  refine at_load1 9 (.tmp 5) b1_ 0 _ _ _ (.string s) (by kernel_rfl) (by kernel_rfl) (by kernel_rfl) (by kernel_rfl) h3_ (by kernel_rfl) ?_
  refine at_do (by kernel_rfl) (op_new (.stringIter s 0) (fun N => .pointer (some ⟨N, 0, none⟩)) (fun _ => by kernel_rfl) (fun w9_ b8_ h10_ q11_ F12_ => ?_))
  have d13_ : Dis (One b8_) (One b1_) := Dis.fresh (New.one q11_) (In.one h3_)
  have N14_ : New w N0 (One b8_) := New.made q11_ (Fr.size T7_)
  have T15_ := Fr.tr T7_ F12_
  refine at_done (by kernel_rfl) ?_
  refine then_n ?_
  refine c_block 0 [1, 0, 1, 0] (by kernel_rfl) ?_
  have h16_ := Fr.keep F12_ h3_ Dis.n0
  refine c_loop (fun a w' => ∃ (i : Nat), (∃ u, a = mk 26 [(0, (.agg #[(.string s), (.int .u64 (bal : Int)), (.int .u32 (non : Int))])), (1, (.pointer (some ⟨b1_, 0, none⟩))), (5, (.pointer (some ⟨b1_, 0, none⟩))), (6, (.string s)), (7, (.pointer (some ⟨b8_, 0, none⟩)))] u) ∧ (i ≤ s.size) ∧ (((sB s).take i).all ltr = true) ∧ (w'.heap[b1_]? = some (.cells #[(.string s), (.int .u64 (bal : Int)), (.int .u32 (non : Int))] 60 (0, 0))) ∧ (w'.heap[b8_]? = some (.stringIter s i)) ∧ (Fr w w' N0)) (fun _ w_ => itPos b8_ w_) [1, 0, 1, 0, 0] (by kernel_rfl) ⟨0, is_mk (by kernel_rfl) (by kernel_rfl) (by kernel_rfl), ⟨Nat.zero_le _, rfl, h16_, h10_, T15_⟩⟩ ?_
  rintro a18_ w19_ ⟨i, ⟨u20_, rfl⟩, ⟨hi, hL, q_0L17_, q_1L17_, hFrL17_⟩⟩
  refine c_seq [1, 0, 1, 0, 0, 0] [1, 0, 1, 0, 0, 1] (by kernel_rfl) ?_
  refine c_reg 2 aright_c_R2 (by kernel_rfl) ?_
  by_cases hp21_ : i < s.size
  · by_cases hl22_ : (sB s).getD i 0 < 128
    · -- of one byte
      refine at_do (by kernel_rfl) (op_next_low (.tmp 7) b8_ i s (by kernel_rfl) (by kernel_rfl) q_1L17_ hp21_ hl22_ (fun w23_ h24_ z25_ F26_ => ?_))
      have T29_ := Fr.then hFrL17_ F26_ N14_
      have h30_ := Fr.keep F26_ q_0L17_ (Dis.sym d13_)
      refine at_pures 2 (by kernel_rfl) (by kernel_rfl) ?_
      refine at_done (by kernel_rfl) ?_
      refine then_n ?_
      refine c_seq [1, 0, 1, 0, 0, 1, 0] [1, 0, 1, 0, 0, 1, 1] (by kernel_rfl) ?_
      refine c_then (.tmp 9) [1, 0, 1, 0, 0, 1, 0, 0] [1, 0, 1, 0, 0, 1, 0, 1] (by kernel_rfl) (by kernel_rfl) ?_
      refine c_skip (by kernel_rfl) ?_
      refine then_n ?_
      refine c_block 1 [1, 0, 1, 0, 0, 1, 1, 0] (by kernel_rfl) ?_
      refine c_seq [1, 0, 1, 0, 0, 1, 1, 0, 0] [1, 0, 1, 0, 0, 1, 1, 0, 1] (by kernel_rfl) ?_
      refine c_reg 3 aright_c_R3 (by kernel_rfl) ?_
      refine at_pures 2 (by kernel_rfl) (by kernel_rfl) ?_
      refine at_done (by kernel_rfl) ?_
      refine then_n ?_
      refine c_seq [1, 0, 1, 0, 0, 1, 1, 0, 1, 0] [1, 0, 1, 0, 0, 1, 1, 0, 1, 1] (by kernel_rfl) ?_
      refine c_reg 4 aright_c_R4 (by kernel_rfl) ?_
      refine at_pures 2 (by kernel_rfl) (by kernel_rfl) ?_
      refine at_split (decide ((((sB s).getD i 0 : Nat) : Int) < (97 : Int))) (by kernel_rfl) (by kernel_rfl) (fun c31_ => ?_) (fun c31_ => ?_)
      · -- yes
        replace c31_ : (((sB s).getD i 0 : Nat) : Int) < (97 : Int) := of_decide_eq_true c31_
        refine at_pures 6 (by kernel_rfl) (by kernel_rfl) ?_
        refine at_done (by kernel_rfl) ?_
        refine then_n ?_
        refine c_then (.tmp 16) [1, 0, 1, 0, 0, 1, 1, 0, 1, 1, 0] [1, 0, 1, 0, 0, 1, 1, 0, 1, 1, 1] (by kernel_rfl) (by kernel_rfl) ?_
        refine c_seq [1, 0, 1, 0, 0, 1, 1, 0, 1, 1, 0, 0] [1, 0, 1, 0, 0, 1, 1, 0, 1, 1, 0, 1] (by kernel_rfl) ?_
        refine c_reg 5 aright_c_R5 (by kernel_rfl) ?_
        refine at_pures 1 (by kernel_rfl) (by kernel_rfl) ?_
        refine at_done (by kernel_rfl) ?_
        refine then_n ?_
        refine c_ret (by kernel_rfl) ?_
        refine blk_r ?_
        refine then_r ?_
        refine blk_r ?_
        refine then_r ?_
        refine fin_ret (.bool false) (by kernel_rfl) (by kernel_rfl) ?_
        exact ⟨(by first | rw [right_no (k := i) (by omega) (by omega)] | rw [right_size (by first | omega | (have := empty_eq (s := s) (by assumption); omega))]), T29_⟩
      · -- no
        replace c31_ : ¬ ((((sB s).getD i 0 : Nat) : Int) < (97 : Int)) := of_decide_eq_false c31_
        refine at_pures 6 (by kernel_rfl) (by kernel_rfl) ?_
        refine at_done (by kernel_rfl) ?_
        refine then_n ?_
        refine c_if (.tmp 16) (decide ((((sB s).getD i 0 : Nat) : Int) > (122 : Int))) [1, 0, 1, 0, 0, 1, 1, 0, 1, 1, 0] [1, 0, 1, 0, 0, 1, 1, 0, 1, 1, 1] (by kernel_rfl) (by kernel_rfl) (fun c32_ => ?_) (fun c32_ => ?_)
        · -- yes
          replace c32_ : (((sB s).getD i 0 : Nat) : Int) > (122 : Int) := of_decide_eq_true c32_
          refine c_seq [1, 0, 1, 0, 0, 1, 1, 0, 1, 1, 0, 0] [1, 0, 1, 0, 0, 1, 1, 0, 1, 1, 0, 1] (by kernel_rfl) ?_
          refine c_reg 5 aright_c_R5 (by kernel_rfl) ?_
          refine at_pures 1 (by kernel_rfl) (by kernel_rfl) ?_
          refine at_done (by kernel_rfl) ?_
          refine then_n ?_
          refine c_ret (by kernel_rfl) ?_
          refine blk_r ?_
          refine then_r ?_
          refine blk_r ?_
          refine then_r ?_
          refine fin_ret (.bool false) (by kernel_rfl) (by kernel_rfl) ?_
          exact ⟨(by first | rw [right_no (k := i) (by omega) (by omega)] | rw [right_size (by first | omega | (have := empty_eq (s := s) (by assumption); omega))]), T29_⟩
        · -- no
          replace c32_ : ¬ ((((sB s).getD i 0 : Nat) : Int) > (122 : Int)) := of_decide_eq_false c32_
          refine c_skip (by kernel_rfl) ?_
          refine blk_n ?_
          refine then_n ?_
          exact ⟨⟨i + 1, is_mk (by kernel_rfl) (by kernel_rfl) (by kernel_rfl), ⟨(by omega), (by first | exact all_step hL (by rw [sB_length]; omega) ⟨by omega, by omega⟩ | (exfalso; omega)), h30_, h24_, T29_⟩⟩, itPos_lt q_1L17_ h24_ (Nat.lt_succ_self i) (by omega)⟩
    · -- of more
      refine at_do (by kernel_rfl) (op_next_high (.tmp 7) b8_ i s (by kernel_rfl) (by kernel_rfl) q_1L17_ hp21_ hl22_ (fun w33_ c37_ p38_ hc37_ h34_ z35_ F36_ => ?_))
      have T39_ := Fr.then hFrL17_ F36_ N14_
      have h40_ := Fr.keep F36_ q_0L17_ (Dis.sym d13_)
      refine at_pures 2 (by kernel_rfl) (by kernel_rfl) ?_
      refine at_done (by kernel_rfl) ?_
      refine then_n ?_
      refine c_seq [1, 0, 1, 0, 0, 1, 0] [1, 0, 1, 0, 0, 1, 1] (by kernel_rfl) ?_
      refine c_then (.tmp 9) [1, 0, 1, 0, 0, 1, 0, 0] [1, 0, 1, 0, 0, 1, 0, 1] (by kernel_rfl) (by kernel_rfl) ?_
      refine c_skip (by kernel_rfl) ?_
      refine then_n ?_
      refine c_block 1 [1, 0, 1, 0, 0, 1, 1, 0] (by kernel_rfl) ?_
      refine c_seq [1, 0, 1, 0, 0, 1, 1, 0, 0] [1, 0, 1, 0, 0, 1, 1, 0, 1] (by kernel_rfl) ?_
      refine c_reg 3 aright_c_R3 (by kernel_rfl) ?_
      refine at_pures 2 (by kernel_rfl) (by kernel_rfl) ?_
      refine at_done (by kernel_rfl) ?_
      refine then_n ?_
      refine c_seq [1, 0, 1, 0, 0, 1, 1, 0, 1, 0] [1, 0, 1, 0, 0, 1, 1, 0, 1, 1] (by kernel_rfl) ?_
      refine c_reg 4 aright_c_R4 (by kernel_rfl) ?_
      refine at_pures 2 (by kernel_rfl) (by kernel_rfl) ?_
      refine at_split (decide ((c37_ : Int) < (97 : Int))) (by kernel_rfl) (by kernel_rfl) (fun c41_ => ?_) (fun c41_ => ?_)
      · -- yes
        replace c41_ : (c37_ : Int) < (97 : Int) := of_decide_eq_true c41_
        refine at_pures 6 (by kernel_rfl) (by kernel_rfl) ?_
        refine at_done (by kernel_rfl) ?_
        refine then_n ?_
        refine c_then (.tmp 16) [1, 0, 1, 0, 0, 1, 1, 0, 1, 1, 0] [1, 0, 1, 0, 0, 1, 1, 0, 1, 1, 1] (by kernel_rfl) (by kernel_rfl) ?_
        refine c_seq [1, 0, 1, 0, 0, 1, 1, 0, 1, 1, 0, 0] [1, 0, 1, 0, 0, 1, 1, 0, 1, 1, 0, 1] (by kernel_rfl) ?_
        refine c_reg 5 aright_c_R5 (by kernel_rfl) ?_
        refine at_pures 1 (by kernel_rfl) (by kernel_rfl) ?_
        refine at_done (by kernel_rfl) ?_
        refine then_n ?_
        refine c_ret (by kernel_rfl) ?_
        refine blk_r ?_
        refine then_r ?_
        refine blk_r ?_
        refine then_r ?_
        refine fin_ret (.bool false) (by kernel_rfl) (by kernel_rfl) ?_
        exact ⟨(by first | rw [right_no (k := i) (by omega) (by omega)] | rw [right_size (by first | omega | (have := empty_eq (s := s) (by assumption); omega))]), T39_⟩
      · -- no
        replace c41_ : ¬ ((c37_ : Int) < (97 : Int)) := of_decide_eq_false c41_
        refine at_pures 6 (by kernel_rfl) (by kernel_rfl) ?_
        refine at_done (by kernel_rfl) ?_
        refine then_n ?_
        refine c_if (.tmp 16) (decide ((c37_ : Int) > (122 : Int))) [1, 0, 1, 0, 0, 1, 1, 0, 1, 1, 0] [1, 0, 1, 0, 0, 1, 1, 0, 1, 1, 1] (by kernel_rfl) (by kernel_rfl) (fun c42_ => ?_) (fun c42_ => ?_)
        · -- yes
          replace c42_ : (c37_ : Int) > (122 : Int) := of_decide_eq_true c42_
          refine c_seq [1, 0, 1, 0, 0, 1, 1, 0, 1, 1, 0, 0] [1, 0, 1, 0, 0, 1, 1, 0, 1, 1, 0, 1] (by kernel_rfl) ?_
          refine c_reg 5 aright_c_R5 (by kernel_rfl) ?_
          refine at_pures 1 (by kernel_rfl) (by kernel_rfl) ?_
          refine at_done (by kernel_rfl) ?_
          refine then_n ?_
          refine c_ret (by kernel_rfl) ?_
          refine blk_r ?_
          refine then_r ?_
          refine blk_r ?_
          refine then_r ?_
          refine fin_ret (.bool false) (by kernel_rfl) (by kernel_rfl) ?_
          exact ⟨(by first | rw [right_no (k := i) (by omega) (by omega)] | rw [right_size (by first | omega | (have := empty_eq (s := s) (by assumption); omega))]), T39_⟩
        · -- no
          replace c42_ : ¬ ((c37_ : Int) > (122 : Int)) := of_decide_eq_false c42_
          refine c_skip (by kernel_rfl) ?_
          refine blk_n ?_
          refine then_n ?_
          exfalso; omega
  · -- at the end
    refine at_run (.tuple #[.bool false]) _ (by kernel_rfl) (run_over (.tmp 7) b8_ i s (by kernel_rfl) (by kernel_rfl) q_1L17_ hp21_) ?_
    refine at_pures 2 (by kernel_rfl) (by kernel_rfl) ?_
    refine at_done (by kernel_rfl) ?_
    refine then_n ?_
    refine c_seq [1, 0, 1, 0, 0, 1, 0] [1, 0, 1, 0, 0, 1, 1] (by kernel_rfl) ?_
    refine c_else (.tmp 9) [1, 0, 1, 0, 0, 1, 0, 0] [1, 0, 1, 0, 0, 1, 0, 1] (by kernel_rfl) (by kernel_rfl) ?_
    refine c_exit 0 (by kernel_rfl) ?_
    refine then_e ?_
    refine then_e ?_
    refine blk_hit ?_
    refine then_n ?_
    refine c_seq [1, 1, 0] [1, 1, 1] (by kernel_rfl) ?_
    refine c_reg 6 aright_c_R6 (by kernel_rfl) ?_
    refine at_pures 1 (by kernel_rfl) (by kernel_rfl) ?_
    refine at_load1 9 (.tmp 17) b1_ 0 _ _ _ (.string s) (by kernel_rfl) (by kernel_rfl) (by kernel_rfl) (by kernel_rfl) q_0L17_ (by kernel_rfl) ?_
    refine at_run (.bool (!(s == (⟨#[]⟩ : ByteArray)))) _ (by kernel_rfl) (run_eq_str false 9 (.tmp 18) (.const (.string (⟨#[]⟩ : ByteArray))) s (⟨#[]⟩ : ByteArray) (by kernel_rfl) (by kernel_rfl) (by kernel_rfl)) ?_
    refine at_split (!(s == (⟨#[]⟩ : ByteArray))) (by kernel_rfl) (by kernel_rfl) (fun c43_ => ?_) (fun c43_ => ?_)
    · -- yes
      replace c43_ : (s == (⟨#[]⟩ : ByteArray)) = false := by simpa using c43_
      replace c43_ : s ≠ (⟨#[]⟩ : ByteArray) := str_no c43_
      refine at_pures 5 (by kernel_rfl) (by kernel_rfl) ?_
      refine at_load1 9 (.tmp 21) b1_ 0 _ _ _ (.string s) (by kernel_rfl) (by kernel_rfl) (by kernel_rfl) (by kernel_rfl) q_0L17_ (by kernel_rfl) ?_
      refine at_pures 10 (by kernel_rfl) (by kernel_rfl) ?_
      refine at_done (by kernel_rfl) ?_
      refine then_n ?_
      refine c_ret (by kernel_rfl) ?_
      refine fin_ret (.bool (decide ((s.size : Int) ≤ (8 : Int)))) (by kernel_rfl) (by kernel_rfl) ?_
      exact ⟨(by have h0 := empty_size (s := s) (by assumption); by_cases h8 : s.size ≤ 8 <;> first | rw [right_yes hL (by omega) h0 h8, decide_eq_true (by omega)] | rw [right_size (by omega), decide_eq_false (by omega)]), hFrL17_⟩
    · -- no
      replace c43_ : (s == (⟨#[]⟩ : ByteArray)) = true := by simpa using c43_
      replace c43_ : s = (⟨#[]⟩ : ByteArray) := str_yes c43_
      refine at_pures 10 (by kernel_rfl) (by kernel_rfl) ?_
      refine at_done (by kernel_rfl) ?_
      refine then_n ?_
      refine c_ret (by kernel_rfl) ?_
      refine fin_ret (.bool false) (by kernel_rfl) (by kernel_rfl) ?_
      exact ⟨(by first | rw [right_no (k := i) (by omega) (by omega)] | rw [right_size (by first | omega | (have := empty_eq (s := s) (by assumption); omega))]), hFrL17_⟩

noncomputable def raright_c_R0 : Array Oper := rAt Tryd.prog 37 [0]
noncomputable def raright_c_R1 : Array Oper := rAt Tryd.prog 37 [1, 0, 0]
noncomputable def raright_c_R2 : Array Oper := rAt Tryd.prog 37 [1, 0, 1, 0, 0]
noncomputable def raright_c_R3 : Array Oper := rAt Tryd.prog 37 [1, 1, 0, 0]
noncomputable def raright_c_R4 : Array Oper := rAt Tryd.prog 37 [1, 1, 0, 1, 0, 0, 0, 0]
noncomputable def raright_c_R6 : Array Oper := rAt Tryd.prog 37 [1, 1, 0, 1, 0, 0, 1, 0, 0, 0]
noncomputable def raright_c_R7 : Array Oper := rAt Tryd.prog 37 [1, 1, 0, 1, 0, 0, 1, 0, 0, 1, 0, 0]
noncomputable def raright_c_R5 : Array Oper := rAt Tryd.prog 37 [1, 1, 0, 1, 0, 0, 1, 1]
noncomputable def raright_c_R8 : Array Oper := rAt Tryd.prog 37 [1, 1, 1, 0]
set_option maxRecDepth 100000 in
theorem raright_c (s : ByteArray) (bal : Nat) (non : Nat) (w : World) :
    Calls Tryd.prog 37 #[(.agg #[(.string s), (.int .u64 (bal : Int)), (.int .u32 (non : Int))])] w fun e w' => e = .returned (.bool (rightS s)) ∧ Fr w w' N0 := by
  refine c_enter (mk 33 [(0, (.agg #[(.string s), (.int .u64 (bal : Int)), (.int .u32 (non : Int))]))] (fun _ => undef)) Tryd.func37 (by kernel_rfl) (by kernel_rfl) ?_
  refine c_seq [0] [1] (by kernel_rfl) ?_
  refine c_reg 0 raright_c_R0 (by kernel_rfl) ?_
  refine at_do (by kernel_rfl) (op_new (.cells #[(.string s), (.int .u64 (bal : Int)), (.int .u32 (non : Int))] 61) (fun N => (.pointer (some ⟨N, 0, none⟩))) (fun _ => by kernel_rfl) (fun w2_ b1_ h3_ q4_ F5_ => ?_))
  have N6_ : New w N0 (One b1_) := New.made q4_ (Fr.size (Fr.refl w N0))
  have T7_ := Fr.tr (Fr.refl w N0) F5_
  refine at_pures 2 (by kernel_rfl) (by kernel_rfl) ?_
  refine at_done (by kernel_rfl) ?_
  refine then_n ?_
  refine c_seq [1, 0] [1, 1] (by kernel_rfl) ?_
  refine c_seq [1, 0, 0] [1, 0, 1] (by kernel_rfl) ?_
  refine c_reg 1 raright_c_R1 (by kernel_rfl) ?_
  refine at_pures 1 (by kernel_rfl) (by kernel_rfl) ?_
  refine at_load1 9 (.tmp 4) b1_ 0 _ _ _ (.string s) (by kernel_rfl) (by kernel_rfl) (by kernel_rfl) (by kernel_rfl) h3_ (by kernel_rfl) ?_
  refine at_pures 4 (by kernel_rfl) (by kernel_rfl) ?_
  refine at_split (decide ((s.size : Int) < (1 : Int))) (by kernel_rfl) (by kernel_rfl) (fun c8_ => ?_) (fun c8_ => ?_)
  · -- yes
    replace c8_ : (s.size : Int) < (1 : Int) := of_decide_eq_true c8_
    refine at_pures 10 (by kernel_rfl) (by kernel_rfl) ?_
    refine at_done (by kernel_rfl) ?_
    refine then_n ?_
    refine c_then (.tmp 13) [1, 0, 1, 0] [1, 0, 1, 1] (by kernel_rfl) (by kernel_rfl) ?_
    refine c_seq [1, 0, 1, 0, 0] [1, 0, 1, 0, 1] (by kernel_rfl) ?_
    refine c_reg 2 raright_c_R2 (by kernel_rfl) ?_
    refine at_pures 1 (by kernel_rfl) (by kernel_rfl) ?_
    refine at_done (by kernel_rfl) ?_
    refine then_n ?_
    refine c_ret (by kernel_rfl) ?_
    refine then_r ?_
    refine fin_ret (.bool false) (by kernel_rfl) (by kernel_rfl) ?_
    exact ⟨(by first | rw [right_size (by omega)] | rw [right_no (k := i) (by omega) (by omega)]), T7_⟩
  · -- no
    replace c8_ : ¬ ((s.size : Int) < (1 : Int)) := of_decide_eq_false c8_
    refine at_pures 6 (by kernel_rfl) (by kernel_rfl) ?_
    refine at_load1 9 (.tmp 9) b1_ 0 _ _ _ (.string s) (by kernel_rfl) (by kernel_rfl) (by kernel_rfl) (by kernel_rfl) h3_ (by kernel_rfl) ?_
    refine at_pures 10 (by kernel_rfl) (by kernel_rfl) ?_
    refine at_done (by kernel_rfl) ?_
    refine then_n ?_
    refine c_if (.tmp 13) (decide ((s.size : Int) > (8 : Int))) [1, 0, 1, 0] [1, 0, 1, 1] (by kernel_rfl) (by kernel_rfl) (fun c9_ => ?_) (fun c9_ => ?_)
    · -- yes
      replace c9_ : (s.size : Int) > (8 : Int) := of_decide_eq_true c9_
      refine c_seq [1, 0, 1, 0, 0] [1, 0, 1, 0, 1] (by kernel_rfl) ?_
      refine c_reg 2 raright_c_R2 (by kernel_rfl) ?_
      refine at_pures 1 (by kernel_rfl) (by kernel_rfl) ?_
      refine at_done (by kernel_rfl) ?_
      refine then_n ?_
      refine c_ret (by kernel_rfl) ?_
      refine then_r ?_
      refine fin_ret (.bool false) (by kernel_rfl) (by kernel_rfl) ?_
      exact ⟨(by first | rw [right_size (by omega)] | rw [right_no (k := i) (by omega) (by omega)]), T7_⟩
    · -- no
      replace c9_ : ¬ ((s.size : Int) > (8 : Int)) := of_decide_eq_false c9_
      refine c_skip (by kernel_rfl) ?_
      refine then_n ?_
      refine c_seq [1, 1, 0] [1, 1, 1] (by kernel_rfl) ?_
      refine c_seq [1, 1, 0, 0] [1, 1, 0, 1] (by kernel_rfl) ?_
      refine c_reg 3 raright_c_R3 (by kernel_rfl) ?_
      refine at_pures 1 (by kernel_rfl) (by kernel_rfl) ?_
      refine at_done (by kernel_rfl) ?_
      refine then_n ?_
      refine c_block 0 [1, 1, 0, 1, 0] (by kernel_rfl) ?_
      refine c_loop (fun a w' => ∃ (i : Nat), (∃ u, a = mk 33 [(0, (.agg #[(.string s), (.int .u64 (bal : Int)), (.int .u32 (non : Int))])), (1, (.pointer (some ⟨b1_, 0, none⟩))), (3, (.int .i64 (i : Int))), (4, (.pointer (some ⟨b1_, 0, none⟩))), (5, (.string s)), (6, (.int .i64 (s.size : Int))), (7, (.bool (decide ((s.size : Int) < (1 : Int))))), (8, (.bool false)), (9, (.pointer (some ⟨b1_, 0, none⟩))), (10, (.string s)), (11, (.int .i64 (s.size : Int))), (12, (.bool (decide ((s.size : Int) > (8 : Int))))), (13, (.bool (decide ((s.size : Int) > (8 : Int)))))] u) ∧ (i ≤ s.size) ∧ (((sB s).take i).all ltr = true) ∧ (w'.heap[b1_]? = some (.cells #[(.string s), (.int .u64 (bal : Int)), (.int .u32 (non : Int))] 61 (0, 0))) ∧ (Fr w w' N0)) (fun a _ => cnt (s.size) 3 a) [1, 1, 0, 1, 0, 0] (by kernel_rfl) ⟨0, is_mk (by kernel_rfl) (by kernel_rfl) (by kernel_rfl), ⟨Nat.zero_le _, rfl, h3_, T7_⟩⟩ ?_
      rintro a11_ w12_ ⟨i, ⟨u13_, rfl⟩, ⟨hi, hL, q_0L10_, hFrL10_⟩⟩
      refine c_seq [1, 1, 0, 1, 0, 0, 0] [1, 1, 0, 1, 0, 0, 1] (by kernel_rfl) ?_
      refine c_seq [1, 1, 0, 1, 0, 0, 0, 0] [1, 1, 0, 1, 0, 0, 0, 1] (by kernel_rfl) ?_
      refine c_reg 4 raright_c_R4 (by kernel_rfl) ?_
      refine at_pures 2 (by kernel_rfl) (by kernel_rfl) ?_
      refine at_load1 9 (.tmp 15) b1_ 0 _ _ _ (.string s) (by kernel_rfl) (by kernel_rfl) (by kernel_rfl) (by kernel_rfl) q_0L10_ (by kernel_rfl) ?_
      refine at_pures 5 (by kernel_rfl) (by kernel_rfl) ?_
      refine at_done (by kernel_rfl) ?_
      refine then_n ?_
      refine c_if (.tmp 18) (decide ((i : Int) < (s.size : Int))) [1, 1, 0, 1, 0, 0, 0, 1, 0] [1, 1, 0, 1, 0, 0, 0, 1, 1] (by kernel_rfl) (by kernel_rfl) (fun c14_ => ?_) (fun c14_ => ?_)
      · -- yes
        replace c14_ : (i : Int) < (s.size : Int) := of_decide_eq_true c14_
        refine c_skip (by kernel_rfl) ?_
        refine then_n ?_
        refine c_seq [1, 1, 0, 1, 0, 0, 1, 0] [1, 1, 0, 1, 0, 0, 1, 1] (by kernel_rfl) ?_
        refine c_block 1 [1, 1, 0, 1, 0, 0, 1, 0, 0] (by kernel_rfl) ?_
        refine c_seq [1, 1, 0, 1, 0, 0, 1, 0, 0, 0] [1, 1, 0, 1, 0, 0, 1, 0, 0, 1] (by kernel_rfl) ?_
        refine c_reg 6 raright_c_R6 (by kernel_rfl) ?_
        refine at_pures 1 (by kernel_rfl) (by kernel_rfl) ?_
        refine at_load1 9 (.tmp 21) b1_ 0 _ _ _ (.string s) (by kernel_rfl) (by kernel_rfl) (by kernel_rfl) (by kernel_rfl) q_0L10_ (by kernel_rfl) ?_
        refine at_pures 3 (by kernel_rfl) (by kernel_rfl) ?_
        refine at_run (.int .u8 (((sB s).getD i 0 : Nat) : Int)) _ (by kernel_rfl) (run_index_str 9 (.tmp 22) (.tmp 23) s .i64 i (by kernel_rfl) (by kernel_rfl) (by kernel_rfl) (by kernel_rfl) (by omega)) ?_
        refine at_pures 5 (by kernel_rfl) (by kernel_rfl) ?_
        refine at_split (decide ((((sB s).getD i 0 : Nat) : Int) < (97 : Int))) (by kernel_rfl) (by kernel_rfl) (fun c15_ => ?_) (fun c15_ => ?_)
        · -- yes
          replace c15_ : (((sB s).getD i 0 : Nat) : Int) < (97 : Int) := of_decide_eq_true c15_
          refine at_pures 12 (by kernel_rfl) (by kernel_rfl) ?_
          refine at_done (by kernel_rfl) ?_
          refine then_n ?_
          refine c_then (.tmp 32) [1, 1, 0, 1, 0, 0, 1, 0, 0, 1, 0] [1, 1, 0, 1, 0, 0, 1, 0, 0, 1, 1] (by kernel_rfl) (by kernel_rfl) ?_
          refine c_seq [1, 1, 0, 1, 0, 0, 1, 0, 0, 1, 0, 0] [1, 1, 0, 1, 0, 0, 1, 0, 0, 1, 0, 1] (by kernel_rfl) ?_
          refine c_reg 7 raright_c_R7 (by kernel_rfl) ?_
          refine at_pures 1 (by kernel_rfl) (by kernel_rfl) ?_
          refine at_done (by kernel_rfl) ?_
          refine then_n ?_
          refine c_ret (by kernel_rfl) ?_
          refine blk_r ?_
          refine then_r ?_
          refine then_r ?_
          refine blk_r ?_
          refine then_r ?_
          refine fin_ret (.bool false) (by kernel_rfl) (by kernel_rfl) ?_
          exact ⟨(by first | rw [right_size (by omega)] | rw [right_no (k := i) (by omega) (by omega)]), hFrL10_⟩
        · -- no
          replace c15_ : ¬ ((((sB s).getD i 0 : Nat) : Int) < (97 : Int)) := of_decide_eq_false c15_
          refine at_pures 7 (by kernel_rfl) (by kernel_rfl) ?_
          refine at_load1 9 (.tmp 27) b1_ 0 _ _ _ (.string s) (by kernel_rfl) (by kernel_rfl) (by kernel_rfl) (by kernel_rfl) q_0L10_ (by kernel_rfl) ?_
          refine at_pures 9 (by kernel_rfl) (by kernel_rfl) ?_
          refine at_run (.int .u8 (((sB s).getD i 0 : Nat) : Int)) _ (by kernel_rfl) (run_index_str 9 (.tmp 28) (.tmp 29) s .i64 i (by kernel_rfl) (by kernel_rfl) (by kernel_rfl) (by kernel_rfl) (by omega)) ?_
          refine at_pures 12 (by kernel_rfl) (by kernel_rfl) ?_
          refine at_done (by kernel_rfl) ?_
          refine then_n ?_
          refine c_if (.tmp 32) (decide ((((sB s).getD i 0 : Nat) : Int) > (122 : Int))) [1, 1, 0, 1, 0, 0, 1, 0, 0, 1, 0] [1, 1, 0, 1, 0, 0, 1, 0, 0, 1, 1] (by kernel_rfl) (by kernel_rfl) (fun c16_ => ?_) (fun c16_ => ?_)
          · -- yes
            replace c16_ : (((sB s).getD i 0 : Nat) : Int) > (122 : Int) := of_decide_eq_true c16_
            refine c_seq [1, 1, 0, 1, 0, 0, 1, 0, 0, 1, 0, 0] [1, 1, 0, 1, 0, 0, 1, 0, 0, 1, 0, 1] (by kernel_rfl) ?_
            refine c_reg 7 raright_c_R7 (by kernel_rfl) ?_
            refine at_pures 1 (by kernel_rfl) (by kernel_rfl) ?_
            refine at_done (by kernel_rfl) ?_
            refine then_n ?_
            refine c_ret (by kernel_rfl) ?_
            refine blk_r ?_
            refine then_r ?_
            refine then_r ?_
            refine blk_r ?_
            refine then_r ?_
            refine fin_ret (.bool false) (by kernel_rfl) (by kernel_rfl) ?_
            exact ⟨(by first | rw [right_size (by omega)] | rw [right_no (k := i) (by omega) (by omega)]), hFrL10_⟩
          · -- no
            replace c16_ : ¬ ((((sB s).getD i 0 : Nat) : Int) > (122 : Int)) := of_decide_eq_false c16_
            refine c_skip (by kernel_rfl) ?_
            refine blk_n ?_
            refine then_n ?_
            refine c_reg 5 raright_c_R5 (by kernel_rfl) ?_
            refine at_pures 1 (by kernel_rfl) (by kernel_rfl) ?_
            refine at_int (kd := .i64) (IntKind.i64.wrap ((i : Int) + (1 : Int))) ((i : Int) + (1 : Int)) (by kernel_rfl) (by kernel_rfl) (wrapN_i64 (by omega) (by omega)) ?_
            refine at_pures 3 (by kernel_rfl) (by kernel_rfl) ?_
            refine at_done (by kernel_rfl) ?_
            refine then_n ?_
            exact ⟨⟨i + 1, is_mk (by kernel_rfl) (by kernel_rfl) (by kernel_rfl), ⟨(by omega), all_step hL (by rw [sB_length]; omega) ⟨by omega, by omega⟩, q_0L10_, hFrL10_⟩⟩, cnt_lt (k := (i : Int)) (k' := ((i : Int) + (1 : Int))) (by kernel_rfl) (by kernel_rfl) (by omega) (by omega)⟩
      · -- no
        replace c14_ : ¬ ((i : Int) < (s.size : Int)) := of_decide_eq_false c14_
        refine c_exit 0 (by kernel_rfl) ?_
        refine then_e ?_
        refine then_e ?_
        refine blk_hit ?_
        refine then_n ?_
        refine c_seq [1, 1, 1, 0] [1, 1, 1, 1] (by kernel_rfl) ?_
        refine c_reg 8 raright_c_R8 (by kernel_rfl) ?_
        refine at_pures 1 (by kernel_rfl) (by kernel_rfl) ?_
        refine at_done (by kernel_rfl) ?_
        refine then_n ?_
        refine c_ret (by kernel_rfl) ?_
        refine fin_ret (.bool true) (by kernel_rfl) (by kernel_rfl) ?_
        exact ⟨(by rw [right_yes hL (by omega) (by omega) (by omega)]), hFrL10_⟩

noncomputable def abytes_c_R0 : Array Oper := rAt Tryd.prog 30 [0]
noncomputable def abytes_c_R1 : Array Oper := rAt Tryd.prog 30 [1, 0, 0]
noncomputable def abytes_c_R2 : Array Oper := rAt Tryd.prog 30 [1, 0, 1, 0, 0]
noncomputable def abytes_c_R3 : Array Oper := rAt Tryd.prog 30 [1, 1, 0]
noncomputable def abytes_c_R4 : Array Oper := rAt Tryd.prog 30 [1, 1, 1, 0]
noncomputable def abytes_c_R5 : Array Oper := rAt Tryd.prog 30 [1, 1, 1, 1, 0]
noncomputable def abytes_c_R6 : Array Oper := rAt Tryd.prog 30 [1, 1, 1, 1, 1, 0]
noncomputable def abytes_c_R7 : Array Oper := rAt Tryd.prog 30 [1, 1, 1, 1, 1, 1, 0]
set_option maxRecDepth 100000 in
theorem abytes_c (s : ByteArray) (bal : Nat) (non : Nat) (w : World) (hbal : bal < 18446744073709551616) (hnon : non < 4294967296) :
    Calls Tryd.prog 30 #[(.agg #[(.string s), (.int .u64 (bal : Int)), (.int .u32 (non : Int))])] w fun e w' => ∃ (v_out' : Value), e = .returned (.tuple #[v_out', (.int .i64 ((accE s : Nat) : Int))]) ∧ Row w' 5 1 v_out' ((accB s bal non).length) (B (accB s bal non)) ∧ Fr w w' N0 ∧ New w N0 (Own v_out') := by
  refine c_enter (mk 25 [(0, (.agg #[(.string s), (.int .u64 (bal : Int)), (.int .u32 (non : Int))]))] (fun _ => undef)) Tryd.func30 (by kernel_rfl) (by kernel_rfl) ?_
  refine c_seq [0] [1] (by kernel_rfl) ?_
  refine c_reg 0 abytes_c_R0 (by kernel_rfl) ?_
  refine at_do (by kernel_rfl) (op_new (.cells #[(.string s), (.int .u64 (bal : Int)), (.int .u32 (non : Int))] 60) (fun N => (.pointer (some ⟨N, 0, none⟩))) (fun _ => by kernel_rfl) (fun w2_ b1_ h3_ q4_ F5_ => ?_))
  have N6_ : New w N0 (One b1_) := New.made q4_ (Fr.size (Fr.refl w N0))
  have T7_ := Fr.tr (Fr.refl w N0) F5_
  refine at_pures 3 (by kernel_rfl) (by kernel_rfl) ?_
  refine at_done (by kernel_rfl) ?_
  refine then_n ?_
  refine c_seq [1, 0] [1, 1] (by kernel_rfl) ?_
  refine c_seq [1, 0, 0] [1, 0, 1] (by kernel_rfl) ?_
  refine c_reg 1 abytes_c_R1 (by kernel_rfl) ?_
  refine at_loadN 60 (.tmp 1) b1_ 0 3 _ _ _ #[(.string s), (.int .u64 (bal : Int)), (.int .u32 (non : Int))] (by kernel_rfl) (by kernel_rfl) (by kernel_rfl) (by kernel_rfl) (by kernel_rfl) h3_ (by kernel_rfl) (by kernel_rfl) ?_
  refine at_do (by kernel_rfl) (op_call 36 #[(.tmp 5)] #[(.agg #[(.string s), (.int .u64 (bal : Int)), (.int .u32 (non : Int))])] (by kernel_rfl) (by kernel_rfl) (by kernel_rfl) ?_)
  have C12_ := aright_c s bal non w2_   
  refine Calls.mono C12_ ?_
  rintro e11_ w9_ ⟨rfl, F10_⟩
  refine ⟨_, rfl, ?_⟩
  have T13_ := Fr.tr T7_ F10_
  have h14_ := Fr.keep F10_ h3_ Dis.n0
  refine at_pures 3 (by kernel_rfl) (by kernel_rfl) ?_
  refine at_done (by kernel_rfl) ?_
  refine then_n ?_
  refine c_if (.tmp 7) (!(rightS s)) [1, 0, 1, 0] [1, 0, 1, 1] (by kernel_rfl) (by kernel_rfl) (fun c15_ => ?_) (fun c15_ => ?_)
  · -- yes
    replace c15_ : (rightS s) = false := by simpa using c15_
    refine c_seq [1, 0, 1, 0, 0] [1, 0, 1, 0, 1] (by kernel_rfl) ?_
    refine c_reg 2 abytes_c_R2 (by kernel_rfl) ?_
    refine at_pures 2 (by kernel_rfl) (by kernel_rfl) ?_
    refine at_done (by kernel_rfl) ?_
    refine then_n ?_
    refine c_ret (by kernel_rfl) ?_
    refine then_r ?_
    refine fin_ret (.tuple #[(.slice none 0 0), (.int .i64 1)]) (by kernel_rfl) (by kernel_rfl) ?_
    rw [show (accB s bal non) = [] from accB_no (by assumption)]
    have h16_ : Row w9_ 5 1 (.slice none 0 0) 0 [] := Row.nil _ _ _
    exact ⟨(.slice none 0 0), (by rw [accE_no (by assumption)]; rfl), h16_, T13_, (by rw [Own_nil]; exact fun _ h => h.elim)⟩
  · -- no
    replace c15_ : (rightS s) = true := by simpa using c15_
    refine c_skip (by kernel_rfl) ?_
    refine then_n ?_
    refine c_seq [1, 1, 0] [1, 1, 1] (by kernel_rfl) ?_
    refine c_reg 3 abytes_c_R3 (by kernel_rfl) ?_
    refine at_pures 1 (by kernel_rfl) (by kernel_rfl) ?_
    refine at_do (by kernel_rfl) (op_new (.cells #[(.slice none 0 0)] 89) (fun N => (.pointer (some ⟨N, 0, none⟩))) (fun _ => by kernel_rfl) (fun w19_ b18_ h20_ q21_ F22_ => ?_))
    have d23_ : Dis (One b18_) (One b1_) := Dis.fresh (New.one q21_) (In.one h14_)
    have N24_ : New w N0 (One b18_) := New.made q21_ (Fr.size T13_)
    have T25_ := Fr.tr T13_ F22_
    refine at_pures 3 (by kernel_rfl) (by kernel_rfl) ?_
    refine at_done (by kernel_rfl) ?_
    refine then_n ?_
    refine c_seq [1, 1, 1, 0] [1, 1, 1, 1] (by kernel_rfl) ?_
    refine c_reg 4 abytes_c_R4 (by kernel_rfl) ?_
    refine at_pures 2 (by kernel_rfl) (by kernel_rfl) ?_
    have h26_ := Fr.keep F22_ h14_ Dis.n0
    refine at_load1 9 (.tmp 11) b1_ 0 _ _ _ (.string s) (by kernel_rfl) (by kernel_rfl) (by kernel_rfl) (by kernel_rfl) h26_ (by kernel_rfl) ?_
    refine at_do (by kernel_rfl) (op_str_bytes 9 22 5 (.tmp 12) s (by kernel_rfl) (by kernel_rfl) (by kernel_rfl) (by kernel_rfl) (by kernel_rfl) (fun w29_ b27_ n28_ h30_ q31_ F32_ hi33_ hn34_ => ?_))
    have d35_ : Dis (One b27_) (One b1_) := Dis.fresh (New.one q31_) (In.one h26_)
    have d36_ : Dis (One b27_) (One b18_) := Dis.fresh (New.one q31_) (In.one h20_)
    have N37_ : New w N0 (One b27_) := New.made q31_ (Fr.size T25_)
    have T38_ := Fr.tr T25_ F32_
    have hsz := right_spec (s := s) (by assumption); have hsl := sB_length s; have htw := textW_len (sB s)
    have h39_ := Fr.keep F32_ h26_ Dis.n0
    have h40_ := Fr.keep F32_ h20_ Dis.n0
    have h41_ : WrAt 5 89 w29_ b18_ (.slice none 0 0) [] := WrAt.nil h40_
    refine at_do (by kernel_rfl) (op_call 44 #[(.tmp 10), (.tmp 13)] #[(.pointer (some ⟨b18_, 0, none⟩)), (.slice (some ⟨b27_, 0, none⟩) ((sB s).length) n28_)] (by kernel_rfl) (by kernel_rfl) (by kernel_rfl) ?_)
    have C48_ := text_c b18_ (.slice none 0 0) [] (.slice (some ⟨b27_, 0, none⟩) ((sB s).length) n28_) (sB s) w29_ h41_ (by first | omega | (simp only [List.length_append, List.length_cons, List.length_nil, putB_length]; omega)) (by omega) ⟨_, _, rfl, h30_⟩ (Dis.sym (Dis.wrNil (Dis.sym (Sub.dis Sub.arOne d36_))))
    refine Calls.mono C48_ ?_
    rintro e47_ w45_ ⟨rfl, v42_, h43_, F46_, N44_⟩
    refine ⟨_, rfl, ?_⟩
    have T49_ := Fr.then T38_ F46_ (New.wrNil N24_)
    have d50_ : Dis (wrS b18_ v42_) (One b1_) := Dis.step (Dis.wrNil d23_) N44_ (In.one h39_)
    have h51_ := Fr.keep F46_ h39_ (Dis.sym (Dis.wrNil d23_))
    have d52_ : Dis (wrS b18_ v42_) (Ar (some ⟨b27_, 0, none⟩) (B (sB s))) := Dis.step (Dis.wrNil (Dis.sym (Sub.dis Sub.arOne d36_))) N44_ (Rd.in h30_)
    have h53_ := Rd.keep' h30_ F46_ (Dis.sym (Dis.wrNil (Dis.sym (Sub.dis Sub.arOne d36_))))
    have N54_ : New w N0 (wrS b18_ v42_) := New.trans (New.wrNil N24_) N44_ (Fr.size T38_)
    refine at_done (by kernel_rfl) ?_
    refine then_n ?_
    refine c_seq [1, 1, 1, 1, 0] [1, 1, 1, 1, 1] (by kernel_rfl) ?_
    refine c_reg 5 abytes_c_R5 (by kernel_rfl) ?_
    refine at_pures 2 (by kernel_rfl) (by kernel_rfl) ?_
    refine at_load1 34 (.tmp 16) b1_ 1 _ _ _ (.int .u64 (bal : Int)) (by kernel_rfl) (by kernel_rfl) (by kernel_rfl) (by kernel_rfl) h51_ (by kernel_rfl) ?_
    refine at_do (by kernel_rfl) (op_call 45 #[(.tmp 15), (.tmp 17)] #[(.pointer (some ⟨b18_, 0, none⟩)), (.int .u64 (bal : Int))] (by kernel_rfl) (by kernel_rfl) (by kernel_rfl) ?_)
    have C61_ := long_c b18_ v42_ ([] ++ textW (sB s)) bal w45_ h43_ (by first | omega | (simp only [List.length_append, List.length_cons, List.length_nil, putB_length]; omega)) (by omega)
    refine Calls.mono C61_ ?_
    rintro e60_ w58_ ⟨rfl, v55_, h56_, F59_, N57_⟩
    refine ⟨_, rfl, ?_⟩
    have T62_ := Fr.then T49_ F59_ N54_
    have d63_ : Dis (wrS b18_ v55_) (One b1_) := Dis.step d50_ N57_ (In.one h51_)
    have h64_ := Fr.keep F59_ h51_ (Dis.sym d50_)
    have d65_ : Dis (wrS b18_ v55_) (Ar (some ⟨b27_, 0, none⟩) (B (sB s))) := Dis.step d52_ N57_ (Rd.in h53_)
    have h66_ := Rd.keep' h53_ F59_ (Dis.sym d52_)
    have N67_ : New w N0 (wrS b18_ v55_) := New.trans N54_ N57_ (Fr.size T49_)
    refine at_done (by kernel_rfl) ?_
    refine then_n ?_
    refine c_seq [1, 1, 1, 1, 1, 0] [1, 1, 1, 1, 1, 1] (by kernel_rfl) ?_
    refine c_reg 6 abytes_c_R6 (by kernel_rfl) ?_
    refine at_pures 2 (by kernel_rfl) (by kernel_rfl) ?_
    refine at_load1 58 (.tmp 20) b1_ 2 _ _ _ (.int .u32 (non : Int)) (by kernel_rfl) (by kernel_rfl) (by kernel_rfl) (by kernel_rfl) h64_ (by kernel_rfl) ?_
    refine at_do (by kernel_rfl) (op_call 46 #[(.tmp 19), (.tmp 21)] #[(.pointer (some ⟨b18_, 0, none⟩)), (.int .u32 (non : Int))] (by kernel_rfl) (by kernel_rfl) (by kernel_rfl) ?_)
    have C74_ := num_c b18_ v55_ ([] ++ textW (sB s) ++ putB bal 8 8) non w58_ h56_ (by first | omega | (simp only [List.length_append, List.length_cons, List.length_nil, putB_length]; omega)) (by omega)
    refine Calls.mono C74_ ?_
    rintro e73_ w71_ ⟨rfl, v68_, h69_, F72_, N70_⟩
    refine ⟨_, rfl, ?_⟩
    have T75_ := Fr.then T62_ F72_ N67_
    have d76_ : Dis (wrS b18_ v68_) (One b1_) := Dis.step d63_ N70_ (In.one h64_)
    have h77_ := Fr.keep F72_ h64_ (Dis.sym d63_)
    have d78_ : Dis (wrS b18_ v68_) (Ar (some ⟨b27_, 0, none⟩) (B (sB s))) := Dis.step d65_ N70_ (Rd.in h66_)
    have h79_ := Rd.keep' h66_ F72_ (Dis.sym d65_)
    have N80_ : New w N0 (wrS b18_ v68_) := New.trans N67_ N70_ (Fr.size T62_)
    refine at_done (by kernel_rfl) ?_
    refine then_n ?_
    refine c_seq [1, 1, 1, 1, 1, 1, 0] [1, 1, 1, 1, 1, 1, 1] (by kernel_rfl) ?_
    refine c_reg 7 abytes_c_R7 (by kernel_rfl) ?_
    refine at_pures 1 (by kernel_rfl) (by kernel_rfl) ?_
    refine at_do (by kernel_rfl) (op_call 47 #[(.tmp 23)] #[(.pointer (some ⟨b18_, 0, none⟩))] (by kernel_rfl) (by kernel_rfl) (by kernel_rfl) ?_)
    have C88_ := bytes_c b18_ v68_ ([] ++ textW (sB s) ++ putB bal 8 8 ++ putB non 4 4) w71_ h69_  (by first | omega | (simp only [List.length_append, List.length_nil, List.length_cons, putB_length]; omega) | with_reducible assumption)
    refine Calls.mono C88_ ?_
    rintro e87_ w85_ ⟨vout81_, rfl, h82_, F86_, h84_⟩
    refine ⟨_, rfl, ?_⟩
    have d89_ : Dis (Own vout81_) (One b1_) := Dis.fresh h84_ (In.one h77_)
    have d90_ : Dis (Own vout81_) (Ar (some ⟨b27_, 0, none⟩) (B (sB s))) := Dis.fresh h84_ (Rd.in h79_)
    have d91_ : Dis (Own vout81_) (wrS b18_ v68_) := Dis.fresh h84_ (WrAt.in h69_)
    have T92_ := Fr.tr T75_ F86_
    have h93_ := Fr.keep F86_ h77_ Dis.n0
    have h94_ := Rd.keep' h79_ F86_ Dis.n0
    have h95_ := WrAt.keep h69_ F86_ Dis.n0
    have N97_ : New w N0 (Own vout81_) := New.later' h84_ (Fr.size T75_)
    obtain ⟨ao98_, cap99_, rfl, hc100_, hm101_, hR102_, ho103_⟩ := Row.read h82_
    refine at_pures 4 (by kernel_rfl) (by kernel_rfl) ?_
    refine at_done (by kernel_rfl) ?_
    refine then_n ?_
    refine c_ret (by kernel_rfl) ?_
    refine fin_ret (.tuple #[(.slice ao98_ (([] ++ textW (sB s) ++ putB bal 8 8 ++ putB non 4 4).length) cap99_), (.int .i64 0)]) (by kernel_rfl) (by kernel_rfl) ?_
    have hA : (accB s bal non) = ([] ++ textW (sB s) ++ putB bal 8 8 ++ putB non 4 4) := by rw [accB_yes (by assumption)]; first | rfl | (rw [← accL_ref (by assumption), List.take_of_length_le (by rw [sB_length]; omega)])
    rw [hA]
    exact ⟨(.slice ao98_ (([] ++ textW (sB s) ++ putB bal 8 8 ++ putB non 4 4).length) cap99_), (by rw [accE_yes (by assumption)]; rfl), h82_, T92_, N97_⟩

noncomputable def rabytes_c_R0 : Array Oper := rAt Tryd.prog 31 [0]
noncomputable def rabytes_c_R1 : Array Oper := rAt Tryd.prog 31 [1, 0, 0]
noncomputable def rabytes_c_R2 : Array Oper := rAt Tryd.prog 31 [1, 0, 1, 0, 0]
noncomputable def rabytes_c_R3 : Array Oper := rAt Tryd.prog 31 [1, 1, 0]
noncomputable def rabytes_c_R4 : Array Oper := rAt Tryd.prog 31 [1, 1, 1, 0, 0]
noncomputable def rabytes_c_R5 : Array Oper := rAt Tryd.prog 31 [1, 1, 1, 0, 1, 0, 0, 0, 0]
noncomputable def rabytes_c_R7 : Array Oper := rAt Tryd.prog 31 [1, 1, 1, 0, 1, 0, 0, 1, 0, 0]
noncomputable def rabytes_c_R6 : Array Oper := rAt Tryd.prog 31 [1, 1, 1, 0, 1, 0, 0, 1, 1]
noncomputable def rabytes_c_R8 : Array Oper := rAt Tryd.prog 31 [1, 1, 1, 1, 0]
noncomputable def rabytes_c_R9 : Array Oper := rAt Tryd.prog 31 [1, 1, 1, 1, 1, 0]
set_option maxRecDepth 100000 in
theorem rabytes_c (s : ByteArray) (bal : Nat) (non : Nat) (w : World) (hbal : bal < 18446744073709551616) (hnon : non < 4294967296) :
    Calls Tryd.prog 31 #[(.agg #[(.string s), (.int .u64 (bal : Int)), (.int .u32 (non : Int))])] w fun e w' => ∃ (v_out' : Value), e = .returned (.tuple #[v_out', (.int .i64 ((accE s : Nat) : Int))]) ∧ Row w' 5 1 v_out' ((accB s bal non).length) (B (accB s bal non)) ∧ Fr w w' N0 ∧ New w N0 (Own v_out') := by
  refine c_enter (mk 39 [(0, (.agg #[(.string s), (.int .u64 (bal : Int)), (.int .u32 (non : Int))]))] (fun _ => undef)) Tryd.func31 (by kernel_rfl) (by kernel_rfl) ?_
  refine c_seq [0] [1] (by kernel_rfl) ?_
  refine c_reg 0 rabytes_c_R0 (by kernel_rfl) ?_
  refine at_do (by kernel_rfl) (op_new (.cells #[(.string s), (.int .u64 (bal : Int)), (.int .u32 (non : Int))] 61) (fun N => (.pointer (some ⟨N, 0, none⟩))) (fun _ => by kernel_rfl) (fun w2_ b1_ h3_ q4_ F5_ => ?_))
  have N6_ : New w N0 (One b1_) := New.made q4_ (Fr.size (Fr.refl w N0))
  have T7_ := Fr.tr (Fr.refl w N0) F5_
  refine at_pures 3 (by kernel_rfl) (by kernel_rfl) ?_
  refine at_done (by kernel_rfl) ?_
  refine then_n ?_
  refine c_seq [1, 0] [1, 1] (by kernel_rfl) ?_
  refine c_seq [1, 0, 0] [1, 0, 1] (by kernel_rfl) ?_
  refine c_reg 1 rabytes_c_R1 (by kernel_rfl) ?_
  refine at_loadN 61 (.tmp 1) b1_ 0 3 _ _ _ #[(.string s), (.int .u64 (bal : Int)), (.int .u32 (non : Int))] (by kernel_rfl) (by kernel_rfl) (by kernel_rfl) (by kernel_rfl) (by kernel_rfl) h3_ (by kernel_rfl) (by kernel_rfl) ?_
  refine at_do (by kernel_rfl) (op_call 37 #[(.tmp 6)] #[(.agg #[(.string s), (.int .u64 (bal : Int)), (.int .u32 (non : Int))])] (by kernel_rfl) (by kernel_rfl) (by kernel_rfl) ?_)
  have C12_ := raright_c s bal non w2_   
  refine Calls.mono C12_ ?_
  rintro e11_ w9_ ⟨rfl, F10_⟩
  refine ⟨_, rfl, ?_⟩
  have T13_ := Fr.tr T7_ F10_
  have h14_ := Fr.keep F10_ h3_ Dis.n0
  refine at_pures 3 (by kernel_rfl) (by kernel_rfl) ?_
  refine at_done (by kernel_rfl) ?_
  refine then_n ?_
  refine c_if (.tmp 8) (!(rightS s)) [1, 0, 1, 0] [1, 0, 1, 1] (by kernel_rfl) (by kernel_rfl) (fun c15_ => ?_) (fun c15_ => ?_)
  · -- yes
    replace c15_ : (rightS s) = false := by simpa using c15_
    refine c_seq [1, 0, 1, 0, 0] [1, 0, 1, 0, 1] (by kernel_rfl) ?_
    refine c_reg 2 rabytes_c_R2 (by kernel_rfl) ?_
    refine at_pures 2 (by kernel_rfl) (by kernel_rfl) ?_
    refine at_done (by kernel_rfl) ?_
    refine then_n ?_
    refine c_ret (by kernel_rfl) ?_
    refine then_r ?_
    refine fin_ret (.tuple #[(.slice none 0 0), (.int .i64 1)]) (by kernel_rfl) (by kernel_rfl) ?_
    rw [show (accB s bal non) = [] from accB_no (by assumption)]
    have h16_ : Row w9_ 5 1 (.slice none 0 0) 0 [] := Row.nil _ _ _
    exact ⟨(.slice none 0 0), (by rw [accE_no (by assumption)]; rfl), h16_, T13_, (by rw [Own_nil]; exact fun _ h => h.elim)⟩
  · -- no
    replace c15_ : (rightS s) = true := by simpa using c15_
    refine c_skip (by kernel_rfl) ?_
    refine then_n ?_
    refine c_seq [1, 1, 0] [1, 1, 1] (by kernel_rfl) ?_
    refine c_reg 3 rabytes_c_R3 (by kernel_rfl) ?_
    refine at_pures 1 (by kernel_rfl) (by kernel_rfl) ?_
    refine at_load1 9 (.tmp 9) b1_ 0 _ _ _ (.string s) (by kernel_rfl) (by kernel_rfl) (by kernel_rfl) (by kernel_rfl) h14_ (by kernel_rfl) ?_
    refine at_pures 3 (by kernel_rfl) (by kernel_rfl) ?_
    have hsz := right_spec (s := s) (by assumption); have hsl := sB_length s
    refine at_int (kd := .u8) (IntKind.u8.wrap ((s.size : Int))) ((s.size : Int)) (by kernel_rfl) (by kernel_rfl) (wrapN_u8 (by omega) (by omega)) ?_
    refine at_do (by kernel_rfl) (op_new (.cells #[(.int .u8 (s.size : Int))] 5) (fun N => (.slice (some ⟨N, 0, none⟩) 1 1)) (fun _ => by kernel_rfl) (fun w19_ b18_ h20_ q21_ F22_ => ?_))
    have d23_ : Dis (One b18_) (One b1_) := Dis.fresh (New.one q21_) (In.one h14_)
    have N24_ : New w N0 (One b18_) := New.made q21_ (Fr.size T13_)
    have T25_ := Fr.tr T13_ F22_
    refine at_pures 6 (by kernel_rfl) (by kernel_rfl) ?_
    refine at_done (by kernel_rfl) ?_
    refine then_n ?_
    refine c_seq [1, 1, 1, 0] [1, 1, 1, 1] (by kernel_rfl) ?_
    refine c_seq [1, 1, 1, 0, 0] [1, 1, 1, 0, 1] (by kernel_rfl) ?_
    refine c_reg 4 rabytes_c_R4 (by kernel_rfl) ?_
    refine at_pures 1 (by kernel_rfl) (by kernel_rfl) ?_
    refine at_done (by kernel_rfl) ?_
    refine then_n ?_
    refine c_block 0 [1, 1, 1, 0, 1, 0] (by kernel_rfl) ?_
    have h26_ := Fr.keep F22_ h14_ Dis.n0
    have h27_ : Row w19_ 5 1 (.slice (some ⟨b18_, 0, none⟩) 1 1) 1 ((#[(.int .u8 (s.size : Int))]).toList) := Row.made' h20_ (by rfl) (by decide) (by decide) (by rfl)
    refine c_loop (fun a w' => ∃ (i : Nat), ∃ (vi : Value), (∃ u, a = mk 39 [(0, (.agg #[(.string s), (.int .u64 (bal : Int)), (.int .u32 (non : Int))])), (1, (.pointer (some ⟨b1_, 0, none⟩))), (2, (.slice none 0 0)), (3, (.int .i64 0)), (4, vi), (5, (.int .i64 (i : Int))), (6, (.agg #[(.string s), (.int .u64 (bal : Int)), (.int .u32 (non : Int))])), (7, (.bool (rightS s))), (8, (.bool (!(rightS s)))), (9, (.pointer (some ⟨b1_, 0, none⟩))), (10, (.string s)), (11, (.int .i64 (s.size : Int))), (12, (.int .u8 (s.size : Int))), (13, (.slice (some ⟨b18_, 0, none⟩) 1 1))] u) ∧ (i ≤ s.size) ∧ (w'.heap[b1_]? = some (.cells #[(.string s), (.int .u64 (bal : Int)), (.int .u32 (non : Int))] 61 (0, 0))) ∧ (Row w' 5 1 vi (([s.size] ++ (sB s).take i).length) (B ([s.size] ++ (sB s).take i))) ∧ (Dis (One b1_) (Own vi)) ∧ (New w N0 (Own vi)) ∧ (Fr w w' N0)) (fun a _ => cnt (s.size) 5 a) [1, 1, 1, 0, 1, 0, 0] (by kernel_rfl) ⟨0, _, is_mk (by kernel_rfl) (by kernel_rfl) (by kernel_rfl), ⟨Nat.zero_le _, h26_, (by exact h27_), (Dis.sym (Dis.own d23_)), (New.own N24_), T25_⟩⟩ ?_
    rintro a29_ w30_ ⟨i, vi, ⟨u31_, rfl⟩, ⟨hi, q_0L28_, q_1L28_, d_0_1L28_, n_1L28_, hFrL28_⟩⟩
    refine c_seq [1, 1, 1, 0, 1, 0, 0, 0] [1, 1, 1, 0, 1, 0, 0, 1] (by kernel_rfl) ?_
    refine c_seq [1, 1, 1, 0, 1, 0, 0, 0, 0] [1, 1, 1, 0, 1, 0, 0, 0, 1] (by kernel_rfl) ?_
    refine c_reg 5 rabytes_c_R5 (by kernel_rfl) ?_
    refine at_pures 2 (by kernel_rfl) (by kernel_rfl) ?_
    refine at_load1 9 (.tmp 15) b1_ 0 _ _ _ (.string s) (by kernel_rfl) (by kernel_rfl) (by kernel_rfl) (by kernel_rfl) q_0L28_ (by kernel_rfl) ?_
    refine at_pures 5 (by kernel_rfl) (by kernel_rfl) ?_
    refine at_done (by kernel_rfl) ?_
    refine then_n ?_
    refine c_if (.tmp 18) (decide ((i : Int) < (s.size : Int))) [1, 1, 1, 0, 1, 0, 0, 0, 1, 0] [1, 1, 1, 0, 1, 0, 0, 0, 1, 1] (by kernel_rfl) (by kernel_rfl) (fun c32_ => ?_) (fun c32_ => ?_)
    · -- yes
      replace c32_ : (i : Int) < (s.size : Int) := of_decide_eq_true c32_
      refine c_skip (by kernel_rfl) ?_
      refine then_n ?_
      refine c_seq [1, 1, 1, 0, 1, 0, 0, 1, 0] [1, 1, 1, 0, 1, 0, 0, 1, 1] (by kernel_rfl) ?_
      refine c_block 1 [1, 1, 1, 0, 1, 0, 0, 1, 0, 0] (by kernel_rfl) ?_
      refine c_reg 7 rabytes_c_R7 (by kernel_rfl) ?_
      refine at_pures 2 (by kernel_rfl) (by kernel_rfl) ?_
      refine at_load1 9 (.tmp 22) b1_ 0 _ _ _ (.string s) (by kernel_rfl) (by kernel_rfl) (by kernel_rfl) (by kernel_rfl) q_0L28_ (by kernel_rfl) ?_
      refine at_pures 4 (by kernel_rfl) (by kernel_rfl) ?_
      refine at_run (.int .u8 (((sB s).getD i 0 : Nat) : Int)) _ (by kernel_rfl) (run_index_str 9 (.tmp 23) (.tmp 24) s .i64 i (by kernel_rfl) (by kernel_rfl) (by kernel_rfl) (by kernel_rfl) (by omega)) ?_
      refine at_do (by kernel_rfl) (op_new (.cells #[(.int .u8 (((sB s).getD i 0 : Nat) : Int))] 5) (fun N => (.slice (some ⟨N, 0, none⟩) 1 1)) (fun _ => by kernel_rfl) (fun w34_ b33_ h35_ q36_ F37_ => ?_))
      have d38_ : Dis (One b33_) (One b1_) := Dis.fresh (New.one q36_) (In.one q_0L28_)
      have d39_ : Dis (One b33_) (Own vi) := Dis.fresh (New.one q36_) (Row.in q_1L28_)
      have N40_ : New w N0 (One b33_) := New.made q36_ (Fr.size hFrL28_)
      have T41_ := Fr.tr hFrL28_ F37_
      have h42_ := Fr.keep F37_ q_0L28_ Dis.n0
      have h43_ := Row.keep q_1L28_ F37_ Dis.n0
      refine at_do (by kernel_rfl) (op_append (.tmp 21) (.tmp 26) 22 22 5 1 1 (.int .u8 0) (by kernel_rfl) (by kernel_rfl) (by rfl) (v := vi) (by kernel_rfl) h43_ (xv := (.slice (some ⟨b33_, 0, none⟩) 1 1)) (m := 1) (news := (#[(.int .u8 (((sB s).getD i 0 : Nat) : Int))]).toList) (by kernel_rfl) (Rd.src (xs := (#[(.int .u8 (((sB s).getD i 0 : Nat) : Int))]).toList) (size := 1) (e := 5) (by kernel_rfl) (Rd.of_cut h35_ 0 1 (by kernel_rfl)) (by kernel_rfl) (by decide) (ones (by kernel_rfl))) (by first | (simp only [maxLen]; omega) | (simp only [maxLen, List.length_append, List.length_cons, List.length_nil, List.length_take, putB_length, sB_length]; omega)) (by first | omega | (simp only [List.length_append, List.length_cons, List.length_nil, List.length_take, putB_length, sB_length]; omega)) (fun v44_ w45_ h46_ F47_ s48_ => ?_))
      have T49_ := Fr.then T41_ F47_ n_1L28_
      have d50_ : Dis (Own v44_) (One b1_) := Dis.step (Dis.sym d_0_1L28_) s48_ (In.one h42_)
      have h51_ := Fr.keep F47_ h42_ d_0_1L28_
      have N52_ : New w N0 (Own v44_) := New.trans n_1L28_ s48_ (Fr.size T41_)
      have h53_ : Row w45_ 5 1 v44_ (([s.size] ++ (sB s).take i) ++ [((sB s).getD i 0 : Nat)]).length (B (([s.size] ++ (sB s).take i) ++ [((sB s).getD i 0 : Nat)])) := Row.appB h46_ (by rfl)
      refine at_pures 8 (by kernel_rfl) (by kernel_rfl) ?_
      refine at_done (by kernel_rfl) ?_
      refine blk_n ?_
      refine then_n ?_
      refine c_reg 6 rabytes_c_R6 (by kernel_rfl) ?_
      refine at_pures 1 (by kernel_rfl) (by kernel_rfl) ?_
      refine at_int (kd := .i64) (IntKind.i64.wrap ((i : Int) + (1 : Int))) ((i : Int) + (1 : Int)) (by kernel_rfl) (by kernel_rfl) (wrapN_i64 (by omega) (by omega)) ?_
      refine at_pures 3 (by kernel_rfl) (by kernel_rfl) ?_
      refine at_done (by kernel_rfl) ?_
      refine then_n ?_
      exact ⟨⟨i + 1, v44_, is_mk (by kernel_rfl) (by kernel_rfl) (by kernel_rfl), ⟨(by omega), h51_, (by rw [take_snoc (sB s) i (by rw [sB_length]; omega), ← List.append_assoc]; exact h53_), (Dis.sym d50_), N52_, T49_⟩⟩, cnt_lt (k := (i : Int)) (k' := ((i : Int) + (1 : Int))) (by kernel_rfl) (by kernel_rfl) (by omega) (by omega)⟩
    · -- no
      replace c32_ : ¬ ((i : Int) < (s.size : Int)) := of_decide_eq_false c32_
      refine c_exit 0 (by kernel_rfl) ?_
      refine then_e ?_
      refine then_e ?_
      refine blk_hit ?_
      refine then_n ?_
      refine c_seq [1, 1, 1, 1, 0] [1, 1, 1, 1, 1] (by kernel_rfl) ?_
      refine c_reg 8 rabytes_c_R8 (by kernel_rfl) ?_
      refine at_pures 2 (by kernel_rfl) (by kernel_rfl) ?_
      refine at_load1 34 (.tmp 29) b1_ 1 _ _ _ (.int .u64 (bal : Int)) (by kernel_rfl) (by kernel_rfl) (by kernel_rfl) (by kernel_rfl) q_0L28_ (by kernel_rfl) ?_
      refine at_do (by kernel_rfl) (op_call 48 #[(.tmp 30), (.const (.int .i64 8))] #[(.int .u64 (bal : Int)), (.int .i64 8)] (by kernel_rfl) (by kernel_rfl) (by kernel_rfl) ?_)
      have C61_ := rput_c bal 8 w30_   (by omega) (by omega)
      refine Calls.mono C61_ ?_
      rintro e60_ w58_ ⟨vout54_, rfl, h55_, F59_, h57_⟩
      refine ⟨_, rfl, ?_⟩
      have d62_ : Dis (Own vout54_) (One b1_) := Dis.fresh h57_ (In.one q_0L28_)
      have d63_ : Dis (Own vout54_) (Own vi) := Dis.fresh h57_ (Row.in q_1L28_)
      have T64_ := Fr.tr hFrL28_ F59_
      have h65_ := Fr.keep F59_ q_0L28_ Dis.n0
      have h66_ := Row.keep q_1L28_ F59_ Dis.n0
      have N68_ : New w N0 (Own vout54_) := New.later' h57_ (Fr.size hFrL28_)
      obtain ⟨ao69_, cap70_, rfl, hc71_, hm72_, hR73_, ho74_⟩ := Row.read h55_
      refine at_do (by kernel_rfl) (op_append (.tmp 28) (.tmp 31) 22 22 5 1 1 (.int .u8 0) (by kernel_rfl) (by kernel_rfl) (by rfl) (v := vi) (by kernel_rfl) h66_ (xv := (.slice ao69_ 8 cap70_)) (m := 8) (news := B (putB bal 8 8)) (by kernel_rfl) (Row.src (e' := 5) (by kernel_rfl) h55_ (by decide) B_one) (by first | (simp only [maxLen]; omega) | (simp only [maxLen, List.length_append, List.length_cons, List.length_nil, List.length_take, putB_length, sB_length]; omega)) (by first | omega | (simp only [List.length_append, List.length_cons, List.length_nil, List.length_take, putB_length, sB_length]; omega)) (fun v75_ w76_ h77_ F78_ s79_ => ?_))
      have T80_ := Fr.then T64_ F78_ n_1L28_
      have d81_ : Dis (Own v75_) (One b1_) := Dis.step (Dis.sym d_0_1L28_) s79_ (In.one h65_)
      have h82_ := Fr.keep F78_ h65_ d_0_1L28_
      have N83_ : New w N0 (Own v75_) := New.trans n_1L28_ s79_ (Fr.size T64_)
      have h84_ : Row w76_ 5 1 v75_ (([s.size] ++ (sB s).take i) ++ (putB bal 8 8)).length (B (([s.size] ++ (sB s).take i) ++ (putB bal 8 8))) := Row.appB h77_ rfl
      refine at_pures 6 (by kernel_rfl) (by kernel_rfl) ?_
      refine at_done (by kernel_rfl) ?_
      refine then_n ?_
      refine c_seq [1, 1, 1, 1, 1, 0] [1, 1, 1, 1, 1, 1] (by kernel_rfl) ?_
      refine c_reg 9 rabytes_c_R9 (by kernel_rfl) ?_
      refine at_pures 2 (by kernel_rfl) (by kernel_rfl) ?_
      refine at_load1 58 (.tmp 34) b1_ 2 _ _ _ (.int .u32 (non : Int)) (by kernel_rfl) (by kernel_rfl) (by kernel_rfl) (by kernel_rfl) h82_ (by kernel_rfl) ?_
      refine at_int (kd := .u64) (IntKind.u64.wrap ((non : Int))) ((non : Int)) (by kernel_rfl) (by kernel_rfl) (wrapN_u64 (by omega) (by omega)) ?_
      refine at_do (by kernel_rfl) (op_call 48 #[(.tmp 36), (.const (.int .i64 4))] #[(.int .u64 (non : Int)), (.int .i64 4)] (by kernel_rfl) (by kernel_rfl) (by kernel_rfl) ?_)
      have C92_ := rput_c non 4 w76_   (by omega) (by omega)
      refine Calls.mono C92_ ?_
      rintro e91_ w89_ ⟨vout85_, rfl, h86_, F90_, h88_⟩
      refine ⟨_, rfl, ?_⟩
      have d93_ : Dis (Own vout85_) (One b1_) := Dis.fresh h88_ (In.one h82_)
      have d94_ : Dis (Own vout85_) (Own v75_) := Dis.fresh h88_ (Row.in h84_)
      have T95_ := Fr.tr T80_ F90_
      have h96_ := Fr.keep F90_ h82_ Dis.n0
      have h97_ := Row.keep h84_ F90_ Dis.n0
      have N99_ : New w N0 (Own vout85_) := New.later' h88_ (Fr.size T80_)
      obtain ⟨ao100_, cap101_, rfl, hc102_, hm103_, hR104_, ho105_⟩ := Row.read h86_
      refine at_do (by kernel_rfl) (op_append (.tmp 33) (.tmp 37) 22 22 5 1 1 (.int .u8 0) (by kernel_rfl) (by kernel_rfl) (by rfl) (v := v75_) (by kernel_rfl) h97_ (xv := (.slice ao100_ 4 cap101_)) (m := 4) (news := B (putB non 4 4)) (by kernel_rfl) (Row.src (e' := 5) (by kernel_rfl) h86_ (by decide) B_one) (by first | (simp only [maxLen]; omega) | (simp only [maxLen, List.length_append, List.length_cons, List.length_nil, List.length_take, putB_length, sB_length]; omega)) (by first | omega | (simp only [List.length_append, List.length_cons, List.length_nil, List.length_take, putB_length, sB_length]; omega)) (fun v106_ w107_ h108_ F109_ s110_ => ?_))
      have T111_ := Fr.then T95_ F109_ N83_
      have d112_ : Dis (Own v106_) (One b1_) := Dis.step d81_ s110_ (In.one h96_)
      have h113_ := Fr.keep F109_ h96_ (Dis.sym d81_)
      have N114_ : New w N0 (Own v106_) := New.trans N83_ s110_ (Fr.size T95_)
      have h115_ : Row w107_ 5 1 v106_ (([s.size] ++ (sB s).take i) ++ (putB bal 8 8) ++ (putB non 4 4)).length (B (([s.size] ++ (sB s).take i) ++ (putB bal 8 8) ++ (putB non 4 4))) := Row.appB h108_ rfl
      refine at_pures 8 (by kernel_rfl) (by kernel_rfl) ?_
      refine at_done (by kernel_rfl) ?_
      refine then_n ?_
      refine c_ret (by kernel_rfl) ?_
      refine fin_ret (.tuple #[v106_, (.int .i64 0)]) (by kernel_rfl) (by kernel_rfl) ?_
      have hA : (accB s bal non) = ([s.size] ++ (sB s).take i) ++ (putB bal 8 8) ++ (putB non 4 4) := by rw [accB_yes (by assumption)]; first | rfl | (rw [← accL_ref (by assumption), List.take_of_length_le (by rw [sB_length]; omega)])
      rw [hA]
      exact ⟨v106_, (by rw [accE_yes (by assumption)]; rfl), h115_, T111_, N114_⟩

noncomputable def rone_c_R0 : Array Oper := rAt Tryd.prog 49 [0]
noncomputable def rone_c_R1 : Array Oper := rAt Tryd.prog 49 [1, 0]
set_option maxRecDepth 100000 in
theorem rone_c (s : ByteArray) (v : Value) (l : List Nat) (w : World) (h_b : Row w 5 1 v l.length (B l)) (h_ks0 : Rd w (some ⟨0, 0, none⟩) ((hw KL).toList)) (hl : l.length ≤ 700000) (hB : Byt l) :
    Calls Tryd.prog 49 #[(.string s), v] w fun e w' => e = .returned (.agg (hv (tag1 (sB s) l))) ∧ Fr w w' N0 := by
  obtain ⟨ao, cap, rfl, hcap, hcm, hR, ho⟩ := Row.read h_b
  refine c_enter (mk 9 [(0, (.string s)), (1, (.slice ao l.length cap))] (fun _ => undef)) Tryd.func49 (by kernel_rfl) (by kernel_rfl) ?_
  refine c_seq [0] [1] (by kernel_rfl) ?_
  refine c_reg 0 rone_c_R0 (by kernel_rfl) ?_
  refine at_do (by kernel_rfl) (op_new (.cells #[(.int .u8 0), (.int .u8 0), (.int .u8 0), (.int .u8 0), (.int .u8 0), (.int .u8 0), (.int .u8 0), (.int .u8 0), (.int .u8 0), (.int .u8 0), (.int .u8 0), (.int .u8 0), (.int .u8 0), (.int .u8 0), (.int .u8 0), (.int .u8 0), (.int .u8 0), (.int .u8 0), (.int .u8 0), (.int .u8 0), (.int .u8 0), (.int .u8 0), (.int .u8 0), (.int .u8 0), (.int .u8 0), (.int .u8 0), (.int .u8 0), (.int .u8 0), (.int .u8 0), (.int .u8 0), (.int .u8 0), (.int .u8 0)] 24) (fun N => (.pointer (some ⟨N, 0, none⟩))) (fun _ => by kernel_rfl) (fun w2_ b1_ h3_ q4_ F5_ => ?_))
  have d6_ : Dis (One b1_) (Own (.slice ao l.length cap)) := Dis.fresh (New.one q4_) (Row.in h_b)
  have d7_ : Dis (One b1_) (Ar (some ⟨0, 0, none⟩) ((hw KL).toList)) := Dis.fresh (New.one q4_) (Rd.in h_ks0)
  have N8_ : New w N0 (One b1_) := New.made q4_ (Fr.size (Fr.refl w N0))
  have T9_ := Fr.tr (Fr.refl w N0) F5_
  refine at_done (by kernel_rfl) ?_
  refine then_n ?_
  refine c_seq [1, 0] [1, 1] (by kernel_rfl) ?_
  refine c_reg 1 rone_c_R1 (by kernel_rfl) ?_
  refine at_pures 2 (by kernel_rfl) (by kernel_rfl) ?_
  refine at_do (by kernel_rfl) (op_new (.cells #[(.slice ao l.length cap)] 22) (fun N => (.slice (some ⟨N, 0, none⟩) 1 1)) (fun _ => by kernel_rfl) (fun w11_ b10_ h12_ q13_ F14_ => ?_))
  have h15_ := Row.keep h_b F5_ Dis.n0
  have d16_ : Dis (One b10_) (Own (.slice ao l.length cap)) := Dis.fresh (New.one q13_) (Row.in h15_)
  have h17_ := Rd.keep' h_ks0 F5_ Dis.n0
  have d18_ : Dis (One b10_) (Ar (some ⟨0, 0, none⟩) ((hw KL).toList)) := Dis.fresh (New.one q13_) (Rd.in h17_)
  have d19_ : Dis (One b10_) (One b1_) := Dis.fresh (New.one q13_) (In.one h3_)
  have N20_ : New w N0 (One b10_) := New.made q13_ (Fr.size T9_)
  have T21_ := Fr.tr T9_ F14_
  have h22_ := Row.keep h15_ F14_ Dis.n0
  have h23_ := Rd.keep' h17_ F14_ Dis.n0
  have h24_ := Fr.keep F14_ h3_ Dis.n0
  have h25_ : RowsAt (Or2 (One b10_) (Ar ao (B l))) w11_ (some ⟨b10_, 0, none⟩) [⟨ao, cap, l⟩] := RowsAt.one h12_ (by kernel_rfl) (Row.rd h22_) (Sub.refl _) (Rd.in (Row.rd h22_)) (by first | assumption | exact Byt.nil | exact tagL_byt _ _ | exact tagK_byt _ | exact shaL_byt _ | exact Byt.all (by kernel_rfl)) (by first | assumption | omega | exact Nat.le_refl _ | decide) (by first | assumption | (simp only [maxLen]; omega) | decide)
  refine at_do (by kernel_rfl) (op_call 25 #[(.tmp 5), (.tmp 7)] #[(.string s), (.slice (some ⟨b10_, 0, none⟩) 1 1)] (by kernel_rfl) (by kernel_rfl) (by kernel_rfl) ?_)
  have C31_ := rtagof_c s (Or2 (One b10_) (Ar ao (B l))) (some ⟨b10_, 0, none⟩) 1 ([⟨ao, cap, l⟩] : List BSl) w11_ h25_ h23_  (by first | exact parts1_le (by omega) | omega | assumption | (simp only [List.length_cons, List.length_nil]; omega)) (by first | exact parts1_le (by omega) | omega | assumption | (simp only [List.length_cons, List.length_nil]; omega))
  refine Calls.mono C31_ ?_
  rintro e30_ w28_ ⟨rfl, F29_⟩
  refine ⟨_, rfl, ?_⟩
  have T32_ := Fr.tr T21_ F29_
  have h33_ := Row.keep h22_ F29_ Dis.n0
  have h34_ := Rd.keep' h23_ F29_ Dis.n0
  have h35_ := Fr.keep F29_ h24_ Dis.n0
  have h36_ := Fr.keep F29_ h12_ Dis.n0
  have h37_ := RowsAt.keep h25_ F29_ Dis.n0
  refine at_do (by kernel_rfl) (op_store 24 (.tmp 4) (.tmp 8) b1_ 0 (.agg (hv (tagL (sB s) ([⟨ao, cap, l⟩] : List BSl)))) _ _ (hv (tagL (sB s) ([⟨ao, cap, l⟩] : List BSl))) (by kernel_rfl) (by kernel_rfl) (by kernel_rfl) h35_ (by kernel_rfl) (by kernel_rfl) (by kernel_rfl) (by kernel_rfl) (fun w38_ h39_ z40_ F41_ => ?_))
  have T42_ := Fr.then T32_ F41_ N8_
  have h43_ := Row.keep h33_ F41_ (Dis.sym d6_)
  have h44_ := Rd.keep' h34_ F41_ (Dis.sym d7_)
  have h45_ := Fr.keep F41_ h36_ d19_
  have h46_ := RowsAt.keep h37_ F41_ (Dis.or d19_ (Sub.dis (Row.ar h22_) (Dis.sym d6_)))
  refine at_done (by kernel_rfl) ?_
  refine then_n ?_
  refine c_ret (by kernel_rfl) ?_
  refine fin_retL [.cell 4 24] [(.agg (hv (tagL (sB s) ([⟨ao, cap, l⟩] : List BSl))))] (.agg (hv (tagL (sB s) ([⟨ao, cap, l⟩] : List BSl)))) (by kernel_rfl) (by rfl) ⟨ResOne.cellN (off := 0) (n := 32) (vs := (hv (tagL (sB s) ([⟨ao, cap, l⟩] : List BSl)))) (by kernel_rfl) (by kernel_rfl) (by kernel_rfl) h39_ (by kernel_rfl) (by kernel_rfl), trivial⟩ (by rfl) ?_
  exact ⟨(by rw [tag1_eq]), T42_⟩

noncomputable def ahash_c_R0 : Array Oper := rAt Tryd.prog 32 [0]
noncomputable def ahash_c_R1 : Array Oper := rAt Tryd.prog 32 [1, 0]
noncomputable def ahash_c_R2 : Array Oper := rAt Tryd.prog 32 [1, 1, 0, 0]
noncomputable def ahash_c_R3 : Array Oper := rAt Tryd.prog 32 [1, 1, 0, 1, 0, 0]
noncomputable def ahash_c_R4 : Array Oper := rAt Tryd.prog 32 [1, 1, 1, 0]
set_option maxRecDepth 100000 in
theorem ahash_c (s : ByteArray) (bal : Nat) (non : Nat) (w : World) (h_ks1 : Rd w (some ⟨1, 0, none⟩) ((hw KL).toList)) (hbal : bal < 18446744073709551616) (hnon : non < 4294967296) :
    Calls Tryd.prog 32 #[(.agg #[(.string s), (.int .u64 (bal : Int)), (.int .u32 (non : Int))])] w fun e w' => e = .returned (.tuple #[(.agg (hv (accH s bal non))), (.int .i64 ((accE s : Nat) : Int))]) ∧ Fr w w' N0 := by
  have hal := accB_len (s := s) (bal := bal) (non := non); have hab := accB_byt s bal non
  refine c_enter (mk 18 [(0, (.agg #[(.string s), (.int .u64 (bal : Int)), (.int .u32 (non : Int))]))] (fun _ => undef)) Tryd.func32 (by kernel_rfl) (by kernel_rfl) ?_
  refine c_seq [0] [1] (by kernel_rfl) ?_
  refine c_reg 0 ahash_c_R0 (by kernel_rfl) ?_
  refine at_do (by kernel_rfl) (op_new (.cells #[(.string s), (.int .u64 (bal : Int)), (.int .u32 (non : Int))] 60) (fun N => (.pointer (some ⟨N, 0, none⟩))) (fun _ => by kernel_rfl) (fun w2_ b1_ h3_ q4_ F5_ => ?_))
  have d6_ : Dis (One b1_) (Ar (some ⟨1, 0, none⟩) ((hw KL).toList)) := Dis.fresh (New.one q4_) (Rd.in h_ks1)
  have N7_ : New w N0 (One b1_) := New.made q4_ (Fr.size (Fr.refl w N0))
  have T8_ := Fr.tr (Fr.refl w N0) F5_
  refine at_do (by kernel_rfl) (op_new (.cells #[(.int .u8 0), (.int .u8 0), (.int .u8 0), (.int .u8 0), (.int .u8 0), (.int .u8 0), (.int .u8 0), (.int .u8 0), (.int .u8 0), (.int .u8 0), (.int .u8 0), (.int .u8 0), (.int .u8 0), (.int .u8 0), (.int .u8 0), (.int .u8 0), (.int .u8 0), (.int .u8 0), (.int .u8 0), (.int .u8 0), (.int .u8 0), (.int .u8 0), (.int .u8 0), (.int .u8 0), (.int .u8 0), (.int .u8 0), (.int .u8 0), (.int .u8 0), (.int .u8 0), (.int .u8 0), (.int .u8 0), (.int .u8 0)] 25) (fun N => (.pointer (some ⟨N, 0, none⟩))) (fun _ => by kernel_rfl) (fun w10_ b9_ h11_ q12_ F13_ => ?_))
  have h14_ := Rd.keep' h_ks1 F5_ Dis.n0
  have d15_ : Dis (One b9_) (Ar (some ⟨1, 0, none⟩) ((hw KL).toList)) := Dis.fresh (New.one q12_) (Rd.in h14_)
  have d16_ : Dis (One b9_) (One b1_) := Dis.fresh (New.one q12_) (In.one h3_)
  have N17_ : New w N0 (One b9_) := New.made q12_ (Fr.size T8_)
  have T18_ := Fr.tr T8_ F13_
  refine at_pures 3 (by kernel_rfl) (by kernel_rfl) ?_
  refine at_done (by kernel_rfl) ?_
  refine then_n ?_
  refine c_seq [1, 0] [1, 1] (by kernel_rfl) ?_
  refine c_reg 1 ahash_c_R1 (by kernel_rfl) ?_
  have h19_ := Fr.keep F13_ h3_ Dis.n0
  refine at_loadN 60 (.tmp 1) b1_ 0 3 _ _ _ #[(.string s), (.int .u64 (bal : Int)), (.int .u32 (non : Int))] (by kernel_rfl) (by kernel_rfl) (by kernel_rfl) (by kernel_rfl) (by kernel_rfl) h19_ (by kernel_rfl) (by kernel_rfl) ?_
  have h20_ := Rd.keep' h14_ F13_ Dis.n0
  refine at_do (by kernel_rfl) (op_call 30 #[(.tmp 7)] #[(.agg #[(.string s), (.int .u64 (bal : Int)), (.int .u32 (non : Int))])] (by kernel_rfl) (by kernel_rfl) (by kernel_rfl) ?_)
  have C28_ := abytes_c s bal non w10_   (by first | omega | assumption | exact parts1_le (by omega) | (simp only [List.length_cons, List.length_nil]; omega)) (by first | omega | assumption | exact parts1_le (by omega) | (simp only [List.length_cons, List.length_nil]; omega))
  refine Calls.mono C28_ ?_
  rintro e27_ w25_ ⟨vout21_, rfl, h22_, F26_, h24_⟩
  refine ⟨_, rfl, ?_⟩
  have d29_ : Dis (Own vout21_) (Ar (some ⟨1, 0, none⟩) ((hw KL).toList)) := Dis.fresh h24_ (Rd.in h20_)
  have d30_ : Dis (Own vout21_) (One b1_) := Dis.fresh h24_ (In.one h19_)
  have d31_ : Dis (Own vout21_) (One b9_) := Dis.fresh h24_ (In.one h11_)
  have T32_ := Fr.tr T18_ F26_
  have h33_ := Rd.keep' h20_ F26_ Dis.n0
  have h34_ := Fr.keep F26_ h19_ Dis.n0
  have h35_ := Fr.keep F26_ h11_ Dis.n0
  have N37_ : New w N0 (Own vout21_) := New.later' h24_ (Fr.size T18_)
  obtain ⟨ao38_, cap39_, rfl, hc40_, hm41_, hR42_, ho43_⟩ := Row.read h22_
  refine at_pures 7 (by kernel_rfl) (by kernel_rfl) ?_
  refine at_done (by kernel_rfl) ?_
  refine then_n ?_
  refine c_seq [1, 1, 0] [1, 1, 1] (by kernel_rfl) ?_
  refine c_seq [1, 1, 0, 0] [1, 1, 0, 1] (by kernel_rfl) ?_
  refine c_reg 2 ahash_c_R2 (by kernel_rfl) ?_
  refine at_pures 2 (by kernel_rfl) (by kernel_rfl) ?_
  refine at_done (by kernel_rfl) ?_
  refine then_n ?_
  refine c_if (.tmp 12) (((accE s : Nat) : Int) != (0 : Int)) [1, 1, 0, 1, 0] [1, 1, 0, 1, 1] (by kernel_rfl) (by kernel_rfl) (fun c44_ => ?_) (fun c44_ => ?_)
  · -- yes
    replace c44_ : ((accE s : Nat) : Int) ≠ (0 : Int) := by simpa using c44_
    refine c_seq [1, 1, 0, 1, 0, 0] [1, 1, 0, 1, 0, 1] (by kernel_rfl) ?_
    refine c_reg 3 ahash_c_R3 (by kernel_rfl) ?_
    refine at_pures 2 (by kernel_rfl) (by kernel_rfl) ?_
    refine at_do (by kernel_rfl) (op_store 25 (.tmp 2) (.tmp 13) b9_ 0 (.agg #[(.int .u8 0), (.int .u8 0), (.int .u8 0), (.int .u8 0), (.int .u8 0), (.int .u8 0), (.int .u8 0), (.int .u8 0), (.int .u8 0), (.int .u8 0), (.int .u8 0), (.int .u8 0), (.int .u8 0), (.int .u8 0), (.int .u8 0), (.int .u8 0), (.int .u8 0), (.int .u8 0), (.int .u8 0), (.int .u8 0), (.int .u8 0), (.int .u8 0), (.int .u8 0), (.int .u8 0), (.int .u8 0), (.int .u8 0), (.int .u8 0), (.int .u8 0), (.int .u8 0), (.int .u8 0), (.int .u8 0), (.int .u8 0)]) _ _ #[(.int .u8 0), (.int .u8 0), (.int .u8 0), (.int .u8 0), (.int .u8 0), (.int .u8 0), (.int .u8 0), (.int .u8 0), (.int .u8 0), (.int .u8 0), (.int .u8 0), (.int .u8 0), (.int .u8 0), (.int .u8 0), (.int .u8 0), (.int .u8 0), (.int .u8 0), (.int .u8 0), (.int .u8 0), (.int .u8 0), (.int .u8 0), (.int .u8 0), (.int .u8 0), (.int .u8 0), (.int .u8 0), (.int .u8 0), (.int .u8 0), (.int .u8 0), (.int .u8 0), (.int .u8 0), (.int .u8 0), (.int .u8 0)] (by kernel_rfl) (by kernel_rfl) (by kernel_rfl) h35_ (by kernel_rfl) (by kernel_rfl) (by kernel_rfl) (by kernel_rfl) (fun w45_ h46_ z47_ F48_ => ?_))
    have T49_ := Fr.then T32_ F48_ N17_
    have h50_ := Rd.keep' h33_ F48_ (Dis.sym d15_)
    have h51_ := Fr.keep F48_ h34_ (Dis.sym d16_)
    have h52_ := Row.keep h22_ F48_ d31_
    refine at_pures 4 (by kernel_rfl) (by kernel_rfl) ?_
    refine at_done (by kernel_rfl) ?_
    refine then_n ?_
    refine c_ret (by kernel_rfl) ?_
    refine then_r ?_
    refine fin_retL [.cell 2 25, .tmp 3] [(.agg #[(.int .u8 0), (.int .u8 0), (.int .u8 0), (.int .u8 0), (.int .u8 0), (.int .u8 0), (.int .u8 0), (.int .u8 0), (.int .u8 0), (.int .u8 0), (.int .u8 0), (.int .u8 0), (.int .u8 0), (.int .u8 0), (.int .u8 0), (.int .u8 0), (.int .u8 0), (.int .u8 0), (.int .u8 0), (.int .u8 0), (.int .u8 0), (.int .u8 0), (.int .u8 0), (.int .u8 0), (.int .u8 0), (.int .u8 0), (.int .u8 0), (.int .u8 0), (.int .u8 0), (.int .u8 0), (.int .u8 0), (.int .u8 0)]), (.int .i64 ((accE s : Nat) : Int))] (.tuple #[(.agg #[(.int .u8 0), (.int .u8 0), (.int .u8 0), (.int .u8 0), (.int .u8 0), (.int .u8 0), (.int .u8 0), (.int .u8 0), (.int .u8 0), (.int .u8 0), (.int .u8 0), (.int .u8 0), (.int .u8 0), (.int .u8 0), (.int .u8 0), (.int .u8 0), (.int .u8 0), (.int .u8 0), (.int .u8 0), (.int .u8 0), (.int .u8 0), (.int .u8 0), (.int .u8 0), (.int .u8 0), (.int .u8 0), (.int .u8 0), (.int .u8 0), (.int .u8 0), (.int .u8 0), (.int .u8 0), (.int .u8 0), (.int .u8 0)]), (.int .i64 ((accE s : Nat) : Int))]) (by kernel_rfl) (by rfl) ⟨ResOne.cellN (off := 0) (n := 32) (vs := #[(.int .u8 0), (.int .u8 0), (.int .u8 0), (.int .u8 0), (.int .u8 0), (.int .u8 0), (.int .u8 0), (.int .u8 0), (.int .u8 0), (.int .u8 0), (.int .u8 0), (.int .u8 0), (.int .u8 0), (.int .u8 0), (.int .u8 0), (.int .u8 0), (.int .u8 0), (.int .u8 0), (.int .u8 0), (.int .u8 0), (.int .u8 0), (.int .u8 0), (.int .u8 0), (.int .u8 0), (.int .u8 0), (.int .u8 0), (.int .u8 0), (.int .u8 0), (.int .u8 0), (.int .u8 0), (.int .u8 0), (.int .u8 0)]) (by kernel_rfl) (by kernel_rfl) (by kernel_rfl) h46_ (by kernel_rfl) (by kernel_rfl), ResOne.tmp (by kernel_rfl), trivial⟩ (by rfl) ?_
    exact ⟨(by rw [accH_no (accE_ne (by assumption)), accE_no (accE_ne (by assumption))]; kernel_rfl), T49_⟩
  · -- no
    replace c44_ : ((accE s : Nat) : Int) = (0 : Int) := by simpa using c44_
    refine c_skip (by kernel_rfl) ?_
    refine then_n ?_
    refine c_seq [1, 1, 1, 0] [1, 1, 1, 1] (by kernel_rfl) ?_
    refine c_reg 4 ahash_c_R4 (by kernel_rfl) ?_
    refine at_pures 1 (by kernel_rfl) (by kernel_rfl) ?_
    refine at_do (by kernel_rfl) (op_new (.cells #[(.slice ao38_ ((accB s bal non).length) cap39_)] 22) (fun N => (.slice (some ⟨N, 0, none⟩) 1 1)) (fun _ => by kernel_rfl) (fun w54_ b53_ h55_ q56_ F57_ => ?_))
    have d58_ : Dis (One b53_) (Ar (some ⟨1, 0, none⟩) ((hw KL).toList)) := Dis.fresh (New.one q56_) (Rd.in h33_)
    have d59_ : Dis (One b53_) (One b1_) := Dis.fresh (New.one q56_) (In.one h34_)
    have d60_ : Dis (One b53_) (One b9_) := Dis.fresh (New.one q56_) (In.one h35_)
    have d61_ : Dis (One b53_) (Own (.slice ao38_ ((accB s bal non).length) cap39_)) := Dis.fresh (New.one q56_) (Row.in h22_)
    have N62_ : New w N0 (One b53_) := New.made q56_ (Fr.size T32_)
    have T63_ := Fr.tr T32_ F57_
    have h64_ := Rd.keep' h33_ F57_ Dis.n0
    have h65_ := Fr.keep F57_ h34_ Dis.n0
    have h66_ := Fr.keep F57_ h35_ Dis.n0
    have h67_ := Row.keep h22_ F57_ Dis.n0
    have h68_ : RowsAt (Or2 (One b53_) (Ar ao38_ (B (accB s bal non)))) w54_ (some ⟨b53_, 0, none⟩) [⟨ao38_, cap39_, (accB s bal non)⟩] := RowsAt.one h55_ (by kernel_rfl) (Row.rd h67_) (Sub.refl _) (Rd.in (Row.rd h67_)) (by first | assumption | exact Byt.nil | exact tagL_byt _ _ | exact tagK_byt _ | exact shaL_byt _ | exact Byt.all (by kernel_rfl)) (by first | assumption | omega | exact Nat.le_refl _ | decide) (by first | assumption | (simp only [maxLen]; omega) | decide)
    refine at_do (by kernel_rfl) (op_call 24 #[(.const (.string (⟨#[97, 99, 99, 111, 117, 110, 116]⟩ : ByteArray))), (.tmp 16)] #[(.string (⟨#[97, 99, 99, 111, 117, 110, 116]⟩ : ByteArray)), (.slice (some ⟨b53_, 0, none⟩) 1 1)] (by kernel_rfl) (by kernel_rfl) (by kernel_rfl) ?_)
    have C74_ := tagof_c (⟨#[97, 99, 99, 111, 117, 110, 116]⟩ : ByteArray) (Or2 (One b53_) (Ar ao38_ (B (accB s bal non)))) (some ⟨b53_, 0, none⟩) 1 ([⟨ao38_, cap39_, (accB s bal non)⟩] : List BSl) w54_ h68_ h64_  (by first | omega | assumption | exact parts1_le (by omega) | (simp only [List.length_cons, List.length_nil]; omega)) (by first | omega | assumption | exact parts1_le (by omega) | (simp only [List.length_cons, List.length_nil]; omega))
    refine Calls.mono C74_ ?_
    rintro e73_ w71_ ⟨rfl, F72_⟩
    refine ⟨_, rfl, ?_⟩
    have T75_ := Fr.tr T63_ F72_
    have h76_ := Rd.keep' h64_ F72_ Dis.n0
    have h77_ := Fr.keep F72_ h65_ Dis.n0
    have h78_ := Fr.keep F72_ h66_ Dis.n0
    have h79_ := Row.keep h67_ F72_ Dis.n0
    have h80_ := Fr.keep F72_ h55_ Dis.n0
    have h81_ := RowsAt.keep h68_ F72_ Dis.n0
    refine at_do (by kernel_rfl) (op_store 25 (.tmp 2) (.tmp 17) b9_ 0 (.agg (hv (tagL (sB (⟨#[97, 99, 99, 111, 117, 110, 116]⟩ : ByteArray)) ([⟨ao38_, cap39_, (accB s bal non)⟩] : List BSl)))) _ _ (hv (tagL (sB (⟨#[97, 99, 99, 111, 117, 110, 116]⟩ : ByteArray)) ([⟨ao38_, cap39_, (accB s bal non)⟩] : List BSl))) (by kernel_rfl) (by kernel_rfl) (by kernel_rfl) h78_ (by kernel_rfl) (by kernel_rfl) (by kernel_rfl) (by kernel_rfl) (fun w82_ h83_ z84_ F85_ => ?_))
    have T86_ := Fr.then T75_ F85_ N17_
    have h87_ := Rd.keep' h76_ F85_ (Dis.sym d15_)
    have h88_ := Fr.keep F85_ h77_ (Dis.sym d16_)
    have h89_ := Row.keep h79_ F85_ d31_
    have h90_ := Fr.keep F85_ h80_ d60_
    have h91_ := RowsAt.keep h81_ F85_ (Dis.or d60_ (Sub.dis (Row.ar h67_) d31_))
    refine at_pures 5 (by kernel_rfl) (by kernel_rfl) ?_
    refine at_done (by kernel_rfl) ?_
    refine then_n ?_
    refine c_ret (by kernel_rfl) ?_
    refine fin_retL [.cell 2 25, .tmp 3] [(.agg (hv (tagL (sB (⟨#[97, 99, 99, 111, 117, 110, 116]⟩ : ByteArray)) ([⟨ao38_, cap39_, (accB s bal non)⟩] : List BSl)))), (.int .i64 0)] (.tuple #[(.agg (hv (tagL (sB (⟨#[97, 99, 99, 111, 117, 110, 116]⟩ : ByteArray)) ([⟨ao38_, cap39_, (accB s bal non)⟩] : List BSl)))), (.int .i64 0)]) (by kernel_rfl) (by rfl) ⟨ResOne.cellN (off := 0) (n := 32) (vs := (hv (tagL (sB (⟨#[97, 99, 99, 111, 117, 110, 116]⟩ : ByteArray)) ([⟨ao38_, cap39_, (accB s bal non)⟩] : List BSl)))) (by kernel_rfl) (by kernel_rfl) (by kernel_rfl) h83_ (by kernel_rfl) (by kernel_rfl), ResOne.tmp (by kernel_rfl), trivial⟩ (by rfl) ?_
    exact ⟨(by rw [accH_yes (accE_eq (by assumption)), accE_yes (accE_eq (by assumption))]; rfl), T86_⟩

noncomputable def rahash_c_R0 : Array Oper := rAt Tryd.prog 33 [0]
noncomputable def rahash_c_R1 : Array Oper := rAt Tryd.prog 33 [1, 0]
noncomputable def rahash_c_R2 : Array Oper := rAt Tryd.prog 33 [1, 1, 0, 0]
noncomputable def rahash_c_R3 : Array Oper := rAt Tryd.prog 33 [1, 1, 0, 1, 0, 0]
noncomputable def rahash_c_R4 : Array Oper := rAt Tryd.prog 33 [1, 1, 1, 0]
set_option maxRecDepth 100000 in
theorem rahash_c (s : ByteArray) (bal : Nat) (non : Nat) (w : World) (h_ks0 : Rd w (some ⟨0, 0, none⟩) ((hw KL).toList)) (hbal : bal < 18446744073709551616) (hnon : non < 4294967296) :
    Calls Tryd.prog 33 #[(.agg #[(.string s), (.int .u64 (bal : Int)), (.int .u32 (non : Int))])] w fun e w' => e = .returned (.tuple #[(.agg (hv (accH s bal non))), (.int .i64 ((accE s : Nat) : Int))]) ∧ Fr w w' N0 := by
  have hal := accB_len (s := s) (bal := bal) (non := non); have hab := accB_byt s bal non
  refine c_enter (mk 17 [(0, (.agg #[(.string s), (.int .u64 (bal : Int)), (.int .u32 (non : Int))]))] (fun _ => undef)) Tryd.func33 (by kernel_rfl) (by kernel_rfl) ?_
  refine c_seq [0] [1] (by kernel_rfl) ?_
  refine c_reg 0 rahash_c_R0 (by kernel_rfl) ?_
  refine at_do (by kernel_rfl) (op_new (.cells #[(.string s), (.int .u64 (bal : Int)), (.int .u32 (non : Int))] 61) (fun N => (.pointer (some ⟨N, 0, none⟩))) (fun _ => by kernel_rfl) (fun w2_ b1_ h3_ q4_ F5_ => ?_))
  have d6_ : Dis (One b1_) (Ar (some ⟨0, 0, none⟩) ((hw KL).toList)) := Dis.fresh (New.one q4_) (Rd.in h_ks0)
  have N7_ : New w N0 (One b1_) := New.made q4_ (Fr.size (Fr.refl w N0))
  have T8_ := Fr.tr (Fr.refl w N0) F5_
  refine at_do (by kernel_rfl) (op_new (.cells #[(.int .u8 0), (.int .u8 0), (.int .u8 0), (.int .u8 0), (.int .u8 0), (.int .u8 0), (.int .u8 0), (.int .u8 0), (.int .u8 0), (.int .u8 0), (.int .u8 0), (.int .u8 0), (.int .u8 0), (.int .u8 0), (.int .u8 0), (.int .u8 0), (.int .u8 0), (.int .u8 0), (.int .u8 0), (.int .u8 0), (.int .u8 0), (.int .u8 0), (.int .u8 0), (.int .u8 0), (.int .u8 0), (.int .u8 0), (.int .u8 0), (.int .u8 0), (.int .u8 0), (.int .u8 0), (.int .u8 0), (.int .u8 0)] 25) (fun N => (.pointer (some ⟨N, 0, none⟩))) (fun _ => by kernel_rfl) (fun w10_ b9_ h11_ q12_ F13_ => ?_))
  have h14_ := Rd.keep' h_ks0 F5_ Dis.n0
  have d15_ : Dis (One b9_) (Ar (some ⟨0, 0, none⟩) ((hw KL).toList)) := Dis.fresh (New.one q12_) (Rd.in h14_)
  have d16_ : Dis (One b9_) (One b1_) := Dis.fresh (New.one q12_) (In.one h3_)
  have N17_ : New w N0 (One b9_) := New.made q12_ (Fr.size T8_)
  have T18_ := Fr.tr T8_ F13_
  refine at_pures 3 (by kernel_rfl) (by kernel_rfl) ?_
  refine at_done (by kernel_rfl) ?_
  refine then_n ?_
  refine c_seq [1, 0] [1, 1] (by kernel_rfl) ?_
  refine c_reg 1 rahash_c_R1 (by kernel_rfl) ?_
  have h19_ := Fr.keep F13_ h3_ Dis.n0
  refine at_loadN 61 (.tmp 1) b1_ 0 3 _ _ _ #[(.string s), (.int .u64 (bal : Int)), (.int .u32 (non : Int))] (by kernel_rfl) (by kernel_rfl) (by kernel_rfl) (by kernel_rfl) (by kernel_rfl) h19_ (by kernel_rfl) (by kernel_rfl) ?_
  have h20_ := Rd.keep' h14_ F13_ Dis.n0
  refine at_do (by kernel_rfl) (op_call 31 #[(.tmp 7)] #[(.agg #[(.string s), (.int .u64 (bal : Int)), (.int .u32 (non : Int))])] (by kernel_rfl) (by kernel_rfl) (by kernel_rfl) ?_)
  have C28_ := rabytes_c s bal non w10_   (by first | omega | assumption | exact parts1_le (by omega) | (simp only [List.length_cons, List.length_nil]; omega)) (by first | omega | assumption | exact parts1_le (by omega) | (simp only [List.length_cons, List.length_nil]; omega))
  refine Calls.mono C28_ ?_
  rintro e27_ w25_ ⟨vout21_, rfl, h22_, F26_, h24_⟩
  refine ⟨_, rfl, ?_⟩
  have d29_ : Dis (Own vout21_) (Ar (some ⟨0, 0, none⟩) ((hw KL).toList)) := Dis.fresh h24_ (Rd.in h20_)
  have d30_ : Dis (Own vout21_) (One b1_) := Dis.fresh h24_ (In.one h19_)
  have d31_ : Dis (Own vout21_) (One b9_) := Dis.fresh h24_ (In.one h11_)
  have T32_ := Fr.tr T18_ F26_
  have h33_ := Rd.keep' h20_ F26_ Dis.n0
  have h34_ := Fr.keep F26_ h19_ Dis.n0
  have h35_ := Fr.keep F26_ h11_ Dis.n0
  have N37_ : New w N0 (Own vout21_) := New.later' h24_ (Fr.size T18_)
  obtain ⟨ao38_, cap39_, rfl, hc40_, hm41_, hR42_, ho43_⟩ := Row.read h22_
  refine at_pures 7 (by kernel_rfl) (by kernel_rfl) ?_
  refine at_done (by kernel_rfl) ?_
  refine then_n ?_
  refine c_seq [1, 1, 0] [1, 1, 1] (by kernel_rfl) ?_
  refine c_seq [1, 1, 0, 0] [1, 1, 0, 1] (by kernel_rfl) ?_
  refine c_reg 2 rahash_c_R2 (by kernel_rfl) ?_
  refine at_pures 2 (by kernel_rfl) (by kernel_rfl) ?_
  refine at_done (by kernel_rfl) ?_
  refine then_n ?_
  refine c_if (.tmp 12) (((accE s : Nat) : Int) != (0 : Int)) [1, 1, 0, 1, 0] [1, 1, 0, 1, 1] (by kernel_rfl) (by kernel_rfl) (fun c44_ => ?_) (fun c44_ => ?_)
  · -- yes
    replace c44_ : ((accE s : Nat) : Int) ≠ (0 : Int) := by simpa using c44_
    refine c_seq [1, 1, 0, 1, 0, 0] [1, 1, 0, 1, 0, 1] (by kernel_rfl) ?_
    refine c_reg 3 rahash_c_R3 (by kernel_rfl) ?_
    refine at_pures 2 (by kernel_rfl) (by kernel_rfl) ?_
    refine at_do (by kernel_rfl) (op_store 25 (.tmp 2) (.tmp 13) b9_ 0 (.agg #[(.int .u8 0), (.int .u8 0), (.int .u8 0), (.int .u8 0), (.int .u8 0), (.int .u8 0), (.int .u8 0), (.int .u8 0), (.int .u8 0), (.int .u8 0), (.int .u8 0), (.int .u8 0), (.int .u8 0), (.int .u8 0), (.int .u8 0), (.int .u8 0), (.int .u8 0), (.int .u8 0), (.int .u8 0), (.int .u8 0), (.int .u8 0), (.int .u8 0), (.int .u8 0), (.int .u8 0), (.int .u8 0), (.int .u8 0), (.int .u8 0), (.int .u8 0), (.int .u8 0), (.int .u8 0), (.int .u8 0), (.int .u8 0)]) _ _ #[(.int .u8 0), (.int .u8 0), (.int .u8 0), (.int .u8 0), (.int .u8 0), (.int .u8 0), (.int .u8 0), (.int .u8 0), (.int .u8 0), (.int .u8 0), (.int .u8 0), (.int .u8 0), (.int .u8 0), (.int .u8 0), (.int .u8 0), (.int .u8 0), (.int .u8 0), (.int .u8 0), (.int .u8 0), (.int .u8 0), (.int .u8 0), (.int .u8 0), (.int .u8 0), (.int .u8 0), (.int .u8 0), (.int .u8 0), (.int .u8 0), (.int .u8 0), (.int .u8 0), (.int .u8 0), (.int .u8 0), (.int .u8 0)] (by kernel_rfl) (by kernel_rfl) (by kernel_rfl) h35_ (by kernel_rfl) (by kernel_rfl) (by kernel_rfl) (by kernel_rfl) (fun w45_ h46_ z47_ F48_ => ?_))
    have T49_ := Fr.then T32_ F48_ N17_
    have h50_ := Rd.keep' h33_ F48_ (Dis.sym d15_)
    have h51_ := Fr.keep F48_ h34_ (Dis.sym d16_)
    have h52_ := Row.keep h22_ F48_ d31_
    refine at_pures 4 (by kernel_rfl) (by kernel_rfl) ?_
    refine at_done (by kernel_rfl) ?_
    refine then_n ?_
    refine c_ret (by kernel_rfl) ?_
    refine then_r ?_
    refine fin_retL [.cell 2 25, .tmp 3] [(.agg #[(.int .u8 0), (.int .u8 0), (.int .u8 0), (.int .u8 0), (.int .u8 0), (.int .u8 0), (.int .u8 0), (.int .u8 0), (.int .u8 0), (.int .u8 0), (.int .u8 0), (.int .u8 0), (.int .u8 0), (.int .u8 0), (.int .u8 0), (.int .u8 0), (.int .u8 0), (.int .u8 0), (.int .u8 0), (.int .u8 0), (.int .u8 0), (.int .u8 0), (.int .u8 0), (.int .u8 0), (.int .u8 0), (.int .u8 0), (.int .u8 0), (.int .u8 0), (.int .u8 0), (.int .u8 0), (.int .u8 0), (.int .u8 0)]), (.int .i64 ((accE s : Nat) : Int))] (.tuple #[(.agg #[(.int .u8 0), (.int .u8 0), (.int .u8 0), (.int .u8 0), (.int .u8 0), (.int .u8 0), (.int .u8 0), (.int .u8 0), (.int .u8 0), (.int .u8 0), (.int .u8 0), (.int .u8 0), (.int .u8 0), (.int .u8 0), (.int .u8 0), (.int .u8 0), (.int .u8 0), (.int .u8 0), (.int .u8 0), (.int .u8 0), (.int .u8 0), (.int .u8 0), (.int .u8 0), (.int .u8 0), (.int .u8 0), (.int .u8 0), (.int .u8 0), (.int .u8 0), (.int .u8 0), (.int .u8 0), (.int .u8 0), (.int .u8 0)]), (.int .i64 ((accE s : Nat) : Int))]) (by kernel_rfl) (by rfl) ⟨ResOne.cellN (off := 0) (n := 32) (vs := #[(.int .u8 0), (.int .u8 0), (.int .u8 0), (.int .u8 0), (.int .u8 0), (.int .u8 0), (.int .u8 0), (.int .u8 0), (.int .u8 0), (.int .u8 0), (.int .u8 0), (.int .u8 0), (.int .u8 0), (.int .u8 0), (.int .u8 0), (.int .u8 0), (.int .u8 0), (.int .u8 0), (.int .u8 0), (.int .u8 0), (.int .u8 0), (.int .u8 0), (.int .u8 0), (.int .u8 0), (.int .u8 0), (.int .u8 0), (.int .u8 0), (.int .u8 0), (.int .u8 0), (.int .u8 0), (.int .u8 0), (.int .u8 0)]) (by kernel_rfl) (by kernel_rfl) (by kernel_rfl) h46_ (by kernel_rfl) (by kernel_rfl), ResOne.tmp (by kernel_rfl), trivial⟩ (by rfl) ?_
    exact ⟨(by rw [accH_no (accE_ne (by assumption)), accE_no (accE_ne (by assumption))]; kernel_rfl), T49_⟩
  · -- no
    replace c44_ : ((accE s : Nat) : Int) = (0 : Int) := by simpa using c44_
    refine c_skip (by kernel_rfl) ?_
    refine then_n ?_
    refine c_seq [1, 1, 1, 0] [1, 1, 1, 1] (by kernel_rfl) ?_
    refine c_reg 4 rahash_c_R4 (by kernel_rfl) ?_
    refine at_pures 1 (by kernel_rfl) (by kernel_rfl) ?_
    refine at_do (by kernel_rfl) (op_call 49 #[(.const (.string (⟨#[97, 99, 99, 111, 117, 110, 116]⟩ : ByteArray))), (.tmp 15)] #[(.string (⟨#[97, 99, 99, 111, 117, 110, 116]⟩ : ByteArray)), (.slice ao38_ ((accB s bal non).length) cap39_)] (by kernel_rfl) (by kernel_rfl) (by kernel_rfl) ?_)
    have C57_ := rone_c (⟨#[97, 99, 99, 111, 117, 110, 116]⟩ : ByteArray) (.slice ao38_ ((accB s bal non).length) cap39_) (accB s bal non) w25_ h22_ h33_  (by first | omega | assumption | exact parts1_le (by omega) | (simp only [List.length_cons, List.length_nil]; omega)) (by first | omega | assumption | exact parts1_le (by omega) | (simp only [List.length_cons, List.length_nil]; omega))
    refine Calls.mono C57_ ?_
    rintro e56_ w54_ ⟨rfl, F55_⟩
    refine ⟨_, rfl, ?_⟩
    have T58_ := Fr.tr T32_ F55_
    have h59_ := Rd.keep' h33_ F55_ Dis.n0
    have h60_ := Fr.keep F55_ h34_ Dis.n0
    have h61_ := Fr.keep F55_ h35_ Dis.n0
    have h62_ := Row.keep h22_ F55_ Dis.n0
    refine at_do (by kernel_rfl) (op_store 25 (.tmp 2) (.tmp 16) b9_ 0 (.agg (hv (tag1 (sB (⟨#[97, 99, 99, 111, 117, 110, 116]⟩ : ByteArray)) (accB s bal non)))) _ _ (hv (tag1 (sB (⟨#[97, 99, 99, 111, 117, 110, 116]⟩ : ByteArray)) (accB s bal non))) (by kernel_rfl) (by kernel_rfl) (by kernel_rfl) h61_ (by kernel_rfl) (by kernel_rfl) (by kernel_rfl) (by kernel_rfl) (fun w63_ h64_ z65_ F66_ => ?_))
    have T67_ := Fr.then T58_ F66_ N17_
    have h68_ := Rd.keep' h59_ F66_ (Dis.sym d15_)
    have h69_ := Fr.keep F66_ h60_ (Dis.sym d16_)
    have h70_ := Row.keep h62_ F66_ d31_
    refine at_pures 4 (by kernel_rfl) (by kernel_rfl) ?_
    refine at_done (by kernel_rfl) ?_
    refine then_n ?_
    refine c_ret (by kernel_rfl) ?_
    refine fin_retL [.cell 2 25, .tmp 3] [(.agg (hv (tag1 (sB (⟨#[97, 99, 99, 111, 117, 110, 116]⟩ : ByteArray)) (accB s bal non)))), (.int .i64 0)] (.tuple #[(.agg (hv (tag1 (sB (⟨#[97, 99, 99, 111, 117, 110, 116]⟩ : ByteArray)) (accB s bal non)))), (.int .i64 0)]) (by kernel_rfl) (by rfl) ⟨ResOne.cellN (off := 0) (n := 32) (vs := (hv (tag1 (sB (⟨#[97, 99, 99, 111, 117, 110, 116]⟩ : ByteArray)) (accB s bal non)))) (by kernel_rfl) (by kernel_rfl) (by kernel_rfl) h64_ (by kernel_rfl) (by kernel_rfl), ResOne.tmp (by kernel_rfl), trivial⟩ (by rfl) ?_
    exact ⟨(by rw [accH_yes (accE_eq (by assumption)), accE_yes (accE_eq (by assumption))]; rfl), T67_⟩

noncomputable def anone_c_R0 : Array Oper := rAt Tryd.prog 42 [0]
noncomputable def anone_c_R1 : Array Oper := rAt Tryd.prog 42 [1, 0]
set_option maxRecDepth 100000 in
theorem anone_c (w : World) (h_ks1 : Rd w (some ⟨1, 0, none⟩) ((hw KL).toList)) :
    Calls Tryd.prog 42 #[] w fun e w' => e = .returned (.agg (hv accNone)) ∧ Fr w w' N0 := by
  refine c_enter (mk 2 [] (fun _ => undef)) Tryd.func42 (by kernel_rfl) (by kernel_rfl) ?_
  refine c_seq [0] [1] (by kernel_rfl) ?_
  refine c_reg 0 anone_c_R0 (by kernel_rfl) ?_
  refine at_do (by kernel_rfl) (op_new (.cells #[(.int .u8 0), (.int .u8 0), (.int .u8 0), (.int .u8 0), (.int .u8 0), (.int .u8 0), (.int .u8 0), (.int .u8 0), (.int .u8 0), (.int .u8 0), (.int .u8 0), (.int .u8 0), (.int .u8 0), (.int .u8 0), (.int .u8 0), (.int .u8 0), (.int .u8 0), (.int .u8 0), (.int .u8 0), (.int .u8 0), (.int .u8 0), (.int .u8 0), (.int .u8 0), (.int .u8 0), (.int .u8 0), (.int .u8 0), (.int .u8 0), (.int .u8 0), (.int .u8 0), (.int .u8 0), (.int .u8 0), (.int .u8 0)] 25) (fun N => (.pointer (some ⟨N, 0, none⟩))) (fun _ => by kernel_rfl) (fun w2_ b1_ h3_ q4_ F5_ => ?_))
  have d6_ : Dis (One b1_) (Ar (some ⟨1, 0, none⟩) ((hw KL).toList)) := Dis.fresh (New.one q4_) (Rd.in h_ks1)
  have N7_ : New w N0 (One b1_) := New.made q4_ (Fr.size (Fr.refl w N0))
  have T8_ := Fr.tr (Fr.refl w N0) F5_
  refine at_done (by kernel_rfl) ?_
  refine then_n ?_
  refine c_seq [1, 0] [1, 1] (by kernel_rfl) ?_
  refine c_reg 1 anone_c_R1 (by kernel_rfl) ?_
  have h9_ := Rd.keep' h_ks1 F5_ Dis.n0
  have h10_ := RowsAt.none w2_
  refine at_do (by kernel_rfl) (op_call 24 #[(.const (.string (⟨#[101, 109, 112, 116, 121]⟩ : ByteArray))), (.const (.slice none 0 0))] #[(.string (⟨#[101, 109, 112, 116, 121]⟩ : ByteArray)), (.slice none 0 0)] (by kernel_rfl) (by kernel_rfl) (by kernel_rfl) ?_)
  have C16_ := tagof_c (⟨#[101, 109, 112, 116, 121]⟩ : ByteArray) N0 none 0 ([] : List BSl) w2_ h10_ h9_  (by first | exact parts0_le | exact Nat.zero_le _) (by first | exact parts0_le | exact Nat.zero_le _)
  refine Calls.mono C16_ ?_
  rintro e15_ w13_ ⟨rfl, F14_⟩
  refine ⟨_, rfl, ?_⟩
  have T17_ := Fr.tr T8_ F14_
  have h18_ := Rd.keep' h9_ F14_ Dis.n0
  have h19_ := Fr.keep F14_ h3_ Dis.n0
  have h20_ := RowsAt.keep h10_ F14_ Dis.n0
  refine at_do (by kernel_rfl) (op_store 25 (.tmp 0) (.tmp 1) b1_ 0 (.agg (hv (tagL (sB (⟨#[101, 109, 112, 116, 121]⟩ : ByteArray)) ([] : List BSl)))) _ _ (hv (tagL (sB (⟨#[101, 109, 112, 116, 121]⟩ : ByteArray)) ([] : List BSl))) (by kernel_rfl) (by kernel_rfl) (by kernel_rfl) h19_ (by kernel_rfl) (by kernel_rfl) (by kernel_rfl) (by kernel_rfl) (fun w21_ h22_ z23_ F24_ => ?_))
  have T25_ := Fr.then T17_ F24_ N7_
  have h26_ := Rd.keep' h18_ F24_ (Dis.sym d6_)
  have h27_ := RowsAt.keep h20_ F24_ Dis.n0'
  refine at_done (by kernel_rfl) ?_
  refine then_n ?_
  refine c_ret (by kernel_rfl) ?_
  refine fin_retL [.cell 0 25] [(.agg (hv (tagL (sB (⟨#[101, 109, 112, 116, 121]⟩ : ByteArray)) ([] : List BSl))))] (.agg (hv (tagL (sB (⟨#[101, 109, 112, 116, 121]⟩ : ByteArray)) ([] : List BSl)))) (by kernel_rfl) (by rfl) ⟨ResOne.cellN (off := 0) (n := 32) (vs := (hv (tagL (sB (⟨#[101, 109, 112, 116, 121]⟩ : ByteArray)) ([] : List BSl)))) (by kernel_rfl) (by kernel_rfl) (by kernel_rfl) h22_ (by kernel_rfl) (by kernel_rfl), trivial⟩ (by rfl) ?_
  exact ⟨rfl, T25_⟩

noncomputable def ranone_c_R0 : Array Oper := rAt Tryd.prog 43 [0]
noncomputable def ranone_c_R1 : Array Oper := rAt Tryd.prog 43 [1, 0]
set_option maxRecDepth 100000 in
theorem ranone_c (w : World) (h_ks0 : Rd w (some ⟨0, 0, none⟩) ((hw KL).toList)) :
    Calls Tryd.prog 43 #[] w fun e w' => e = .returned (.agg (hv accNone)) ∧ Fr w w' N0 := by
  refine c_enter (mk 2 [] (fun _ => undef)) Tryd.func43 (by kernel_rfl) (by kernel_rfl) ?_
  refine c_seq [0] [1] (by kernel_rfl) ?_
  refine c_reg 0 ranone_c_R0 (by kernel_rfl) ?_
  refine at_do (by kernel_rfl) (op_new (.cells #[(.int .u8 0), (.int .u8 0), (.int .u8 0), (.int .u8 0), (.int .u8 0), (.int .u8 0), (.int .u8 0), (.int .u8 0), (.int .u8 0), (.int .u8 0), (.int .u8 0), (.int .u8 0), (.int .u8 0), (.int .u8 0), (.int .u8 0), (.int .u8 0), (.int .u8 0), (.int .u8 0), (.int .u8 0), (.int .u8 0), (.int .u8 0), (.int .u8 0), (.int .u8 0), (.int .u8 0), (.int .u8 0), (.int .u8 0), (.int .u8 0), (.int .u8 0), (.int .u8 0), (.int .u8 0), (.int .u8 0), (.int .u8 0)] 25) (fun N => (.pointer (some ⟨N, 0, none⟩))) (fun _ => by kernel_rfl) (fun w2_ b1_ h3_ q4_ F5_ => ?_))
  have d6_ : Dis (One b1_) (Ar (some ⟨0, 0, none⟩) ((hw KL).toList)) := Dis.fresh (New.one q4_) (Rd.in h_ks0)
  have N7_ : New w N0 (One b1_) := New.made q4_ (Fr.size (Fr.refl w N0))
  have T8_ := Fr.tr (Fr.refl w N0) F5_
  refine at_done (by kernel_rfl) ?_
  refine then_n ?_
  refine c_seq [1, 0] [1, 1] (by kernel_rfl) ?_
  refine c_reg 1 ranone_c_R1 (by kernel_rfl) ?_
  have h9_ := Rd.keep' h_ks0 F5_ Dis.n0
  have h10_ := RowsAt.none w2_
  refine at_do (by kernel_rfl) (op_call 25 #[(.const (.string (⟨#[101, 109, 112, 116, 121]⟩ : ByteArray))), (.const (.slice none 0 0))] #[(.string (⟨#[101, 109, 112, 116, 121]⟩ : ByteArray)), (.slice none 0 0)] (by kernel_rfl) (by kernel_rfl) (by kernel_rfl) ?_)
  have C16_ := rtagof_c (⟨#[101, 109, 112, 116, 121]⟩ : ByteArray) N0 none 0 ([] : List BSl) w2_ h10_ h9_  (by first | exact parts0_le | exact Nat.zero_le _) (by first | exact parts0_le | exact Nat.zero_le _)
  refine Calls.mono C16_ ?_
  rintro e15_ w13_ ⟨rfl, F14_⟩
  refine ⟨_, rfl, ?_⟩
  have T17_ := Fr.tr T8_ F14_
  have h18_ := Rd.keep' h9_ F14_ Dis.n0
  have h19_ := Fr.keep F14_ h3_ Dis.n0
  have h20_ := RowsAt.keep h10_ F14_ Dis.n0
  refine at_do (by kernel_rfl) (op_store 25 (.tmp 0) (.tmp 1) b1_ 0 (.agg (hv (tagL (sB (⟨#[101, 109, 112, 116, 121]⟩ : ByteArray)) ([] : List BSl)))) _ _ (hv (tagL (sB (⟨#[101, 109, 112, 116, 121]⟩ : ByteArray)) ([] : List BSl))) (by kernel_rfl) (by kernel_rfl) (by kernel_rfl) h19_ (by kernel_rfl) (by kernel_rfl) (by kernel_rfl) (by kernel_rfl) (fun w21_ h22_ z23_ F24_ => ?_))
  have T25_ := Fr.then T17_ F24_ N7_
  have h26_ := Rd.keep' h18_ F24_ (Dis.sym d6_)
  have h27_ := RowsAt.keep h20_ F24_ Dis.n0'
  refine at_done (by kernel_rfl) ?_
  refine then_n ?_
  refine c_ret (by kernel_rfl) ?_
  refine fin_retL [.cell 0 25] [(.agg (hv (tagL (sB (⟨#[101, 109, 112, 116, 121]⟩ : ByteArray)) ([] : List BSl))))] (.agg (hv (tagL (sB (⟨#[101, 109, 112, 116, 121]⟩ : ByteArray)) ([] : List BSl)))) (by kernel_rfl) (by rfl) ⟨ResOne.cellN (off := 0) (n := 32) (vs := (hv (tagL (sB (⟨#[101, 109, 112, 116, 121]⟩ : ByteArray)) ([] : List BSl)))) (by kernel_rfl) (by kernel_rfl) (by kernel_rfl) h22_ (by kernel_rfl) (by kernel_rfl), trivial⟩ (by rfl) ?_
  exact ⟨rfl, T25_⟩

noncomputable def aread_c_R0 : Array Oper := rAt Tryd.prog 34 [0]
noncomputable def aread_c_R1 : Array Oper := rAt Tryd.prog 34 [1, 0]
noncomputable def aread_c_R2 : Array Oper := rAt Tryd.prog 34 [1, 1, 0]
noncomputable def aread_c_R3 : Array Oper := rAt Tryd.prog 34 [1, 1, 1, 0]
noncomputable def aread_c_R4 : Array Oper := rAt Tryd.prog 34 [1, 1, 1, 1, 0]
noncomputable def aread_c_R5 : Array Oper := rAt Tryd.prog 34 [1, 1, 1, 1, 1, 0]
noncomputable def aread_c_R6 : Array Oper := rAt Tryd.prog 34 [1, 1, 1, 1, 1, 1, 0]
noncomputable def aread_c_R7 : Array Oper := rAt Tryd.prog 34 [1, 1, 1, 1, 1, 1, 1, 0, 0]
noncomputable def aread_c_R8 : Array Oper := rAt Tryd.prog 34 [1, 1, 1, 1, 1, 1, 1, 0, 1, 0]
noncomputable def aread_c_R9 : Array Oper := rAt Tryd.prog 34 [1, 1, 1, 1, 1, 1, 1, 1, 0, 0]
noncomputable def aread_c_R10 : Array Oper := rAt Tryd.prog 34 [1, 1, 1, 1, 1, 1, 1, 1, 0, 1, 0, 0]
noncomputable def aread_c_R11 : Array Oper := rAt Tryd.prog 34 [1, 1, 1, 1, 1, 1, 1, 1, 1, 0]
set_option maxRecDepth 100000 in
theorem aread_c (s : Value) (l : List Nat) (w : World) (h_b : SlV w s l.length (B l)) (hl : l.length ≤ 1000000) (hB : Byt l) :
    Calls Tryd.prog 34 #[s] w fun e w' => e = .returned (.tuple #[(.agg #[(.string ((accRd l).s)), (.int .u64 ((accRd l).bal : Int)), (.int .u32 ((accRd l).non : Int))]), (.int .i64 (accF l : Int))]) ∧ Fr w w' N0 := by
  obtain ⟨ao_b, cap_b, rfl, h_b⟩ := h_b
  have hB0 : Byt (Rs.mk 0 l).l := hB; have hB1 : Byt ((Rs.mk 0 l).textR 8).l := hB0.textR 8; have hB2 := hB1.rtake 8; have hn8 := Rs.num_lt hB1 (Nat.le_refl 8); have hn4 := Rs.num_lt hB2 (Nat.le_refl 4)
  refine c_enter (mk 33 [(0, (.slice ao_b l.length cap_b))] (fun _ => undef)) Tryd.func34 (by kernel_rfl) (by kernel_rfl) ?_
  refine c_seq [0] [1] (by kernel_rfl) ?_
  refine c_reg 0 aread_c_R0 (by kernel_rfl) ?_
  refine at_do (by kernel_rfl) (op_new (.cells #[(.string (⟨#[]⟩ : ByteArray)), (.int .u64 0), (.int .u32 0)] 60) (fun N => (.pointer (some ⟨N, 0, none⟩))) (fun _ => by kernel_rfl) (fun w2_ b1_ h3_ q4_ F5_ => ?_))
  have d6_ : Dis (One b1_) (Ar ao_b (B l)) := Dis.fresh (New.one q4_) (Rd.in h_b)
  have N7_ : New w N0 (One b1_) := New.made q4_ (Fr.size (Fr.refl w N0))
  have T8_ := Fr.tr (Fr.refl w N0) F5_
  refine at_pures 2 (by kernel_rfl) (by kernel_rfl) ?_
  refine at_done (by kernel_rfl) ?_
  refine then_n ?_
  refine c_seq [1, 0] [1, 1] (by kernel_rfl) ?_
  refine c_reg 1 aread_c_R1 (by kernel_rfl) ?_
  refine at_pures 1 (by kernel_rfl) (by kernel_rfl) ?_
  have h9_ := Rd.keep' h_b F5_ Dis.n0
  refine at_do (by kernel_rfl) (op_call 50 #[(.tmp 7)] #[(.slice ao_b l.length cap_b)] (by kernel_rfl) (by kernel_rfl) (by kernel_rfl) ?_)
  have C19_ := rnew_c (.slice ao_b l.length cap_b) l w2_ ⟨_, _, rfl, h9_⟩  (by first | omega | assumption)
  refine Calls.mono C19_ ?_
  rintro e18_ w16_ ⟨b10_, aorr11_, caprr12_, rfl, h13_, F17_, h15_⟩
  refine ⟨_, rfl, ?_⟩
  have d20_ : Dis (rrS b10_ aorr11_ (Rs.mk 0 l)) (Ar ao_b (B l)) := Dis.fresh h15_ (Rd.in h9_)
  have d21_ : Dis (rrS b10_ aorr11_ (Rs.mk 0 l)) (One b1_) := Dis.fresh h15_ (In.one h3_)
  have T22_ := Fr.tr T8_ F17_
  have h23_ := Rd.keep' h9_ F17_ Dis.n0
  have h24_ := Fr.keep F17_ h3_ Dis.n0
  have N26_ : New w N0 (rrS b10_ aorr11_ (Rs.mk 0 l)) := New.later' h15_ (Fr.size T8_)
  refine at_pures 3 (by kernel_rfl) (by kernel_rfl) ?_
  refine at_done (by kernel_rfl) ?_
  refine then_n ?_
  refine c_seq [1, 1, 0] [1, 1, 1] (by kernel_rfl) ?_
  refine c_reg 2 aread_c_R2 (by kernel_rfl) ?_
  refine at_do (by kernel_rfl) (op_new (.cells #[(.string (⟨#[]⟩ : ByteArray)), (.int .u64 0), (.int .u32 0)] 60) (fun N => (.pointer (some ⟨N, 0, none⟩))) (fun _ => by kernel_rfl) (fun w28_ b27_ h29_ q30_ F31_ => ?_))
  have d32_ : Dis (One b27_) (Ar ao_b (B l)) := Dis.fresh (New.one q30_) (Rd.in h23_)
  have d33_ : Dis (One b27_) (One b1_) := Dis.fresh (New.one q30_) (In.one h24_)
  have d34_ : Dis (One b27_) (rrS b10_ aorr11_ (Rs.mk 0 l)) := Dis.fresh (New.one q30_) (RrAt.in h13_)
  have N35_ : New w N0 (One b27_) := New.made q30_ (Fr.size T22_)
  have T36_ := Fr.tr T22_ F31_
  refine at_done (by kernel_rfl) ?_
  refine then_n ?_
  refine c_seq [1, 1, 1, 0] [1, 1, 1, 1] (by kernel_rfl) ?_
  refine c_reg 3 aread_c_R3 (by kernel_rfl) ?_
  refine at_pures 1 (by kernel_rfl) (by kernel_rfl) ?_
  have h37_ := Rd.keep' h23_ F31_ Dis.n0
  have h38_ := Fr.keep F31_ h24_ Dis.n0
  have h39_ := RrAt.keep h13_ F31_ Dis.n0
  refine at_do (by kernel_rfl) (op_call 51 #[(.tmp 9), (.const (.int .i64 8))] #[(.pointer (some ⟨b10_, 0, none⟩)), (.int .i64 8)] (by kernel_rfl) (by kernel_rfl) (by kernel_rfl) ?_)
  have C54_ := rtext_c b10_ aorr11_ caprr12_ (Rs.mk 0 l) 8 w28_ h39_  (by first | omega | assumption)
  refine Calls.mono C54_ ?_
  rintro e53_ w51_ ⟨oc40_, aorr41_, caprr42_, aoout43_, rfl, h44_, h45_, F52_, h47_, h48_, h49_, h50_⟩
  refine ⟨_, rfl, ?_⟩
  have d55_ : Dis (Ar aoout43_ (B ((Rs.mk 0 l).text 8))) (Ar ao_b (B l)) := Dis.step d20_ h48_ (Rd.in h37_)
  have d56_ : Dis (Ar aoout43_ (B ((Rs.mk 0 l).text 8))) (One b1_) := Dis.step d21_ h48_ (In.one h38_)
  have d57_ : Dis (Ar aoout43_ (B ((Rs.mk 0 l).text 8))) (One b27_) := Dis.step (Dis.sym d34_) h48_ (In.one h29_)
  have T58_ := Fr.then T36_ F52_ (Sub.new Sub.inl N26_)
  have d59_ : Dis (rrS b10_ aorr41_ ((Rs.mk 0 l).textR 8)) (Ar ao_b (B l)) := Dis.step d20_ h47_ (Rd.in h37_)
  have h60_ := Rd.keep' h37_ F52_ (Dis.sub Sub.inl (Dis.sym d20_))
  have d61_ : Dis (rrS b10_ aorr41_ ((Rs.mk 0 l).textR 8)) (One b1_) := Dis.step d21_ h47_ (In.one h38_)
  have h62_ := Fr.keep F52_ h38_ (Dis.sub Sub.inl (Dis.sym d21_))
  have d63_ : Dis (rrS b10_ aorr41_ ((Rs.mk 0 l).textR 8)) (One b27_) := Dis.step (Dis.sym d34_) h47_ (In.one h29_)
  have h64_ := Fr.keep F52_ h29_ (Dis.sub Sub.inl d34_)
  have N65_ := New.trans N26_ h47_ (Fr.size T36_)
  have N67_ := New.trans N26_ h48_ (Fr.size T36_)
  refine at_run (.string (toStr ((Rs.mk 0 l).text 8))) _ (by kernel_rfl) (run_bytes_str 22 9 5 (.tmp 10) aoout43_ (((Rs.mk 0 l).text 8).length) oc40_ ((Rs.mk 0 l).text 8) (by kernel_rfl) (by kernel_rfl) (by kernel_rfl) (by kernel_rfl) (by kernel_rfl) h45_ (by first | rfl | omega)) ?_
  refine at_pures 4 (by kernel_rfl) (by kernel_rfl) ?_
  refine at_do (by kernel_rfl) (op_store 9 (.tmp 12) (.tmp 11) b27_ 0 (.string (toStr ((Rs.mk 0 l).text 8))) _ _ #[(.string (toStr ((Rs.mk 0 l).text 8))), (.int .u64 0), (.int .u32 0)] (by kernel_rfl) (by kernel_rfl) (by kernel_rfl) h64_ (by kernel_rfl) (by kernel_rfl) (by kernel_rfl) (by kernel_rfl) (fun w68_ h69_ z70_ F71_ => ?_))
  have T72_ := Fr.then T58_ F71_ N35_
  have h73_ := Rd.keep' h60_ F71_ (Dis.sym d32_)
  have h74_ := Fr.keep F71_ h62_ (Dis.sym d33_)
  have h75_ := RrAt.keep h44_ F71_ d63_
  have h76_ := Rd.keep' h45_ F71_ d57_
  refine at_done (by kernel_rfl) ?_
  refine then_n ?_
  refine c_seq [1, 1, 1, 1, 0] [1, 1, 1, 1, 1] (by kernel_rfl) ?_
  refine c_reg 4 aread_c_R4 (by kernel_rfl) ?_
  refine at_pures 1 (by kernel_rfl) (by kernel_rfl) ?_
  refine at_do (by kernel_rfl) (op_call 52 #[(.tmp 13)] #[(.pointer (some ⟨b10_, 0, none⟩))] (by kernel_rfl) (by kernel_rfl) (by kernel_rfl) ?_)
  have C85_ := rlong_c b10_ aorr41_ caprr42_ ((Rs.mk 0 l).textR 8) w68_ h75_  (by first | omega | assumption)
  refine Calls.mono C85_ ?_
  rintro e84_ w82_ ⟨aorr77_, caprr78_, rfl, h79_, F83_, h81_⟩
  refine ⟨_, rfl, ?_⟩
  have T86_ := Fr.then T72_ F83_ (Sub.new Sub.inl N65_)
  have d87_ : Dis (rrS b10_ aorr77_ (((Rs.mk 0 l).textR 8).take 8)) (Ar ao_b (B l)) := Dis.step d59_ h81_ (Rd.in h73_)
  have h88_ := Rd.keep' h73_ F83_ (Dis.sub Sub.inl (Dis.sym d59_))
  have d89_ : Dis (rrS b10_ aorr77_ (((Rs.mk 0 l).textR 8).take 8)) (One b1_) := Dis.step d61_ h81_ (In.one h74_)
  have h90_ := Fr.keep F83_ h74_ (Dis.sub Sub.inl (Dis.sym d61_))
  have d91_ : Dis (rrS b10_ aorr77_ (((Rs.mk 0 l).textR 8).take 8)) (One b27_) := Dis.step d63_ h81_ (In.one h69_)
  have h92_ := Fr.keep F83_ h69_ (Dis.sub Sub.inl (Dis.sym d63_))
  have h93_ := Rd.keep' h76_ F83_ h49_
  have N94_ := New.trans N65_ h81_ (Fr.size T72_)
  refine at_pures 3 (by kernel_rfl) (by kernel_rfl) ?_
  refine at_do (by kernel_rfl) (op_store 34 (.tmp 15) (.tmp 14) b27_ 1 (.int .u64 (((Rs.mk 0 l).textR 8).num 8 : Int)) _ _ #[(.string (toStr ((Rs.mk 0 l).text 8))), (.int .u64 (((Rs.mk 0 l).textR 8).num 8 : Int)), (.int .u32 0)] (by kernel_rfl) (by kernel_rfl) (by kernel_rfl) h92_ (by kernel_rfl) (by kernel_rfl) (by kernel_rfl) (by kernel_rfl) (fun w95_ h96_ z97_ F98_ => ?_))
  have T99_ := Fr.then T86_ F98_ N35_
  have h100_ := Rd.keep' h88_ F98_ (Dis.sym d32_)
  have h101_ := Fr.keep F98_ h90_ (Dis.sym d33_)
  have h102_ := RrAt.keep h79_ F98_ d91_
  have h103_ := Rd.keep' h93_ F98_ d57_
  refine at_done (by kernel_rfl) ?_
  refine then_n ?_
  refine c_seq [1, 1, 1, 1, 1, 0] [1, 1, 1, 1, 1, 1] (by kernel_rfl) ?_
  refine c_reg 5 aread_c_R5 (by kernel_rfl) ?_
  refine at_pures 1 (by kernel_rfl) (by kernel_rfl) ?_
  refine at_do (by kernel_rfl) (op_call 53 #[(.tmp 16)] #[(.pointer (some ⟨b10_, 0, none⟩))] (by kernel_rfl) (by kernel_rfl) (by kernel_rfl) ?_)
  have C112_ := rnum_c b10_ aorr77_ caprr78_ (((Rs.mk 0 l).textR 8).take 8) w95_ h102_  (by first | omega | assumption)
  refine Calls.mono C112_ ?_
  rintro e111_ w109_ ⟨aorr104_, caprr105_, rfl, h106_, F110_, h108_⟩
  refine ⟨_, rfl, ?_⟩
  have T113_ := Fr.then T99_ F110_ (Sub.new Sub.inl N94_)
  have d114_ : Dis (rrS b10_ aorr104_ ((((Rs.mk 0 l).textR 8).take 8).take 4)) (Ar ao_b (B l)) := Dis.step d87_ h108_ (Rd.in h100_)
  have h115_ := Rd.keep' h100_ F110_ (Dis.sub Sub.inl (Dis.sym d87_))
  have d116_ : Dis (rrS b10_ aorr104_ ((((Rs.mk 0 l).textR 8).take 8).take 4)) (One b1_) := Dis.step d89_ h108_ (In.one h101_)
  have h117_ := Fr.keep F110_ h101_ (Dis.sub Sub.inl (Dis.sym d89_))
  have d118_ : Dis (rrS b10_ aorr104_ ((((Rs.mk 0 l).textR 8).take 8).take 4)) (One b27_) := Dis.step d91_ h108_ (In.one h96_)
  have h119_ := Fr.keep F110_ h96_ (Dis.sub Sub.inl (Dis.sym d91_))
  have h120_ := Rd.keep' h103_ F110_ h49_
  have N121_ := New.trans N94_ h108_ (Fr.size T99_)
  refine at_pures 3 (by kernel_rfl) (by kernel_rfl) ?_
  refine at_do (by kernel_rfl) (op_store 58 (.tmp 18) (.tmp 17) b27_ 2 (.int .u32 ((((Rs.mk 0 l).textR 8).take 8).num 4 : Int)) _ _ #[(.string (toStr ((Rs.mk 0 l).text 8))), (.int .u64 (((Rs.mk 0 l).textR 8).num 8 : Int)), (.int .u32 ((((Rs.mk 0 l).textR 8).take 8).num 4 : Int))] (by kernel_rfl) (by kernel_rfl) (by kernel_rfl) h119_ (by kernel_rfl) (by kernel_rfl) (by kernel_rfl) (by kernel_rfl) (fun w122_ h123_ z124_ F125_ => ?_))
  have T126_ := Fr.then T113_ F125_ N35_
  have h127_ := Rd.keep' h115_ F125_ (Dis.sym d32_)
  have h128_ := Fr.keep F125_ h117_ (Dis.sym d33_)
  have h129_ := RrAt.keep h106_ F125_ d118_
  have h130_ := Rd.keep' h120_ F125_ d57_
  refine at_done (by kernel_rfl) ?_
  refine then_n ?_
  refine c_seq [1, 1, 1, 1, 1, 1, 0] [1, 1, 1, 1, 1, 1, 1] (by kernel_rfl) ?_
  refine c_reg 6 aread_c_R6 (by kernel_rfl) ?_
  refine at_pures 1 (by kernel_rfl) (by kernel_rfl) ?_
  refine at_do (by kernel_rfl) (op_call 54 #[(.tmp 19)] #[(.pointer (some ⟨b10_, 0, none⟩))] (by kernel_rfl) (by kernel_rfl) (by kernel_rfl) ?_)
  have C135_ := rend_c b10_ aorr104_ caprr105_ ((((Rs.mk 0 l).textR 8).take 8).take 4) w122_ h129_  
  refine Calls.mono C135_ ?_
  rintro e134_ w132_ ⟨rfl, F133_⟩
  refine ⟨_, rfl, ?_⟩
  have T136_ := Fr.tr T126_ F133_
  have h137_ := Rd.keep' h127_ F133_ Dis.n0
  have h138_ := Fr.keep F133_ h128_ Dis.n0
  have h139_ := RrAt.keep h129_ F133_ Dis.n0
  have h140_ := Fr.keep F133_ h123_ Dis.n0
  have h141_ := Rd.keep' h130_ F133_ Dis.n0
  refine at_pures 3 (by kernel_rfl) (by kernel_rfl) ?_
  refine at_done (by kernel_rfl) ?_
  refine then_n ?_
  refine c_seq [1, 1, 1, 1, 1, 1, 1, 0] [1, 1, 1, 1, 1, 1, 1, 1] (by kernel_rfl) ?_
  refine c_seq [1, 1, 1, 1, 1, 1, 1, 0, 0] [1, 1, 1, 1, 1, 1, 1, 0, 1] (by kernel_rfl) ?_
  refine c_reg 7 aread_c_R7 (by kernel_rfl) ?_
  refine at_pures 2 (by kernel_rfl) (by kernel_rfl) ?_
  refine at_split ((((((Rs.mk 0 l).textR 8).take 8).take 4).end : Int) == (0 : Int)) (by kernel_rfl) (by kernel_rfl) (fun c142_ => ?_) (fun c142_ => ?_)
  · -- yes
    replace c142_ : (((((Rs.mk 0 l).textR 8).take 8).take 4).end : Int) = (0 : Int) := by simpa using c142_
    refine at_loadN 60 (.tmp 5) b27_ 0 3 _ _ _ #[(.string (toStr ((Rs.mk 0 l).text 8))), (.int .u64 (((Rs.mk 0 l).textR 8).num 8 : Int)), (.int .u32 ((((Rs.mk 0 l).textR 8).take 8).num 4 : Int))] (by kernel_rfl) (by kernel_rfl) (by kernel_rfl) (by kernel_rfl) (by kernel_rfl) h140_ (by kernel_rfl) (by kernel_rfl) ?_
    refine at_do (by kernel_rfl) (op_call 36 #[(.tmp 24)] #[(.agg #[(.string (toStr ((Rs.mk 0 l).text 8))), (.int .u64 (((Rs.mk 0 l).textR 8).num 8 : Int)), (.int .u32 ((((Rs.mk 0 l).textR 8).take 8).num 4 : Int))])] (by kernel_rfl) (by kernel_rfl) (by kernel_rfl) ?_)
    have C147_ := aright_c (toStr ((Rs.mk 0 l).text 8)) (((Rs.mk 0 l).textR 8).num 8) ((((Rs.mk 0 l).textR 8).take 8).num 4) w132_   
    refine Calls.mono C147_ ?_
    rintro e146_ w144_ ⟨rfl, F145_⟩
    refine ⟨_, rfl, ?_⟩
    have T148_ := Fr.tr T136_ F145_
    have h149_ := Rd.keep' h137_ F145_ Dis.n0
    have h150_ := Fr.keep F145_ h138_ Dis.n0
    have h151_ := RrAt.keep h139_ F145_ Dis.n0
    have h152_ := Fr.keep F145_ h140_ Dis.n0
    have h153_ := Rd.keep' h141_ F145_ Dis.n0
    refine at_pures 7 (by kernel_rfl) (by kernel_rfl) ?_
    refine at_done (by kernel_rfl) ?_
    refine then_n ?_
    refine c_if (.tmp 27) (!(rightS (toStr ((Rs.mk 0 l).text 8)))) [1, 1, 1, 1, 1, 1, 1, 0, 1, 0] [1, 1, 1, 1, 1, 1, 1, 0, 1, 1] (by kernel_rfl) (by kernel_rfl) (fun c154_ => ?_) (fun c154_ => ?_)
    · -- yes
      replace c154_ : (rightS (toStr ((Rs.mk 0 l).text 8))) = false := by simpa using c154_
      refine c_reg 8 aread_c_R8 (by kernel_rfl) ?_
      refine at_pures 1 (by kernel_rfl) (by kernel_rfl) ?_
      refine at_done (by kernel_rfl) ?_
      refine then_n ?_
      refine c_seq [1, 1, 1, 1, 1, 1, 1, 1, 0] [1, 1, 1, 1, 1, 1, 1, 1, 1] (by kernel_rfl) ?_
      refine c_seq [1, 1, 1, 1, 1, 1, 1, 1, 0, 0] [1, 1, 1, 1, 1, 1, 1, 1, 0, 1] (by kernel_rfl) ?_
      refine c_reg 9 aread_c_R9 (by kernel_rfl) ?_
      refine at_pures 2 (by kernel_rfl) (by kernel_rfl) ?_
      refine at_done (by kernel_rfl) ?_
      refine then_n ?_
      refine c_then (.tmp 29) [1, 1, 1, 1, 1, 1, 1, 1, 0, 1, 0] [1, 1, 1, 1, 1, 1, 1, 1, 0, 1, 1] (by kernel_rfl) (by kernel_rfl) ?_
      refine c_seq [1, 1, 1, 1, 1, 1, 1, 1, 0, 1, 0, 0] [1, 1, 1, 1, 1, 1, 1, 1, 0, 1, 0, 1] (by kernel_rfl) ?_
      refine c_reg 10 aread_c_R10 (by kernel_rfl) ?_
      refine at_pures 2 (by kernel_rfl) (by kernel_rfl) ?_
      refine at_do (by kernel_rfl) (op_store 60 (.tmp 2) (.tmp 30) b1_ 0 (.agg #[(.string (⟨#[]⟩ : ByteArray)), (.int .u64 0), (.int .u32 0)]) _ _ #[(.string (⟨#[]⟩ : ByteArray)), (.int .u64 0), (.int .u32 0)] (by kernel_rfl) (by kernel_rfl) (by kernel_rfl) h150_ (by kernel_rfl) (by kernel_rfl) (by kernel_rfl) (by kernel_rfl) (fun w155_ h156_ z157_ F158_ => ?_))
      have T159_ := Fr.then T148_ F158_ N7_
      have h160_ := Rd.keep' h149_ F158_ (Dis.sym d6_)
      have h161_ := RrAt.keep h151_ F158_ d116_
      have h162_ := Fr.keep F158_ h152_ d33_
      have h163_ := Rd.keep' h153_ F158_ d56_
      refine at_pures 4 (by kernel_rfl) (by kernel_rfl) ?_
      refine at_done (by kernel_rfl) ?_
      refine then_n ?_
      refine c_ret (by kernel_rfl) ?_
      refine then_r ?_
      refine fin_retL [.cell 2 60, .tmp 3] [(.agg #[(.string (⟨#[]⟩ : ByteArray)), (.int .u64 0), (.int .u32 0)]), (.int .i64 2)] (.tuple #[(.agg #[(.string (⟨#[]⟩ : ByteArray)), (.int .u64 0), (.int .u32 0)]), (.int .i64 2)]) (by kernel_rfl) (by rfl) ⟨ResOne.cellN (off := 0) (n := 3) (vs := #[(.string (⟨#[]⟩ : ByteArray)), (.int .u64 0), (.int .u32 0)]) (by kernel_rfl) (by kernel_rfl) (by kernel_rfl) h156_ (by kernel_rfl) (by kernel_rfl), ResOne.tmp (by kernel_rfl), trivial⟩ (by rfl) ?_
      exact ⟨(by have hq := accF_b (l := l) (show ((((Rs.mk 0 l).textR 8).take 8).take 4).end = 0 by omega) (show rightS (toStr ((Rs.mk 0 l).text 8)) = false by with_reducible assumption); rw [hq.1, hq.2]; rfl), T159_⟩
    · -- no
      replace c154_ : (rightS (toStr ((Rs.mk 0 l).text 8))) = true := by simpa using c154_
      refine c_skip (by kernel_rfl) ?_
      refine then_n ?_
      refine c_seq [1, 1, 1, 1, 1, 1, 1, 1, 0] [1, 1, 1, 1, 1, 1, 1, 1, 1] (by kernel_rfl) ?_
      refine c_seq [1, 1, 1, 1, 1, 1, 1, 1, 0, 0] [1, 1, 1, 1, 1, 1, 1, 1, 0, 1] (by kernel_rfl) ?_
      refine c_reg 9 aread_c_R9 (by kernel_rfl) ?_
      refine at_pures 2 (by kernel_rfl) (by kernel_rfl) ?_
      refine at_done (by kernel_rfl) ?_
      refine then_n ?_
      refine c_if (.tmp 29) ((((((Rs.mk 0 l).textR 8).take 8).take 4).end : Int) != (0 : Int)) [1, 1, 1, 1, 1, 1, 1, 1, 0, 1, 0] [1, 1, 1, 1, 1, 1, 1, 1, 0, 1, 1] (by kernel_rfl) (by kernel_rfl) (fun c164_ => ?_) (fun c164_ => ?_)
      · -- yes
        replace c164_ : (((((Rs.mk 0 l).textR 8).take 8).take 4).end : Int) ≠ (0 : Int) := by simpa using c164_
        refine c_seq [1, 1, 1, 1, 1, 1, 1, 1, 0, 1, 0, 0] [1, 1, 1, 1, 1, 1, 1, 1, 0, 1, 0, 1] (by kernel_rfl) ?_
        refine c_reg 10 aread_c_R10 (by kernel_rfl) ?_
        refine at_pures 2 (by kernel_rfl) (by kernel_rfl) ?_
        refine at_do (by kernel_rfl) (op_store 60 (.tmp 2) (.tmp 30) b1_ 0 (.agg #[(.string (⟨#[]⟩ : ByteArray)), (.int .u64 0), (.int .u32 0)]) _ _ #[(.string (⟨#[]⟩ : ByteArray)), (.int .u64 0), (.int .u32 0)] (by kernel_rfl) (by kernel_rfl) (by kernel_rfl) h150_ (by kernel_rfl) (by kernel_rfl) (by kernel_rfl) (by kernel_rfl) (fun w165_ h166_ z167_ F168_ => ?_))
        have T169_ := Fr.then T148_ F168_ N7_
        have h170_ := Rd.keep' h149_ F168_ (Dis.sym d6_)
        have h171_ := RrAt.keep h151_ F168_ d116_
        have h172_ := Fr.keep F168_ h152_ d33_
        have h173_ := Rd.keep' h153_ F168_ d56_
        refine at_pures 4 (by kernel_rfl) (by kernel_rfl) ?_
        refine at_done (by kernel_rfl) ?_
        refine then_n ?_
        refine c_ret (by kernel_rfl) ?_
        refine then_r ?_
        refine fin_retL [.cell 2 60, .tmp 3] [(.agg #[(.string (⟨#[]⟩ : ByteArray)), (.int .u64 0), (.int .u32 0)]), (.int .i64 (((((Rs.mk 0 l).textR 8).take 8).take 4).end : Int))] (.tuple #[(.agg #[(.string (⟨#[]⟩ : ByteArray)), (.int .u64 0), (.int .u32 0)]), (.int .i64 (((((Rs.mk 0 l).textR 8).take 8).take 4).end : Int))]) (by kernel_rfl) (by rfl) ⟨ResOne.cellN (off := 0) (n := 3) (vs := #[(.string (⟨#[]⟩ : ByteArray)), (.int .u64 0), (.int .u32 0)]) (by kernel_rfl) (by kernel_rfl) (by kernel_rfl) h166_ (by kernel_rfl) (by kernel_rfl), ResOne.tmp (by kernel_rfl), trivial⟩ (by rfl) ?_
        exact ⟨(by have hq := accF_c (l := l) (show ((((Rs.mk 0 l).textR 8).take 8).take 4).end ≠ 0 by omega); rw [hq.1, hq.2]; rfl), T169_⟩
      · -- no
        replace c164_ : (((((Rs.mk 0 l).textR 8).take 8).take 4).end : Int) = (0 : Int) := by simpa using c164_
        refine c_skip (by kernel_rfl) ?_
        refine then_n ?_
        refine c_seq [1, 1, 1, 1, 1, 1, 1, 1, 1, 0] [1, 1, 1, 1, 1, 1, 1, 1, 1, 1] (by kernel_rfl) ?_
        refine c_reg 11 aread_c_R11 (by kernel_rfl) ?_
        refine at_loadN 60 (.tmp 5) b27_ 0 3 _ _ _ #[(.string (toStr ((Rs.mk 0 l).text 8))), (.int .u64 (((Rs.mk 0 l).textR 8).num 8 : Int)), (.int .u32 ((((Rs.mk 0 l).textR 8).take 8).num 4 : Int))] (by kernel_rfl) (by kernel_rfl) (by kernel_rfl) (by kernel_rfl) (by kernel_rfl) h152_ (by kernel_rfl) (by kernel_rfl) ?_
        refine at_do (by kernel_rfl) (op_store 60 (.tmp 2) (.tmp 32) b1_ 0 (.agg #[(.string (toStr ((Rs.mk 0 l).text 8))), (.int .u64 (((Rs.mk 0 l).textR 8).num 8 : Int)), (.int .u32 ((((Rs.mk 0 l).textR 8).take 8).num 4 : Int))]) _ _ #[(.string (toStr ((Rs.mk 0 l).text 8))), (.int .u64 (((Rs.mk 0 l).textR 8).num 8 : Int)), (.int .u32 ((((Rs.mk 0 l).textR 8).take 8).num 4 : Int))] (by kernel_rfl) (by kernel_rfl) (by kernel_rfl) h150_ (by kernel_rfl) (by kernel_rfl) (by kernel_rfl) (by kernel_rfl) (fun w174_ h175_ z176_ F177_ => ?_))
        have T178_ := Fr.then T148_ F177_ N7_
        have h179_ := Rd.keep' h149_ F177_ (Dis.sym d6_)
        have h180_ := RrAt.keep h151_ F177_ d116_
        have h181_ := Fr.keep F177_ h152_ d33_
        have h182_ := Rd.keep' h153_ F177_ d56_
        refine at_pures 3 (by kernel_rfl) (by kernel_rfl) ?_
        refine at_done (by kernel_rfl) ?_
        refine then_n ?_
        refine c_ret (by kernel_rfl) ?_
        refine fin_retL [.cell 2 60, .tmp 3] [(.agg #[(.string (toStr ((Rs.mk 0 l).text 8))), (.int .u64 (((Rs.mk 0 l).textR 8).num 8 : Int)), (.int .u32 ((((Rs.mk 0 l).textR 8).take 8).num 4 : Int))]), (.int .i64 0)] (.tuple #[(.agg #[(.string (toStr ((Rs.mk 0 l).text 8))), (.int .u64 (((Rs.mk 0 l).textR 8).num 8 : Int)), (.int .u32 ((((Rs.mk 0 l).textR 8).take 8).num 4 : Int))]), (.int .i64 0)]) (by kernel_rfl) (by rfl) ⟨ResOne.cellN (off := 0) (n := 3) (vs := #[(.string (toStr ((Rs.mk 0 l).text 8))), (.int .u64 (((Rs.mk 0 l).textR 8).num 8 : Int)), (.int .u32 ((((Rs.mk 0 l).textR 8).take 8).num 4 : Int))]) (by kernel_rfl) (by kernel_rfl) (by kernel_rfl) h175_ (by kernel_rfl) (by kernel_rfl), ResOne.tmp (by kernel_rfl), trivial⟩ (by rfl) ?_
        exact ⟨(by first | (exfalso; omega) | (have hq := accF_a (l := l) (show ((((Rs.mk 0 l).textR 8).take 8).take 4).end = 0 by omega) (show rightS (toStr ((Rs.mk 0 l).text 8)) = true by with_reducible assumption); rw [hq.1, hq.2]; rfl)), T178_⟩
  · -- no
    replace c142_ : (((((Rs.mk 0 l).textR 8).take 8).take 4).end : Int) ≠ (0 : Int) := by simpa using c142_
    refine at_pures 7 (by kernel_rfl) (by kernel_rfl) ?_
    refine at_done (by kernel_rfl) ?_
    refine then_n ?_
    refine c_else (.tmp 27) [1, 1, 1, 1, 1, 1, 1, 0, 1, 0] [1, 1, 1, 1, 1, 1, 1, 0, 1, 1] (by kernel_rfl) (by kernel_rfl) ?_
    refine c_skip (by kernel_rfl) ?_
    refine then_n ?_
    refine c_seq [1, 1, 1, 1, 1, 1, 1, 1, 0] [1, 1, 1, 1, 1, 1, 1, 1, 1] (by kernel_rfl) ?_
    refine c_seq [1, 1, 1, 1, 1, 1, 1, 1, 0, 0] [1, 1, 1, 1, 1, 1, 1, 1, 0, 1] (by kernel_rfl) ?_
    refine c_reg 9 aread_c_R9 (by kernel_rfl) ?_
    refine at_pures 2 (by kernel_rfl) (by kernel_rfl) ?_
    refine at_done (by kernel_rfl) ?_
    refine then_n ?_
    refine c_if (.tmp 29) ((((((Rs.mk 0 l).textR 8).take 8).take 4).end : Int) != (0 : Int)) [1, 1, 1, 1, 1, 1, 1, 1, 0, 1, 0] [1, 1, 1, 1, 1, 1, 1, 1, 0, 1, 1] (by kernel_rfl) (by kernel_rfl) (fun c183_ => ?_) (fun c183_ => ?_)
    · -- yes
      replace c183_ : (((((Rs.mk 0 l).textR 8).take 8).take 4).end : Int) ≠ (0 : Int) := by simpa using c183_
      refine c_seq [1, 1, 1, 1, 1, 1, 1, 1, 0, 1, 0, 0] [1, 1, 1, 1, 1, 1, 1, 1, 0, 1, 0, 1] (by kernel_rfl) ?_
      refine c_reg 10 aread_c_R10 (by kernel_rfl) ?_
      refine at_pures 2 (by kernel_rfl) (by kernel_rfl) ?_
      refine at_do (by kernel_rfl) (op_store 60 (.tmp 2) (.tmp 30) b1_ 0 (.agg #[(.string (⟨#[]⟩ : ByteArray)), (.int .u64 0), (.int .u32 0)]) _ _ #[(.string (⟨#[]⟩ : ByteArray)), (.int .u64 0), (.int .u32 0)] (by kernel_rfl) (by kernel_rfl) (by kernel_rfl) h138_ (by kernel_rfl) (by kernel_rfl) (by kernel_rfl) (by kernel_rfl) (fun w184_ h185_ z186_ F187_ => ?_))
      have T188_ := Fr.then T136_ F187_ N7_
      have h189_ := Rd.keep' h137_ F187_ (Dis.sym d6_)
      have h190_ := RrAt.keep h139_ F187_ d116_
      have h191_ := Fr.keep F187_ h140_ d33_
      have h192_ := Rd.keep' h141_ F187_ d56_
      refine at_pures 4 (by kernel_rfl) (by kernel_rfl) ?_
      refine at_done (by kernel_rfl) ?_
      refine then_n ?_
      refine c_ret (by kernel_rfl) ?_
      refine then_r ?_
      refine fin_retL [.cell 2 60, .tmp 3] [(.agg #[(.string (⟨#[]⟩ : ByteArray)), (.int .u64 0), (.int .u32 0)]), (.int .i64 (((((Rs.mk 0 l).textR 8).take 8).take 4).end : Int))] (.tuple #[(.agg #[(.string (⟨#[]⟩ : ByteArray)), (.int .u64 0), (.int .u32 0)]), (.int .i64 (((((Rs.mk 0 l).textR 8).take 8).take 4).end : Int))]) (by kernel_rfl) (by rfl) ⟨ResOne.cellN (off := 0) (n := 3) (vs := #[(.string (⟨#[]⟩ : ByteArray)), (.int .u64 0), (.int .u32 0)]) (by kernel_rfl) (by kernel_rfl) (by kernel_rfl) h185_ (by kernel_rfl) (by kernel_rfl), ResOne.tmp (by kernel_rfl), trivial⟩ (by rfl) ?_
      exact ⟨(by have hq := accF_c (l := l) (show ((((Rs.mk 0 l).textR 8).take 8).take 4).end ≠ 0 by omega); rw [hq.1, hq.2]; rfl), T188_⟩
    · -- no
      replace c183_ : (((((Rs.mk 0 l).textR 8).take 8).take 4).end : Int) = (0 : Int) := by simpa using c183_
      refine c_skip (by kernel_rfl) ?_
      refine then_n ?_
      refine c_seq [1, 1, 1, 1, 1, 1, 1, 1, 1, 0] [1, 1, 1, 1, 1, 1, 1, 1, 1, 1] (by kernel_rfl) ?_
      refine c_reg 11 aread_c_R11 (by kernel_rfl) ?_
      refine at_loadN 60 (.tmp 5) b27_ 0 3 _ _ _ #[(.string (toStr ((Rs.mk 0 l).text 8))), (.int .u64 (((Rs.mk 0 l).textR 8).num 8 : Int)), (.int .u32 ((((Rs.mk 0 l).textR 8).take 8).num 4 : Int))] (by kernel_rfl) (by kernel_rfl) (by kernel_rfl) (by kernel_rfl) (by kernel_rfl) h140_ (by kernel_rfl) (by kernel_rfl) ?_
      refine at_do (by kernel_rfl) (op_store 60 (.tmp 2) (.tmp 32) b1_ 0 (.agg #[(.string (toStr ((Rs.mk 0 l).text 8))), (.int .u64 (((Rs.mk 0 l).textR 8).num 8 : Int)), (.int .u32 ((((Rs.mk 0 l).textR 8).take 8).num 4 : Int))]) _ _ #[(.string (toStr ((Rs.mk 0 l).text 8))), (.int .u64 (((Rs.mk 0 l).textR 8).num 8 : Int)), (.int .u32 ((((Rs.mk 0 l).textR 8).take 8).num 4 : Int))] (by kernel_rfl) (by kernel_rfl) (by kernel_rfl) h138_ (by kernel_rfl) (by kernel_rfl) (by kernel_rfl) (by kernel_rfl) (fun w193_ h194_ z195_ F196_ => ?_))
      have T197_ := Fr.then T136_ F196_ N7_
      have h198_ := Rd.keep' h137_ F196_ (Dis.sym d6_)
      have h199_ := RrAt.keep h139_ F196_ d116_
      have h200_ := Fr.keep F196_ h140_ d33_
      have h201_ := Rd.keep' h141_ F196_ d56_
      refine at_pures 3 (by kernel_rfl) (by kernel_rfl) ?_
      refine at_done (by kernel_rfl) ?_
      refine then_n ?_
      refine c_ret (by kernel_rfl) ?_
      refine fin_retL [.cell 2 60, .tmp 3] [(.agg #[(.string (toStr ((Rs.mk 0 l).text 8))), (.int .u64 (((Rs.mk 0 l).textR 8).num 8 : Int)), (.int .u32 ((((Rs.mk 0 l).textR 8).take 8).num 4 : Int))]), (.int .i64 0)] (.tuple #[(.agg #[(.string (toStr ((Rs.mk 0 l).text 8))), (.int .u64 (((Rs.mk 0 l).textR 8).num 8 : Int)), (.int .u32 ((((Rs.mk 0 l).textR 8).take 8).num 4 : Int))]), (.int .i64 0)]) (by kernel_rfl) (by rfl) ⟨ResOne.cellN (off := 0) (n := 3) (vs := #[(.string (toStr ((Rs.mk 0 l).text 8))), (.int .u64 (((Rs.mk 0 l).textR 8).num 8 : Int)), (.int .u32 ((((Rs.mk 0 l).textR 8).take 8).num 4 : Int))]) (by kernel_rfl) (by kernel_rfl) (by kernel_rfl) h194_ (by kernel_rfl) (by kernel_rfl), ResOne.tmp (by kernel_rfl), trivial⟩ (by rfl) ?_
      exact ⟨(by first | (exfalso; omega) | (have hq := accF_a (l := l) (show ((((Rs.mk 0 l).textR 8).take 8).take 4).end = 0 by omega) (show rightS (toStr ((Rs.mk 0 l).text 8)) = true by with_reducible assumption); rw [hq.1, hq.2]; rfl)), T197_⟩

noncomputable def raread_c_R0 : Array Oper := rAt Tryd.prog 35 [0]
noncomputable def raread_c_R1 : Array Oper := rAt Tryd.prog 35 [1, 0]
noncomputable def raread_c_R2 : Array Oper := rAt Tryd.prog 35 [1, 1, 0]
noncomputable def raread_c_R3 : Array Oper := rAt Tryd.prog 35 [1, 1, 1, 0]
noncomputable def raread_c_R4 : Array Oper := rAt Tryd.prog 35 [1, 1, 1, 1, 0]
noncomputable def raread_c_R5 : Array Oper := rAt Tryd.prog 35 [1, 1, 1, 1, 1, 0]
noncomputable def raread_c_R6 : Array Oper := rAt Tryd.prog 35 [1, 1, 1, 1, 1, 1, 0, 0]
noncomputable def raread_c_R7 : Array Oper := rAt Tryd.prog 35 [1, 1, 1, 1, 1, 1, 0, 1, 0, 0]
noncomputable def raread_c_R8 : Array Oper := rAt Tryd.prog 35 [1, 1, 1, 1, 1, 1, 1, 0, 0]
noncomputable def raread_c_R9 : Array Oper := rAt Tryd.prog 35 [1, 1, 1, 1, 1, 1, 1, 0, 1, 0, 0]
noncomputable def raread_c_R10 : Array Oper := rAt Tryd.prog 35 [1, 1, 1, 1, 1, 1, 1, 1, 0]
set_option maxRecDepth 100000 in
theorem raread_c (ao : Option Addr) (cap : Nat) (l : List Nat) (w : World) (h_b : Rd w ao (B l)) (hl : l.length ≤ 1000000) (hB : Byt l) (hlc : l.length ≤ cap) :
    Calls Tryd.prog 35 #[(.slice ao l.length cap)] w fun e w' => e = .returned (.tuple #[(.agg #[(.string ((accRd l).s)), (.int .u64 ((accRd l).bal : Int)), (.int .u32 ((accRd l).non : Int))]), (.int .i64 (accF l : Int))]) ∧ Fr w w' N0 := by
  have hB0 : Byt (Rs.mk 0 l).l := hB; have hB1 : Byt ((Rs.mk 0 l).textR 8).l := hB0.textR 8; have hB2 := hB1.rtake 8; have hn8 := Rs.num_lt hB1 (Nat.le_refl 8); have hn4 := Rs.num_lt hB2 (Nat.le_refl 4)
  refine c_enter (mk 32 [(0, (.slice ao l.length cap))] (fun _ => undef)) Tryd.func35 (by kernel_rfl) (by kernel_rfl) ?_
  refine c_seq [0] [1] (by kernel_rfl) ?_
  refine c_reg 0 raread_c_R0 (by kernel_rfl) ?_
  refine at_do (by kernel_rfl) (op_new (.cells #[(.string (⟨#[]⟩ : ByteArray)), (.int .u64 0), (.int .u32 0)] 61) (fun N => (.pointer (some ⟨N, 0, none⟩))) (fun _ => by kernel_rfl) (fun w2_ b1_ h3_ q4_ F5_ => ?_))
  have d6_ : Dis (One b1_) (Ar ao (B l)) := Dis.fresh (New.one q4_) (Rd.in h_b)
  have N7_ : New w N0 (One b1_) := New.made q4_ (Fr.size (Fr.refl w N0))
  have T8_ := Fr.tr (Fr.refl w N0) F5_
  refine at_pures 2 (by kernel_rfl) (by kernel_rfl) ?_
  refine at_done (by kernel_rfl) ?_
  refine then_n ?_
  refine c_seq [1, 0] [1, 1] (by kernel_rfl) ?_
  refine c_reg 1 raread_c_R1 (by kernel_rfl) ?_
  refine at_pures 2 (by kernel_rfl) (by kernel_rfl) ?_
  refine at_do (by kernel_rfl) (op_new (.cells #[(.slice ao l.length cap), (.int .i64 0), (.int .i64 0)] 101) (fun N => (.pointer (some ⟨N, 0, none⟩))) (fun _ => by kernel_rfl) (fun w10_ b9_ h11_ q12_ F13_ => ?_))
  have h14_ := Rd.keep' h_b F5_ Dis.n0
  have d15_ : Dis (One b9_) (Ar ao (B l)) := Dis.fresh (New.one q12_) (Rd.in h14_)
  have d16_ : Dis (One b9_) (One b1_) := Dis.fresh (New.one q12_) (In.one h3_)
  have N17_ : New w N0 (One b9_) := New.made q12_ (Fr.size T8_)
  have T18_ := Fr.tr T8_ F13_
  refine at_pures 4 (by kernel_rfl) (by kernel_rfl) ?_
  refine at_done (by kernel_rfl) ?_
  refine then_n ?_
  refine c_seq [1, 1, 0] [1, 1, 1] (by kernel_rfl) ?_
  refine c_reg 2 raread_c_R2 (by kernel_rfl) ?_
  refine at_pures 1 (by kernel_rfl) (by kernel_rfl) ?_
  refine at_do (by kernel_rfl) (op_new (.cells #[(.string (⟨#[]⟩ : ByteArray)), (.int .u64 0), (.int .u32 0)] 61) (fun N => (.pointer (some ⟨N, 0, none⟩))) (fun _ => by kernel_rfl) (fun w20_ b19_ h21_ q22_ F23_ => ?_))
  have h24_ := Rd.keep' h14_ F13_ Dis.n0
  have d25_ : Dis (One b19_) (Ar ao (B l)) := Dis.fresh (New.one q22_) (Rd.in h24_)
  have h26_ := Fr.keep F13_ h3_ Dis.n0
  have d27_ : Dis (One b19_) (One b1_) := Dis.fresh (New.one q22_) (In.one h26_)
  have d28_ : Dis (One b19_) (One b9_) := Dis.fresh (New.one q22_) (In.one h11_)
  have N29_ : New w N0 (One b19_) := New.made q22_ (Fr.size T18_)
  have T30_ := Fr.tr T18_ F23_
  have h31_ := Rd.keep' h24_ F23_ Dis.n0
  have h32_ := Fr.keep F23_ h26_ Dis.n0
  have h33_ := Fr.keep F23_ h11_ Dis.n0
  refine at_do (by kernel_rfl) (op_store 61 (.tmp 5) (.tmp 9) b19_ 0 (.agg #[(.string (⟨#[]⟩ : ByteArray)), (.int .u64 0), (.int .u32 0)]) _ _ #[(.string (⟨#[]⟩ : ByteArray)), (.int .u64 0), (.int .u32 0)] (by kernel_rfl) (by kernel_rfl) (by kernel_rfl) h21_ (by kernel_rfl) (by kernel_rfl) (by kernel_rfl) (by kernel_rfl) (fun w34_ h35_ z36_ F37_ => ?_))
  have T38_ := Fr.then T30_ F37_ N29_
  have h39_ := Rd.keep' h31_ F37_ (Dis.sym d25_)
  have h40_ := Fr.keep F37_ h32_ (Dis.sym d27_)
  have h41_ := Fr.keep F37_ h33_ (Dis.sym d28_)
  refine at_done (by kernel_rfl) ?_
  refine then_n ?_
  refine c_seq [1, 1, 1, 0] [1, 1, 1, 1] (by kernel_rfl) ?_
  refine c_reg 3 raread_c_R3 (by kernel_rfl) ?_
  refine at_pures 1 (by kernel_rfl) (by kernel_rfl) ?_
  refine at_do (by kernel_rfl) (op_call 55 #[(.tmp 10), (.const (.int .i64 8))] #[(.pointer (some ⟨b9_, 0, none⟩)), (.int .i64 8)] (by kernel_rfl) (by kernel_rfl) (by kernel_rfl) ?_)
  have C55_ := rtext4_c b9_ ao cap l 0 0 8 w34_ h39_ h41_ d15_ (by first | omega | assumption) (by first | omega | assumption) (by first | omega | assumption) (by first | omega | assumption)
  refine Calls.mono C55_ ?_
  rintro e54_ w52_ ⟨a42_, e43_, vout44_, rfl, h45_, h46_, F53_, h48_, h49_, h50_, h51_⟩
  have d56_ : Dis (Own vout44_) (Ar ao (B l)) := Dis.step d15_ h48_ (Rd.in h39_)
  have d57_ : Dis (Own vout44_) (One b1_) := Dis.step d16_ h48_ (In.one h40_)
  have d58_ : Dis (Own vout44_) (One b19_) := Dis.step (Dis.sym d28_) h48_ (In.one h35_)
  have T59_ := Fr.then T38_ F53_ N17_
  have h60_ := Rd.keep' h39_ F53_ (Dis.sym d15_)
  have h61_ := Fr.keep F53_ h40_ (Dis.sym d16_)
  have h62_ := Fr.keep F53_ h35_ d28_
  have N64_ : New w N0 (Own vout44_) := New.trans N17_ h48_ (Fr.size T38_)
  have hQ66_ : Rf.r l ⟨0, 0⟩ = Rs.mk 0 l := rfl
  replace h46_ := (id h46_ : Row _ _ _ _ (((Rs.mk 0 l).text 8).length) (B ((Rs.mk 0 l).text 8)))
  obtain ⟨ao67_, cap68_, rfl, hc69_, hm70_, hR71_, ho72_⟩ := Row.read h46_
  have hQ73_ := h51_; rw [hQ66_] at hQ73_
  refine ⟨_, rfl, ?_⟩
  refine at_run (.string (toStr ((Rs.mk 0 l).text 8))) _ (by kernel_rfl) (run_bytes_str 22 9 5 (.tmp 11) ao67_ (((Rs.mk 0 l).text 8).length) cap68_ ((Rs.mk 0 l).text 8) (by kernel_rfl) (by kernel_rfl) (by kernel_rfl) (by kernel_rfl) (by kernel_rfl) (Row.rd h46_) (by first | rfl | omega)) ?_
  refine at_pures 4 (by kernel_rfl) (by kernel_rfl) ?_
  refine at_do (by kernel_rfl) (op_store 9 (.tmp 13) (.tmp 12) b19_ 0 (.string (toStr ((Rs.mk 0 l).text 8))) _ _ #[(.string (toStr ((Rs.mk 0 l).text 8))), (.int .u64 0), (.int .u32 0)] (by kernel_rfl) (by kernel_rfl) (by kernel_rfl) h62_ (by kernel_rfl) (by kernel_rfl) (by kernel_rfl) (by kernel_rfl) (fun w74_ h75_ z76_ F77_ => ?_))
  have T78_ := Fr.then T59_ F77_ N29_
  have h79_ := Rd.keep' h60_ F77_ (Dis.sym d25_)
  have h80_ := Fr.keep F77_ h61_ (Dis.sym d27_)
  have h81_ := Fr.keep F77_ h45_ (Dis.sym d28_)
  have h82_ := Row.keep h46_ F77_ d58_
  refine at_done (by kernel_rfl) ?_
  refine then_n ?_
  refine c_seq [1, 1, 1, 1, 0] [1, 1, 1, 1, 1] (by kernel_rfl) ?_
  refine c_reg 4 raread_c_R4 (by kernel_rfl) ?_
  refine at_pures 1 (by kernel_rfl) (by kernel_rfl) ?_
  refine at_do (by kernel_rfl) (op_call 56 #[(.tmp 14), (.const (.int .i64 8))] #[(.pointer (some ⟨b9_, 0, none⟩)), (.int .i64 8)] (by kernel_rfl) (by kernel_rfl) (by kernel_rfl) ?_)
  have C92_ := rnumber_c b9_ ao cap l a42_ e43_ 8 w74_ h79_ h81_ d15_ (by first | omega | assumption) (by first | omega | assumption) (by first | omega | assumption) (by first | omega | assumption) (by first | omega | assumption)
  refine Calls.mono C92_ ?_
  rintro e91_ w89_ ⟨a83_, e84_, rfl, h85_, F90_, h87_, h88_⟩
  have T93_ := Fr.then T78_ F90_ N17_
  have h94_ := Rd.keep' h79_ F90_ (Dis.sym d15_)
  have h95_ := Fr.keep F90_ h80_ (Dis.sym d16_)
  have h96_ := Fr.keep F90_ h75_ d28_
  have h97_ := Row.keep h82_ F90_ h49_
  have hQ98_ := h88_; rw [hQ73_] at hQ98_
  refine ⟨(.int .u64 (((Rs.mk 0 l).textR 8).num 8 : Int)), (by rw [hQ73_]), ?_⟩
  refine at_pures 3 (by kernel_rfl) (by kernel_rfl) ?_
  refine at_do (by kernel_rfl) (op_store 34 (.tmp 16) (.tmp 15) b19_ 1 (.int .u64 (((Rs.mk 0 l).textR 8).num 8 : Int)) _ _ #[(.string (toStr ((Rs.mk 0 l).text 8))), (.int .u64 (((Rs.mk 0 l).textR 8).num 8 : Int)), (.int .u32 0)] (by kernel_rfl) (by kernel_rfl) (by kernel_rfl) h96_ (by kernel_rfl) (by kernel_rfl) (by kernel_rfl) (by kernel_rfl) (fun w99_ h100_ z101_ F102_ => ?_))
  have T103_ := Fr.then T93_ F102_ N29_
  have h104_ := Rd.keep' h94_ F102_ (Dis.sym d25_)
  have h105_ := Fr.keep F102_ h95_ (Dis.sym d27_)
  have h106_ := Fr.keep F102_ h85_ (Dis.sym d28_)
  have h107_ := Row.keep h97_ F102_ d58_
  refine at_done (by kernel_rfl) ?_
  refine then_n ?_
  refine c_seq [1, 1, 1, 1, 1, 0] [1, 1, 1, 1, 1, 1] (by kernel_rfl) ?_
  refine c_reg 5 raread_c_R5 (by kernel_rfl) ?_
  refine at_pures 1 (by kernel_rfl) (by kernel_rfl) ?_
  refine at_do (by kernel_rfl) (op_call 56 #[(.tmp 17), (.const (.int .i64 4))] #[(.pointer (some ⟨b9_, 0, none⟩)), (.int .i64 4)] (by kernel_rfl) (by kernel_rfl) (by kernel_rfl) ?_)
  have C117_ := rnumber_c b9_ ao cap l a83_ e84_ 4 w99_ h104_ h106_ d15_ (by first | omega | assumption) (by first | omega | assumption) (by first | omega | assumption) (by first | omega | assumption) (by first | omega | assumption)
  refine Calls.mono C117_ ?_
  rintro e116_ w114_ ⟨a108_, e109_, rfl, h110_, F115_, h112_, h113_⟩
  have T118_ := Fr.then T103_ F115_ N17_
  have h119_ := Rd.keep' h104_ F115_ (Dis.sym d15_)
  have h120_ := Fr.keep F115_ h105_ (Dis.sym d16_)
  have h121_ := Fr.keep F115_ h100_ d28_
  have h122_ := Row.keep h107_ F115_ h49_
  have hQ123_ := h113_; rw [hQ98_] at hQ123_
  refine ⟨(.int .u64 ((((Rs.mk 0 l).textR 8).take 8).num 4 : Int)), (by rw [hQ98_]), ?_⟩
  refine at_int (kd := .u32) (IntKind.u32.wrap (((((Rs.mk 0 l).textR 8).take 8).num 4 : Int))) (((((Rs.mk 0 l).textR 8).take 8).num 4 : Int)) (by kernel_rfl) (by kernel_rfl) (wrapN_u32 (by omega) (by omega)) ?_
  refine at_pures 4 (by kernel_rfl) (by kernel_rfl) ?_
  refine at_do (by kernel_rfl) (op_store 58 (.tmp 20) (.tmp 19) b19_ 2 (.int .u32 ((((Rs.mk 0 l).textR 8).take 8).num 4 : Int)) _ _ #[(.string (toStr ((Rs.mk 0 l).text 8))), (.int .u64 (((Rs.mk 0 l).textR 8).num 8 : Int)), (.int .u32 ((((Rs.mk 0 l).textR 8).take 8).num 4 : Int))] (by kernel_rfl) (by kernel_rfl) (by kernel_rfl) h121_ (by kernel_rfl) (by kernel_rfl) (by kernel_rfl) (by kernel_rfl) (fun w124_ h125_ z126_ F127_ => ?_))
  have T128_ := Fr.then T118_ F127_ N29_
  have h129_ := Rd.keep' h119_ F127_ (Dis.sym d25_)
  have h130_ := Fr.keep F127_ h120_ (Dis.sym d27_)
  have h131_ := Fr.keep F127_ h110_ (Dis.sym d28_)
  have h132_ := Row.keep h122_ F127_ d58_
  refine at_done (by kernel_rfl) ?_
  refine then_n ?_
  refine c_seq [1, 1, 1, 1, 1, 1, 0] [1, 1, 1, 1, 1, 1, 1] (by kernel_rfl) ?_
  refine c_seq [1, 1, 1, 1, 1, 1, 0, 0] [1, 1, 1, 1, 1, 1, 0, 1] (by kernel_rfl) ?_
  refine c_reg 6 raread_c_R6 (by kernel_rfl) ?_
  refine at_pures 1 (by kernel_rfl) (by kernel_rfl) ?_
  refine at_do (by kernel_rfl) (op_call 57 #[(.tmp 21)] #[(.pointer (some ⟨b9_, 0, none⟩))] (by kernel_rfl) (by kernel_rfl) (by kernel_rfl) ?_)
  have C137_ := rend4_c b9_ ao cap l a108_ e109_ w124_ h129_ h131_  (by first | omega | assumption) (by first | omega | assumption) (by first | omega | assumption)
  refine Calls.mono C137_ ?_
  rintro e136_ w134_ ⟨rfl, F135_⟩
  have T138_ := Fr.tr T128_ F135_
  have h139_ := Rd.keep' h129_ F135_ Dis.n0
  have h140_ := Fr.keep F135_ h130_ Dis.n0
  have h141_ := Fr.keep F135_ h131_ Dis.n0
  have h142_ := Fr.keep F135_ h125_ Dis.n0
  have h143_ := Row.keep h132_ F135_ Dis.n0
  refine ⟨(.int .i64 (((((Rs.mk 0 l).textR 8).take 8).take 4).end : Int)), (by rw [hQ123_]), ?_⟩
  refine at_pures 3 (by kernel_rfl) (by kernel_rfl) ?_
  refine at_done (by kernel_rfl) ?_
  refine then_n ?_
  refine c_if (.tmp 23) ((((((Rs.mk 0 l).textR 8).take 8).take 4).end : Int) != (0 : Int)) [1, 1, 1, 1, 1, 1, 0, 1, 0] [1, 1, 1, 1, 1, 1, 0, 1, 1] (by kernel_rfl) (by kernel_rfl) (fun c144_ => ?_) (fun c144_ => ?_)
  · -- yes
    replace c144_ : (((((Rs.mk 0 l).textR 8).take 8).take 4).end : Int) ≠ (0 : Int) := by simpa using c144_
    refine c_seq [1, 1, 1, 1, 1, 1, 0, 1, 0, 0] [1, 1, 1, 1, 1, 1, 0, 1, 0, 1] (by kernel_rfl) ?_
    refine c_reg 7 raread_c_R7 (by kernel_rfl) ?_
    refine at_pures 2 (by kernel_rfl) (by kernel_rfl) ?_
    refine at_do (by kernel_rfl) (op_call 57 #[(.tmp 25)] #[(.pointer (some ⟨b9_, 0, none⟩))] (by kernel_rfl) (by kernel_rfl) (by kernel_rfl) ?_)
    have C149_ := rend4_c b9_ ao cap l a108_ e109_ w134_ h139_ h141_  (by first | omega | assumption) (by first | omega | assumption) (by first | omega | assumption)
    refine Calls.mono C149_ ?_
    rintro e148_ w146_ ⟨rfl, F147_⟩
    have T150_ := Fr.tr T138_ F147_
    have h151_ := Rd.keep' h139_ F147_ Dis.n0
    have h152_ := Fr.keep F147_ h140_ Dis.n0
    have h153_ := Fr.keep F147_ h141_ Dis.n0
    have h154_ := Fr.keep F147_ h142_ Dis.n0
    have h155_ := Row.keep h143_ F147_ Dis.n0
    refine ⟨(.int .i64 (((((Rs.mk 0 l).textR 8).take 8).take 4).end : Int)), (by rw [hQ123_]), ?_⟩
    refine at_do (by kernel_rfl) (op_store 61 (.tmp 2) (.tmp 24) b1_ 0 (.agg #[(.string (⟨#[]⟩ : ByteArray)), (.int .u64 0), (.int .u32 0)]) _ _ #[(.string (⟨#[]⟩ : ByteArray)), (.int .u64 0), (.int .u32 0)] (by kernel_rfl) (by kernel_rfl) (by kernel_rfl) h152_ (by kernel_rfl) (by kernel_rfl) (by kernel_rfl) (by kernel_rfl) (fun w156_ h157_ z158_ F159_ => ?_))
    have T160_ := Fr.then T150_ F159_ N7_
    have h161_ := Rd.keep' h151_ F159_ (Dis.sym d6_)
    have h162_ := Fr.keep F159_ h153_ d16_
    have h163_ := Fr.keep F159_ h154_ d27_
    have h164_ := Row.keep h155_ F159_ d57_
    refine at_pures 5 (by kernel_rfl) (by kernel_rfl) ?_
    refine at_done (by kernel_rfl) ?_
    refine then_n ?_
    refine c_ret (by kernel_rfl) ?_
    refine then_r ?_
    refine fin_retL [.cell 2 61, .tmp 3] [(.agg #[(.string (⟨#[]⟩ : ByteArray)), (.int .u64 0), (.int .u32 0)]), (.int .i64 (((((Rs.mk 0 l).textR 8).take 8).take 4).end : Int))] (.tuple #[(.agg #[(.string (⟨#[]⟩ : ByteArray)), (.int .u64 0), (.int .u32 0)]), (.int .i64 (((((Rs.mk 0 l).textR 8).take 8).take 4).end : Int))]) (by kernel_rfl) (by rfl) ⟨ResOne.cellN (off := 0) (n := 3) (vs := #[(.string (⟨#[]⟩ : ByteArray)), (.int .u64 0), (.int .u32 0)]) (by kernel_rfl) (by kernel_rfl) (by kernel_rfl) h157_ (by kernel_rfl) (by kernel_rfl), ResOne.tmp (by kernel_rfl), trivial⟩ (by rfl) ?_
    exact ⟨(by have hq := accF_c (l := l) (show ((((Rs.mk 0 l).textR 8).take 8).take 4).end ≠ 0 by omega); rw [hq.1, hq.2]; rfl), T160_⟩
  · -- no
    replace c144_ : (((((Rs.mk 0 l).textR 8).take 8).take 4).end : Int) = (0 : Int) := by simpa using c144_
    refine c_skip (by kernel_rfl) ?_
    refine then_n ?_
    refine c_seq [1, 1, 1, 1, 1, 1, 1, 0] [1, 1, 1, 1, 1, 1, 1, 1] (by kernel_rfl) ?_
    refine c_seq [1, 1, 1, 1, 1, 1, 1, 0, 0] [1, 1, 1, 1, 1, 1, 1, 0, 1] (by kernel_rfl) ?_
    refine c_reg 8 raread_c_R8 (by kernel_rfl) ?_
    refine at_loadN 61 (.tmp 5) b19_ 0 3 _ _ _ #[(.string (toStr ((Rs.mk 0 l).text 8))), (.int .u64 (((Rs.mk 0 l).textR 8).num 8 : Int)), (.int .u32 ((((Rs.mk 0 l).textR 8).take 8).num 4 : Int))] (by kernel_rfl) (by kernel_rfl) (by kernel_rfl) (by kernel_rfl) (by kernel_rfl) h142_ (by kernel_rfl) (by kernel_rfl) ?_
    refine at_do (by kernel_rfl) (op_call 37 #[(.tmp 27)] #[(.agg #[(.string (toStr ((Rs.mk 0 l).text 8))), (.int .u64 (((Rs.mk 0 l).textR 8).num 8 : Int)), (.int .u32 ((((Rs.mk 0 l).textR 8).take 8).num 4 : Int))])] (by kernel_rfl) (by kernel_rfl) (by kernel_rfl) ?_)
    have C169_ := raright_c (toStr ((Rs.mk 0 l).text 8)) (((Rs.mk 0 l).textR 8).num 8) ((((Rs.mk 0 l).textR 8).take 8).num 4) w134_   
    refine Calls.mono C169_ ?_
    rintro e168_ w166_ ⟨rfl, F167_⟩
    have T170_ := Fr.tr T138_ F167_
    have h171_ := Rd.keep' h139_ F167_ Dis.n0
    have h172_ := Fr.keep F167_ h140_ Dis.n0
    have h173_ := Fr.keep F167_ h141_ Dis.n0
    have h174_ := Fr.keep F167_ h142_ Dis.n0
    have h175_ := Row.keep h143_ F167_ Dis.n0
    refine ⟨_, rfl, ?_⟩
    refine at_pures 3 (by kernel_rfl) (by kernel_rfl) ?_
    refine at_done (by kernel_rfl) ?_
    refine then_n ?_
    refine c_if (.tmp 29) (!(rightS (toStr ((Rs.mk 0 l).text 8)))) [1, 1, 1, 1, 1, 1, 1, 0, 1, 0] [1, 1, 1, 1, 1, 1, 1, 0, 1, 1] (by kernel_rfl) (by kernel_rfl) (fun c176_ => ?_) (fun c176_ => ?_)
    · -- yes
      replace c176_ : (rightS (toStr ((Rs.mk 0 l).text 8))) = false := by simpa using c176_
      refine c_seq [1, 1, 1, 1, 1, 1, 1, 0, 1, 0, 0] [1, 1, 1, 1, 1, 1, 1, 0, 1, 0, 1] (by kernel_rfl) ?_
      refine c_reg 9 raread_c_R9 (by kernel_rfl) ?_
      refine at_pures 1 (by kernel_rfl) (by kernel_rfl) ?_
      refine at_do (by kernel_rfl) (op_store 61 (.tmp 2) (.tmp 30) b1_ 0 (.agg #[(.string (⟨#[]⟩ : ByteArray)), (.int .u64 0), (.int .u32 0)]) _ _ #[(.string (⟨#[]⟩ : ByteArray)), (.int .u64 0), (.int .u32 0)] (by kernel_rfl) (by kernel_rfl) (by kernel_rfl) h172_ (by kernel_rfl) (by kernel_rfl) (by kernel_rfl) (by kernel_rfl) (fun w177_ h178_ z179_ F180_ => ?_))
      have T181_ := Fr.then T170_ F180_ N7_
      have h182_ := Rd.keep' h171_ F180_ (Dis.sym d6_)
      have h183_ := Fr.keep F180_ h173_ d16_
      have h184_ := Fr.keep F180_ h174_ d27_
      have h185_ := Row.keep h175_ F180_ d57_
      refine at_pures 3 (by kernel_rfl) (by kernel_rfl) ?_
      refine at_done (by kernel_rfl) ?_
      refine then_n ?_
      refine c_ret (by kernel_rfl) ?_
      refine then_r ?_
      refine fin_retL [.cell 2 61, .tmp 3] [(.agg #[(.string (⟨#[]⟩ : ByteArray)), (.int .u64 0), (.int .u32 0)]), (.int .i64 2)] (.tuple #[(.agg #[(.string (⟨#[]⟩ : ByteArray)), (.int .u64 0), (.int .u32 0)]), (.int .i64 2)]) (by kernel_rfl) (by rfl) ⟨ResOne.cellN (off := 0) (n := 3) (vs := #[(.string (⟨#[]⟩ : ByteArray)), (.int .u64 0), (.int .u32 0)]) (by kernel_rfl) (by kernel_rfl) (by kernel_rfl) h178_ (by kernel_rfl) (by kernel_rfl), ResOne.tmp (by kernel_rfl), trivial⟩ (by rfl) ?_
      exact ⟨(by have hq := accF_b (l := l) (show ((((Rs.mk 0 l).textR 8).take 8).take 4).end = 0 by omega) (show rightS (toStr ((Rs.mk 0 l).text 8)) = false by with_reducible assumption); rw [hq.1, hq.2]; rfl), T181_⟩
    · -- no
      replace c176_ : (rightS (toStr ((Rs.mk 0 l).text 8))) = true := by simpa using c176_
      refine c_skip (by kernel_rfl) ?_
      refine then_n ?_
      refine c_seq [1, 1, 1, 1, 1, 1, 1, 1, 0] [1, 1, 1, 1, 1, 1, 1, 1, 1] (by kernel_rfl) ?_
      refine c_reg 10 raread_c_R10 (by kernel_rfl) ?_
      refine at_loadN 61 (.tmp 5) b19_ 0 3 _ _ _ #[(.string (toStr ((Rs.mk 0 l).text 8))), (.int .u64 (((Rs.mk 0 l).textR 8).num 8 : Int)), (.int .u32 ((((Rs.mk 0 l).textR 8).take 8).num 4 : Int))] (by kernel_rfl) (by kernel_rfl) (by kernel_rfl) (by kernel_rfl) (by kernel_rfl) h174_ (by kernel_rfl) (by kernel_rfl) ?_
      refine at_do (by kernel_rfl) (op_store 61 (.tmp 2) (.tmp 31) b1_ 0 (.agg #[(.string (toStr ((Rs.mk 0 l).text 8))), (.int .u64 (((Rs.mk 0 l).textR 8).num 8 : Int)), (.int .u32 ((((Rs.mk 0 l).textR 8).take 8).num 4 : Int))]) _ _ #[(.string (toStr ((Rs.mk 0 l).text 8))), (.int .u64 (((Rs.mk 0 l).textR 8).num 8 : Int)), (.int .u32 ((((Rs.mk 0 l).textR 8).take 8).num 4 : Int))] (by kernel_rfl) (by kernel_rfl) (by kernel_rfl) h172_ (by kernel_rfl) (by kernel_rfl) (by kernel_rfl) (by kernel_rfl) (fun w186_ h187_ z188_ F189_ => ?_))
      have T190_ := Fr.then T170_ F189_ N7_
      have h191_ := Rd.keep' h171_ F189_ (Dis.sym d6_)
      have h192_ := Fr.keep F189_ h173_ d16_
      have h193_ := Fr.keep F189_ h174_ d27_
      have h194_ := Row.keep h175_ F189_ d57_
      refine at_pures 3 (by kernel_rfl) (by kernel_rfl) ?_
      refine at_done (by kernel_rfl) ?_
      refine then_n ?_
      refine c_ret (by kernel_rfl) ?_
      refine fin_retL [.cell 2 61, .tmp 3] [(.agg #[(.string (toStr ((Rs.mk 0 l).text 8))), (.int .u64 (((Rs.mk 0 l).textR 8).num 8 : Int)), (.int .u32 ((((Rs.mk 0 l).textR 8).take 8).num 4 : Int))]), (.int .i64 0)] (.tuple #[(.agg #[(.string (toStr ((Rs.mk 0 l).text 8))), (.int .u64 (((Rs.mk 0 l).textR 8).num 8 : Int)), (.int .u32 ((((Rs.mk 0 l).textR 8).take 8).num 4 : Int))]), (.int .i64 0)]) (by kernel_rfl) (by rfl) ⟨ResOne.cellN (off := 0) (n := 3) (vs := #[(.string (toStr ((Rs.mk 0 l).text 8))), (.int .u64 (((Rs.mk 0 l).textR 8).num 8 : Int)), (.int .u32 ((((Rs.mk 0 l).textR 8).take 8).num 4 : Int))]) (by kernel_rfl) (by kernel_rfl) (by kernel_rfl) h187_ (by kernel_rfl) (by kernel_rfl), ResOne.tmp (by kernel_rfl), trivial⟩ (by rfl) ?_
      exact ⟨(by first | (exfalso; omega) | (have hq := accF_a (l := l) (show ((((Rs.mk 0 l).textR 8).take 8).take 4).end = 0 by omega) (show rightS (toStr ((Rs.mk 0 l).text 8)) = true by with_reducible assumption); rw [hq.1, hq.2]; rfl)), T190_⟩
end Go.Proofs.YtboggbknebepdaaDoor
