/- The walks of layer 4's reference. -/
import Derived.Test.YtokdfjelilhekaaDoorWR
import Derived.Test.YtokdfjelilhekaaDoorLib2
namespace Go.Proofs.YtokdfjelilhekaaDoor
open Go Go.RowKit Go.Alm
noncomputable def rput_c_R0 : Array Oper := rAt Tryd.prog 82 [0]
noncomputable def rput_c_R1 : Array Oper := rAt Tryd.prog 82 [1, 0]
noncomputable def rput_c_R2 : Array Oper := rAt Tryd.prog 82 [1, 1, 0, 0]
noncomputable def rput_c_R3 : Array Oper := rAt Tryd.prog 82 [1, 1, 0, 1, 0, 0, 0, 0]
noncomputable def rput_c_R5 : Array Oper := rAt Tryd.prog 82 [1, 1, 0, 1, 0, 0, 1, 0, 0, 0]
noncomputable def rput_c_R6 : Array Oper := rAt Tryd.prog 82 [1, 1, 0, 1, 0, 0, 1, 0, 0, 1]
noncomputable def rput_c_R4 : Array Oper := rAt Tryd.prog 82 [1, 1, 0, 1, 0, 0, 1, 1]
noncomputable def rput_c_R7 : Array Oper := rAt Tryd.prog 82 [1, 1, 1, 0]
set_option maxRecDepth 100000 in
theorem rput_c (n : Nat) (size : Nat) (w : World) (hn : n < 18446744073709551616) (hs : size ≤ 8) :
    Calls Tryd.prog 82 #[(.int .u64 (n : Int)), (.int .i64 (size : Int))] w fun e w' => ∃ (v_out' : Value), e = .returned v_out' ∧ Row w' 5 1 v_out' size (B (putB n size size)) ∧ Fr w w' N0 ∧ New w N0 (Own v_out') := by
  refine c_enter (mk 22 [(0, (.int .u64 (n : Int))), (1, (.int .i64 (size : Int)))] (fun _ => undef)) Tryd.func82 (by kernel_rfl) (by kernel_rfl) ?_
  refine c_seq [0] [1] (by kernel_rfl) ?_
  refine c_reg 0 rput_c_R0 (by kernel_rfl) ?_
  refine at_pures 1 (by kernel_rfl) (by kernel_rfl) ?_
  refine at_done (by kernel_rfl) ?_
  refine then_n ?_
  refine c_seq [1, 0] [1, 1] (by kernel_rfl) ?_
  refine c_reg 1 rput_c_R1 (by kernel_rfl) ?_
  refine at_do (by kernel_rfl) (op_new (.cells #[] 5) (fun N => (.slice (some ⟨N, 0, none⟩) 0 0)) (fun _ => by kernel_rfl) (fun w2_ b1_ h3_ q4_ F5_ => ?_))
  have N6_ : New w N0 (One b1_) := New.made q4_ (Fr.size (Fr.refl w N0))
  have T7_ := Fr.tr (Fr.refl w N0) F5_
  refine at_pures 2 (by kernel_rfl) (by kernel_rfl) ?_
  refine at_done (by kernel_rfl) ?_
  refine then_n ?_
  refine c_seq [1, 1, 0] [1, 1, 1] (by kernel_rfl) ?_
  refine c_seq [1, 1, 0, 0] [1, 1, 0, 1] (by kernel_rfl) ?_
  refine c_reg 2 rput_c_R2 (by kernel_rfl) ?_
  refine at_pures 1 (by kernel_rfl) (by kernel_rfl) ?_
  refine at_done (by kernel_rfl) ?_
  refine then_n ?_
  refine c_block 0 [1, 1, 0, 1, 0] (by kernel_rfl) ?_
  have h8_ : Row w2_ 5 1 (.slice (some ⟨b1_, 0, none⟩) 0 0) 0 [] := Row.made' h3_ (by rfl) (by decide) (by decide) (by rfl)
  refine c_loop (fun a w' => ∃ (k : Nat), ∃ (vo : Value), (∃ u, a = mk 22 [(0, (.int .u64 ((lowQ n k : Nat) : Int))), (1, (.int .i64 (size : Int))), (4, (.slice none 0 0)), (5, vo), (6, (.int .i64 (k : Int))), (7, (.slice (some ⟨b1_, 0, none⟩) 0 0))] u) ∧ (k ≤ size) ∧ (Row w' 5 1 vo (k) (B (putB n k k))) ∧ (New w N0 (Own vo)) ∧ (Fr w w' N0)) (fun a _ => cnt (size) 6 a) [1, 1, 0, 1, 0, 0] (by kernel_rfl) ⟨0, _, is_mk (by kernel_rfl) (by kernel_rfl) (by kernel_rfl), ⟨Nat.zero_le _, h8_, (New.own N6_), T7_⟩⟩ ?_
  rintro a10_ w11_ ⟨k, vo, ⟨u12_, rfl⟩, ⟨hk, q_0L9_, n_0L9_, hFrL9_⟩⟩
  have hq := lowQ_le n k
  refine c_seq [1, 1, 0, 1, 0, 0, 0] [1, 1, 0, 1, 0, 0, 1] (by kernel_rfl) ?_
  refine c_seq [1, 1, 0, 1, 0, 0, 0, 0] [1, 1, 0, 1, 0, 0, 0, 1] (by kernel_rfl) ?_
  refine c_reg 3 rput_c_R3 (by kernel_rfl) ?_
  refine at_pures 3 (by kernel_rfl) (by kernel_rfl) ?_
  refine at_done (by kernel_rfl) ?_
  refine then_n ?_
  refine c_if (.tmp 10) (decide ((k : Int) < (size : Int))) [1, 1, 0, 1, 0, 0, 0, 1, 0] [1, 1, 0, 1, 0, 0, 0, 1, 1] (by kernel_rfl) (by kernel_rfl) (fun c13_ => ?_) (fun c13_ => ?_)
  · -- yes
    replace c13_ : (k : Int) < (size : Int) := of_decide_eq_true c13_
    refine c_skip (by kernel_rfl) ?_
    refine then_n ?_
    refine c_seq [1, 1, 0, 1, 0, 0, 1, 0] [1, 1, 0, 1, 0, 0, 1, 1] (by kernel_rfl) ?_
    refine c_block 1 [1, 1, 0, 1, 0, 0, 1, 0, 0] (by kernel_rfl) ?_
    refine c_seq [1, 1, 0, 1, 0, 0, 1, 0, 0, 0] [1, 1, 0, 1, 0, 0, 1, 0, 0, 1] (by kernel_rfl) ?_
    refine c_reg 5 rput_c_R5 (by kernel_rfl) ?_
    refine at_pures 1 (by kernel_rfl) (by kernel_rfl) ?_
    refine at_int (kd := .u64) (((lowQ n k : Nat) : Int).tmod (256 : Int)) ((((lowQ n k : Nat) % 256 : Nat) : Int)) (by kernel_rfl) (by kernel_rfl) (rem_nat2 (n := (lowQ n k : Nat)) (by omega)) ?_
    refine at_int (kd := .u8) (IntKind.u8.wrap ((((lowQ n k : Nat) % 256 : Nat) : Int))) ((((lowQ n k : Nat) % 256 : Nat) : Int)) (by kernel_rfl) (by kernel_rfl) (wrapN_u8 (by omega) (by omega)) ?_
    refine at_do (by kernel_rfl) (op_new (.cells #[(.int .u8 (((lowQ n k : Nat) % 256 : Nat) : Int))] 5) (fun N => (.slice (some ⟨N, 0, none⟩) 1 1)) (fun _ => by kernel_rfl) (fun w15_ b14_ h16_ q17_ F18_ => ?_))
    have d19_ : Dis (One b14_) (Own vo) := Dis.fresh (New.one q17_) (Row.in q_0L9_)
    have N20_ : New w N0 (One b14_) := New.made q17_ (Fr.size hFrL9_)
    have T21_ := Fr.tr hFrL9_ F18_
    refine at_pures 5 (by kernel_rfl) (by kernel_rfl) ?_
    have h22_ := Row.keep q_0L9_ F18_ Dis.n0
    have h23_ : Row w15_ 5 1 (.slice (some ⟨b14_, 0, none⟩) 1 1) 1 ((#[(.int .u8 (((lowQ n k : Nat) % 256 : Nat) : Int))]).toList) := Row.made' h16_ (by rfl) (by decide) (by decide) (by rfl)
    refine at_do (by kernel_rfl) (op_append (.tmp 16) (.tmp 17) 64 64 5 1 1 (.int .u8 0) (by kernel_rfl) (by kernel_rfl) (by rfl) (v := (.slice (some ⟨b14_, 0, none⟩) 1 1)) (by kernel_rfl) h23_ (xv := vo) (m := k) (news := B (putB n k k)) (by kernel_rfl) (Row.src (e' := 5) (by kernel_rfl) h22_ (by decide) B_one) (by simp only [maxLen]; omega) (by omega) (fun v24_ w25_ h26_ F27_ s28_ => ?_))
    have T29_ := Fr.then T21_ F27_ (New.own N20_)
    have N30_ : New w N0 (Own v24_) := New.trans (New.own N20_) s28_ (Fr.size T21_)
    refine at_pures 7 (by kernel_rfl) (by kernel_rfl) ?_
    refine at_done (by kernel_rfl) ?_
    refine then_n ?_
    refine c_reg 6 rput_c_R6 (by kernel_rfl) ?_
    refine at_pures 1 (by kernel_rfl) (by kernel_rfl) ?_
    refine at_int (kd := .u64) (IntKind.u64.wrap (((lowQ n k : Nat) : Int).tdiv (256 : Int))) ((((lowQ n k : Nat) / 256 : Nat) : Int)) (by kernel_rfl) (by kernel_rfl) (quo_u64 (by omega)) ?_
    refine at_pures 3 (by kernel_rfl) (by kernel_rfl) ?_
    refine at_done (by kernel_rfl) ?_
    refine blk_n ?_
    refine then_n ?_
    refine c_reg 4 rput_c_R4 (by kernel_rfl) ?_
    refine at_pures 1 (by kernel_rfl) (by kernel_rfl) ?_
    refine at_int (kd := .i64) (IntKind.i64.wrap ((k : Int) + (1 : Int))) ((k : Int) + (1 : Int)) (by kernel_rfl) (by kernel_rfl) (wrapN_i64 (by omega) (by omega)) ?_
    refine at_pures 3 (by kernel_rfl) (by kernel_rfl) ?_
    refine at_done (by kernel_rfl) ?_
    refine then_n ?_
    exact ⟨⟨k + 1, v24_, is_mk (by kernel_rfl) (by kernel_rfl) (by kernel_rfl), ⟨(by omega), (by have h := h26_; rw [put_head, Nat.add_comm 1 k] at h; exact h), N30_, T29_⟩⟩, cnt_lt (k := (k : Int)) (k' := ((k : Int) + (1 : Int))) (by kernel_rfl) (by kernel_rfl) (by omega) (by omega)⟩
  · -- no
    replace c13_ : ¬ ((k : Int) < (size : Int)) := of_decide_eq_false c13_
    refine c_exit 0 (by kernel_rfl) ?_
    refine then_e ?_
    refine then_e ?_
    refine blk_hit ?_
    refine then_n ?_
    refine c_seq [1, 1, 1, 0] [1, 1, 1, 1] (by kernel_rfl) ?_
    refine c_reg 7 rput_c_R7 (by kernel_rfl) ?_
    refine at_pures 2 (by kernel_rfl) (by kernel_rfl) ?_
    refine at_done (by kernel_rfl) ?_
    refine then_n ?_
    refine c_ret (by kernel_rfl) ?_
    refine fin_ret vo (by kernel_rfl) (by kernel_rfl) ?_
    exact ⟨vo, rfl, (by have e : k = size := (by omega); subst e; exact q_0L9_), hFrL9_, n_0L9_⟩

noncomputable def same_c_R0 : Array Oper := rAt Tryd.prog 34 [0]
noncomputable def same_c_R1 : Array Oper := rAt Tryd.prog 34 [1, 0, 0]
noncomputable def same_c_R2 : Array Oper := rAt Tryd.prog 34 [1, 0, 1, 0, 0]
noncomputable def same_c_R3 : Array Oper := rAt Tryd.prog 34 [1, 1, 0, 0]
noncomputable def same_c_R4 : Array Oper := rAt Tryd.prog 34 [1, 1, 0, 1, 0, 0, 0, 0]
noncomputable def same_c_R6 : Array Oper := rAt Tryd.prog 34 [1, 1, 0, 1, 0, 0, 1, 0, 0, 0]
def same_c_sk6 : Nat → Bool := fun i => decide (i ∈ [4, 5, 6, 7])
def same_c_pl6 : List (Nat × PK) := [(0, .q false), (1, .q false), (2, .q false), (3, .q true), (4, .q false), (5, .q false), (6, .q false), (7, .q true), (8, .q false)]
noncomputable def same_c_R7 : Array Oper := rAt Tryd.prog 34 [1, 1, 0, 1, 0, 0, 1, 0, 0, 1, 0, 0]
noncomputable def same_c_R5 : Array Oper := rAt Tryd.prog 34 [1, 1, 0, 1, 0, 0, 1, 1]
noncomputable def same_c_R8 : Array Oper := rAt Tryd.prog 34 [1, 1, 1, 0]
set_option maxRecDepth 100000 in
theorem same_c (sa : Value) (la : List Nat) (sb : Value) (lb : List Nat) (w : World) (h_a : SlV w sa la.length (B la)) (h_b : SlV w sb lb.length (B lb)) (hla : la.length ≤ 100000000) (hlb : lb.length ≤ 100000000) :
    Calls Tryd.prog 34 #[sa, sb] w fun e w' => e = .returned (.bool (decide (la = lb))) ∧ Fr w w' N0 := by
  obtain ⟨ao_b, cap_b, rfl, h_b⟩ := h_b
  obtain ⟨ao_a, cap_a, rfl, h_a⟩ := h_a
  refine c_enter (mk 26 [(0, (.slice ao_a la.length cap_a)), (1, (.slice ao_b lb.length cap_b))] (fun _ => undef)) Tryd.func34 (by kernel_rfl) (by kernel_rfl) ?_
  refine c_seq [0] [1] (by kernel_rfl) ?_
  refine c_reg 0 same_c_R0 (by kernel_rfl) ?_
  refine at_pures 1 (by kernel_rfl) (by kernel_rfl) ?_
  refine at_done (by kernel_rfl) ?_
  refine then_n ?_
  refine c_seq [1, 0] [1, 1] (by kernel_rfl) ?_
  refine c_seq [1, 0, 0] [1, 0, 1] (by kernel_rfl) ?_
  refine c_reg 1 same_c_R1 (by kernel_rfl) ?_
  refine at_pures 5 (by kernel_rfl) (by kernel_rfl) ?_
  refine at_done (by kernel_rfl) ?_
  refine then_n ?_
  refine c_if (.tmp 10) ((la.length : Int) != (lb.length : Int)) [1, 0, 1, 0] [1, 0, 1, 1] (by kernel_rfl) (by kernel_rfl) (fun c1_ => ?_) (fun c1_ => ?_)
  · -- yes
    replace c1_ : (la.length : Int) ≠ (lb.length : Int) := by simpa using c1_
    refine c_seq [1, 0, 1, 0, 0] [1, 0, 1, 0, 1] (by kernel_rfl) ?_
    refine c_reg 2 same_c_R2 (by kernel_rfl) ?_
    refine at_pures 1 (by kernel_rfl) (by kernel_rfl) ?_
    refine at_done (by kernel_rfl) ?_
    refine then_n ?_
    refine c_ret (by kernel_rfl) ?_
    refine then_r ?_
    refine fin_ret (.bool false) (by kernel_rfl) (by kernel_rfl) ?_
    exact ⟨(by rw [decide_eq_false (fun e => by subst e; omega)]), (Fr.refl w N0)⟩
  · -- no
    replace c1_ : (la.length : Int) = (lb.length : Int) := by simpa using c1_
    refine c_skip (by kernel_rfl) ?_
    refine then_n ?_
    refine c_seq [1, 1, 0] [1, 1, 1] (by kernel_rfl) ?_
    refine c_seq [1, 1, 0, 0] [1, 1, 0, 1] (by kernel_rfl) ?_
    refine c_reg 3 same_c_R3 (by kernel_rfl) ?_
    refine at_pures 1 (by kernel_rfl) (by kernel_rfl) ?_
    refine at_done (by kernel_rfl) ?_
    refine then_n ?_
    refine c_block 0 [1, 1, 0, 1, 0] (by kernel_rfl) ?_
    refine c_loop (fun a w' => ∃ (k : Nat), (∃ u, a = mk 26 [(0, (.slice ao_a la.length cap_a)), (1, (.slice ao_b lb.length cap_b)), (5, (.int .i64 (k : Int))), (6, (.slice ao_a la.length cap_a)), (7, (.int .i64 (la.length : Int))), (8, (.slice ao_b lb.length cap_b)), (9, (.int .i64 (lb.length : Int))), (10, (.bool ((la.length : Int) != (lb.length : Int))))] u) ∧ (k ≤ la.length) ∧ (la.take k = lb.take k) ∧ (Rd w' ao_a (B la)) ∧ (Rd w' ao_b (B lb)) ∧ (Fr w w' N0)) (fun a _ => cnt (la.length) 5 a) [1, 1, 0, 1, 0, 0] (by kernel_rfl) ⟨0, is_mk (by kernel_rfl) (by kernel_rfl) (by kernel_rfl), ⟨Nat.zero_le _, (by simp), h_a, h_b, (Fr.refl w N0)⟩⟩ ?_
    rintro a3_ w4_ ⟨k, ⟨u5_, rfl⟩, ⟨hk, hE, q_0L2_, q_1L2_, hFrL2_⟩⟩
    refine c_seq [1, 1, 0, 1, 0, 0, 0] [1, 1, 0, 1, 0, 0, 1] (by kernel_rfl) ?_
    refine c_seq [1, 1, 0, 1, 0, 0, 0, 0] [1, 1, 0, 1, 0, 0, 0, 1] (by kernel_rfl) ?_
    refine c_reg 4 same_c_R4 (by kernel_rfl) ?_
    refine at_pures 4 (by kernel_rfl) (by kernel_rfl) ?_
    refine at_done (by kernel_rfl) ?_
    refine then_n ?_
    refine c_if (.tmp 14) (decide ((k : Int) < (la.length : Int))) [1, 1, 0, 1, 0, 0, 0, 1, 0] [1, 1, 0, 1, 0, 0, 0, 1, 1] (by kernel_rfl) (by kernel_rfl) (fun c6_ => ?_) (fun c6_ => ?_)
    · -- yes
      replace c6_ : (k : Int) < (la.length : Int) := of_decide_eq_true c6_
      refine c_skip (by kernel_rfl) ?_
      refine then_n ?_
      refine c_seq [1, 1, 0, 1, 0, 0, 1, 0] [1, 1, 0, 1, 0, 0, 1, 1] (by kernel_rfl) ?_
      refine c_block 1 [1, 1, 0, 1, 0, 0, 1, 0, 0] (by kernel_rfl) ?_
      refine c_seq [1, 1, 0, 1, 0, 0, 1, 0, 0, 0] [1, 1, 0, 1, 0, 0, 1, 0, 0, 1] (by kernel_rfl) ?_
      refine c_plan 6 same_c_R6 (fun w' => Rd w' ao_a (B la) ∧ Rd w' ao_b (B lb) ∧ True) same_c_sk6 same_c_pl6 (by kernel_rfl) (by kernel_rfl) (by kernel_rfl) (by kernel_rfl) (by kernel_rfl) (fun w7_ F8_ => ?_)
      have T9_ := Fr.tr hFrL2_ F8_
      have h11_ := Rd.keep' q_0L2_ F8_ Dis.n0
      have h12_ := Rd.keep' q_1L2_ F8_ Dis.n0
      have S10_ : Rd w7_ ao_a (B la) ∧ Rd w7_ ao_b (B lb) ∧ True := ⟨h11_, h12_, trivial⟩
      refine pl_pures 2 (by kernel_rfl) (by kernel_rfl) (off (by kernel_rfl)) ?_
      obtain ⟨ad13_, ha14_⟩ := h11_.has (k * 1) (by rw [B_length]; omega)
      refine pl_quiet 2 (.pointer (some (ad13_.add (k * 1)))) (by kernel_rfl) (by kernel_rfl) (fun w' => run_idx_o 64 (.tmp 17) (.tmp 18) 1 ao_a ad13_ la.length cap_a .i64 k (by kernel_rfl) (by kernel_rfl) (by kernel_rfl) (by kernel_rfl) (by kernel_rfl) ha14_ (by omega)) (off (by kernel_rfl)) ?_
      refine pl_read 3 (.int .u8 (((la).getD k 0 : Nat) : Int)) (by kernel_rfl) (by kernel_rfl) (fun w' hs => run_loadE1 5 (.tmp 19) ao_a ad13_ (k * 1) (B la) (.int .u8 (((la).getD k 0 : Nat) : Int)) (by kernel_rfl) (by kernel_rfl) (by kernel_rfl) ha14_ hs.1 (by rw [Nat.mul_one]; exact B_getD _ _ (by first | omega | (simp only [List.length_take, List.length_drop]; omega)))) S10_ ?_
      refine pl_pures 6 (by kernel_rfl) (by kernel_rfl) (fun _ => S10_) ?_
      obtain ⟨ad15_, ha16_⟩ := h12_.has (k * 1) (by rw [B_length]; omega)
      refine pl_quiet 6 (.pointer (some (ad15_.add (k * 1)))) (by kernel_rfl) (by kernel_rfl) (fun w' => run_idx_o 64 (.tmp 21) (.tmp 22) 1 ao_b ad15_ lb.length cap_b .i64 k (by kernel_rfl) (by kernel_rfl) (by kernel_rfl) (by kernel_rfl) (by kernel_rfl) ha16_ (by omega)) (fun _ => S10_) ?_
      refine pl_read 7 (.int .u8 (((lb).getD k 0 : Nat) : Int)) (by kernel_rfl) (by kernel_rfl) (fun w' hs => run_loadE1 5 (.tmp 23) ao_b ad15_ (k * 1) (B lb) (.int .u8 (((lb).getD k 0 : Nat) : Int)) (by kernel_rfl) (by kernel_rfl) (by kernel_rfl) ha16_ hs.2.1 (by rw [Nat.mul_one]; exact B_getD _ _ (by first | omega | (simp only [List.length_take, List.length_drop]; omega)))) S10_ ?_
      refine pl_pures 9 (by kernel_rfl) (by kernel_rfl) (off (by kernel_rfl)) ?_
      refine pl_done (by kernel_rfl) ?_
      refine then_n ?_
      refine c_if (.tmp 25) ((((la).getD k 0 : Nat) : Int) != (((lb).getD k 0 : Nat) : Int)) [1, 1, 0, 1, 0, 0, 1, 0, 0, 1, 0] [1, 1, 0, 1, 0, 0, 1, 0, 0, 1, 1] (by kernel_rfl) (by kernel_rfl) (fun c17_ => ?_) (fun c17_ => ?_)
      · -- yes
        replace c17_ : (((la).getD k 0 : Nat) : Int) ≠ (((lb).getD k 0 : Nat) : Int) := by simpa using c17_
        refine c_seq [1, 1, 0, 1, 0, 0, 1, 0, 0, 1, 0, 0] [1, 1, 0, 1, 0, 0, 1, 0, 0, 1, 0, 1] (by kernel_rfl) ?_
        refine c_reg 7 same_c_R7 (by kernel_rfl) ?_
        refine at_pures 1 (by kernel_rfl) (by kernel_rfl) ?_
        refine at_done (by kernel_rfl) ?_
        refine then_n ?_
        refine c_ret (by kernel_rfl) ?_
        refine blk_r ?_
        refine then_r ?_
        refine then_r ?_
        refine blk_r ?_
        refine then_r ?_
        refine fin_ret (.bool false) (by kernel_rfl) (by kernel_rfl) ?_
        exact ⟨(by rw [decide_eq_false (fun e => by subst e; omega)]), T9_⟩
      · -- no
        replace c17_ : (((la).getD k 0 : Nat) : Int) = (((lb).getD k 0 : Nat) : Int) := by simpa using c17_
        refine c_skip (by kernel_rfl) ?_
        refine blk_n ?_
        refine then_n ?_
        refine c_reg 5 same_c_R5 (by kernel_rfl) ?_
        refine at_pures 1 (by kernel_rfl) (by kernel_rfl) ?_
        refine at_int (kd := .i64) (IntKind.i64.wrap ((k : Int) + (1 : Int))) ((k : Int) + (1 : Int)) (by kernel_rfl) (by kernel_rfl) (wrapN_i64 (by omega) (by omega)) ?_
        refine at_pures 3 (by kernel_rfl) (by kernel_rfl) ?_
        refine at_done (by kernel_rfl) ?_
        refine then_n ?_
        exact ⟨⟨k + 1, is_mk (by kernel_rfl) (by kernel_rfl) (by kernel_rfl), ⟨(by omega), take_eq_step hE (by omega) (by omega) (by omega), h11_, h12_, T9_⟩⟩, cnt_lt (k := (k : Int)) (k' := ((k : Int) + (1 : Int))) (by kernel_rfl) (by kernel_rfl) (by omega) (by omega)⟩
    · -- no
      replace c6_ : ¬ ((k : Int) < (la.length : Int)) := of_decide_eq_false c6_
      refine c_exit 0 (by kernel_rfl) ?_
      refine then_e ?_
      refine then_e ?_
      refine blk_hit ?_
      refine then_n ?_
      refine c_seq [1, 1, 1, 0] [1, 1, 1, 1] (by kernel_rfl) ?_
      refine c_reg 8 same_c_R8 (by kernel_rfl) ?_
      refine at_pures 1 (by kernel_rfl) (by kernel_rfl) ?_
      refine at_done (by kernel_rfl) ?_
      refine then_n ?_
      refine c_ret (by kernel_rfl) ?_
      refine fin_ret (.bool true) (by kernel_rfl) (by kernel_rfl) ?_
      exact ⟨(by rw [decide_eq_true (by rw [List.take_of_length_le (by omega), List.take_of_length_le (by omega)] at hE; exact hE)]), hFrL2_⟩







end Go.Proofs.YtokdfjelilhekaaDoor
