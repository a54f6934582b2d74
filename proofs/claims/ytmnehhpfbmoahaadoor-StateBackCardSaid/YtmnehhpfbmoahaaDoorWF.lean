/- The walks of layer 4's reference. -/
import Derived.Test.YtmnehhpfbmoahaaDoorWR
import Derived.Test.YtmnehhpfbmoahaaDoorLib2
namespace Go.Proofs.YtmnehhpfbmoahaaDoor
open Go Go.RowKit Go.Alm
noncomputable def rput_c_R0 : Array Oper := rAt Tryd.prog 161 [0]
noncomputable def rput_c_R1 : Array Oper := rAt Tryd.prog 161 [1, 0]
noncomputable def rput_c_R2 : Array Oper := rAt Tryd.prog 161 [1, 1, 0, 0]
noncomputable def rput_c_R3 : Array Oper := rAt Tryd.prog 161 [1, 1, 0, 1, 0, 0, 0, 0]
noncomputable def rput_c_R5 : Array Oper := rAt Tryd.prog 161 [1, 1, 0, 1, 0, 0, 1, 0, 0, 0]
noncomputable def rput_c_R6 : Array Oper := rAt Tryd.prog 161 [1, 1, 0, 1, 0, 0, 1, 0, 0, 1]
noncomputable def rput_c_R4 : Array Oper := rAt Tryd.prog 161 [1, 1, 0, 1, 0, 0, 1, 1]
noncomputable def rput_c_R7 : Array Oper := rAt Tryd.prog 161 [1, 1, 1, 0]
set_option maxRecDepth 100000 in
theorem rput_c (n : Nat) (size : Nat) (w : World) (hn : n < 18446744073709551616) (hs : size ≤ 8) :
    Calls Tryd.prog 161 #[(.int .u64 (n : Int)), (.int .i64 (size : Int))] w fun e w' => ∃ (v_out' : Value), e = .returned v_out' ∧ Row w' 5 1 v_out' size (B (putB n size size)) ∧ Fr w w' N0 ∧ New w N0 (Own v_out') := by
  refine c_enter (mk 22 [(0, (.int .u64 (n : Int))), (1, (.int .i64 (size : Int)))] (fun _ => undef)) Tryd.func161 (by kernel_rfl) (by kernel_rfl) ?_
  refine c_seq [0] [1] (by kernel_rfl) ?_
  refine c_reg 0 rput_c_R0 (by kernel_rfl) ?_
  refine at_pures 1 (by kernel_rfl) (by kernel_rfl) ?_
  refine at_done (by kernel_rfl) ?_
  refine then_n ?_
  refine c_seq [1, 0] [1, 1] (by kernel_rfl) ?_
  refine c_reg 1 rput_c_R1 (by kernel_rfl) ?_
  refine at_do (by kernel_rfl) (op_new (.cells #[] 5) (fun N => (.slice (some ⟨N, 0, none⟩) 0 0)) (fun _ => by kernel_rfl) (fun w2_ b1_ h3_ q4_ F5_ => ?_))
  have N6_ : New w N0 (One b1_) := New.made q4_ (Fr.size (Fr.refl w N0))
  have T7_ := Fr.tr (Fr.refl w N0) F5_
  refine at_pures 2 (by kernel_rfl) (by kernel_rfl) ?_
  refine at_done (by kernel_rfl) ?_
  refine then_n ?_
  refine c_seq [1, 1, 0] [1, 1, 1] (by kernel_rfl) ?_
  refine c_seq [1, 1, 0, 0] [1, 1, 0, 1] (by kernel_rfl) ?_
  refine c_reg 2 rput_c_R2 (by kernel_rfl) ?_
  refine at_pures 1 (by kernel_rfl) (by kernel_rfl) ?_
  refine at_done (by kernel_rfl) ?_
  refine then_n ?_
  refine c_block 0 [1, 1, 0, 1, 0] (by kernel_rfl) ?_
  have h8_ : Row w2_ 5 1 (.slice (some ⟨b1_, 0, none⟩) 0 0) 0 [] := Row.made' h3_ (by rfl) (by decide) (by decide) (by rfl)
  refine c_loop (fun a w' => ∃ (k : Nat), ∃ (vo : Value), (∃ u, a = mk 22 [(0, (.int .u64 ((lowQ n k : Nat) : Int))), (1, (.int .i64 (size : Int))), (4, (.slice none 0 0)), (5, vo), (6, (.int .i64 (k : Int))), (7, (.slice (some ⟨b1_, 0, none⟩) 0 0))] u) ∧ (k ≤ size) ∧ (Row w' 5 1 vo (k) (B (putB n k k))) ∧ (New w N0 (Own vo)) ∧ (Fr w w' N0)) (fun a _ => cnt (size) 6 a) [1, 1, 0, 1, 0, 0] (by kernel_rfl) ⟨0, _, is_mk (by kernel_rfl) (by kernel_rfl) (by kernel_rfl), ⟨Nat.zero_le _, h8_, (New.own N6_), T7_⟩⟩ ?_
  rintro a10_ w11_ ⟨k, vo, ⟨u12_, rfl⟩, ⟨hk, q_0L9_, n_0L9_, hFrL9_⟩⟩
  have hq := lowQ_le n k
  refine c_seq [1, 1, 0, 1, 0, 0, 0] [1, 1, 0, 1, 0, 0, 1] (by kernel_rfl) ?_
  refine c_seq [1, 1, 0, 1, 0, 0, 0, 0] [1, 1, 0, 1, 0, 0, 0, 1] (by kernel_rfl) ?_
  refine c_reg 3 rput_c_R3 (by kernel_rfl) ?_
  refine at_pures 3 (by kernel_rfl) (by kernel_rfl) ?_
  refine at_done (by kernel_rfl) ?_
  refine then_n ?_
  refine c_if (.tmp 10) (decide ((k : Int) < (size : Int))) [1, 1, 0, 1, 0, 0, 0, 1, 0] [1, 1, 0, 1, 0, 0, 0, 1, 1] (by kernel_rfl) (by kernel_rfl) (fun c13_ => ?_) (fun c13_ => ?_)
  · -- yes
    replace c13_ : (k : Int) < (size : Int) := of_decide_eq_true c13_
    refine c_skip (by kernel_rfl) ?_
    refine then_n ?_
    refine c_seq [1, 1, 0, 1, 0, 0, 1, 0] [1, 1, 0, 1, 0, 0, 1, 1] (by kernel_rfl) ?_
    refine c_block 1 [1, 1, 0, 1, 0, 0, 1, 0, 0] (by kernel_rfl) ?_
    refine c_seq [1, 1, 0, 1, 0, 0, 1, 0, 0, 0] [1, 1, 0, 1, 0, 0, 1, 0, 0, 1] (by kernel_rfl) ?_
    refine c_reg 5 rput_c_R5 (by kernel_rfl) ?_
    refine at_pures 1 (by kernel_rfl) (by kernel_rfl) ?_
    refine at_int (kd := .u64) (((lowQ n k : Nat) : Int).tmod (256 : Int)) ((((lowQ n k : Nat) % 256 : Nat) : Int)) (by kernel_rfl) (by kernel_rfl) (rem_nat2 (n := (lowQ n k : Nat)) (by omega)) ?_
    refine at_int (kd := .u8) (IntKind.u8.wrap ((((lowQ n k : Nat) % 256 : Nat) : Int))) ((((lowQ n k : Nat) % 256 : Nat) : Int)) (by kernel_rfl) (by kernel_rfl) (wrapN_u8 (by omega) (by omega)) ?_
    refine at_do (by kernel_rfl) (op_new (.cells #[(.int .u8 (((lowQ n k : Nat) % 256 : Nat) : Int))] 5) (fun N => (.slice (some ⟨N, 0, none⟩) 1 1)) (fun _ => by kernel_rfl) (fun w15_ b14_ h16_ q17_ F18_ => ?_))
    have d19_ : Dis (One b14_) (Own vo) := Dis.fresh (New.one q17_) (Row.in q_0L9_)
    have N20_ : New w N0 (One b14_) := New.made q17_ (Fr.size hFrL9_)
    have T21_ := Fr.tr hFrL9_ F18_
    refine at_pures 5 (by kernel_rfl) (by kernel_rfl) ?_
    have h22_ := Row.keep q_0L9_ F18_ Dis.n0
    have h23_ : Row w15_ 5 1 (.slice (some ⟨b14_, 0, none⟩) 1 1) 1 ((#[(.int .u8 (((lowQ n k : Nat) % 256 : Nat) : Int))]).toList) := Row.made' h16_ (by rfl) (by decide) (by decide) (by rfl)
    refine at_do (by kernel_rfl) (op_append (.tmp 16) (.tmp 17) 128 128 5 1 1 (.int .u8 0) (by kernel_rfl) (by kernel_rfl) (by rfl) (v := (.slice (some ⟨b14_, 0, none⟩) 1 1)) (by kernel_rfl) h23_ (xv := vo) (m := k) (news := B (putB n k k)) (by kernel_rfl) (Row.src (e' := 5) (by kernel_rfl) h22_ (by decide) B_one) (by simp only [maxLen]; omega) (by omega) (fun v24_ w25_ h26_ F27_ s28_ => ?_))
    have T29_ := Fr.then T21_ F27_ (New.own N20_)
    have N30_ : New w N0 (Own v24_) := New.trans (New.own N20_) s28_ (Fr.size T21_)
    refine at_pures 7 (by kernel_rfl) (by kernel_rfl) ?_
    refine at_done (by kernel_rfl) ?_
    refine then_n ?_
    refine c_reg 6 rput_c_R6 (by kernel_rfl) ?_
    refine at_pures 1 (by kernel_rfl) (by kernel_rfl) ?_
    refine at_int (kd := .u64) (IntKind.u64.wrap (((lowQ n k : Nat) : Int).tdiv (256 : Int))) ((((lowQ n k : Nat) / 256 : Nat) : Int)) (by kernel_rfl) (by kernel_rfl) (quo_u64 (by omega)) ?_
    refine at_pures 3 (by kernel_rfl) (by kernel_rfl) ?_
    refine at_done (by kernel_rfl) ?_
    refine blk_n ?_
    refine then_n ?_
    refine c_reg 4 rput_c_R4 (by kernel_rfl) ?_
    refine at_pures 1 (by kernel_rfl) (by kernel_rfl) ?_
    refine at_int (kd := .i64) (IntKind.i64.wrap ((k : Int) + (1 : Int))) ((k : Int) + (1 : Int)) (by kernel_rfl) (by kernel_rfl) (wrapN_i64 (by omega) (by omega)) ?_
    refine at_pures 3 (by kernel_rfl) (by kernel_rfl) ?_
    refine at_done (by kernel_rfl) ?_
    refine then_n ?_
    exact ⟨⟨k + 1, v24_, is_mk (by kernel_rfl) (by kernel_rfl) (by kernel_rfl), ⟨(by omega), (by have h := h26_; rw [put_head, Nat.add_comm 1 k] at h; exact h), N30_, T29_⟩⟩, cnt_lt (k := (k : Int)) (k' := ((k : Int) + (1 : Int))) (by kernel_rfl) (by kernel_rfl) (by omega) (by omega)⟩
  · -- no
    replace c13_ : ¬ ((k : Int) < (size : Int)) := of_decide_eq_false c13_
    refine c_exit 0 (by kernel_rfl) ?_
    refine then_e ?_
    refine then_e ?_
    refine blk_hit ?_
    refine then_n ?_
    refine c_seq [1, 1, 1, 0] [1, 1, 1, 1] (by kernel_rfl) ?_
    refine c_reg 7 rput_c_R7 (by kernel_rfl) ?_
    refine at_pures 2 (by kernel_rfl) (by kernel_rfl) ?_
    refine at_done (by kernel_rfl) ?_
    refine then_n ?_
    refine c_ret (by kernel_rfl) ?_
    refine fin_ret vo (by kernel_rfl) (by kernel_rfl) ?_
    exact ⟨vo, rfl, (by have e : k = size := (by omega); subst e; exact q_0L9_), hFrL9_, n_0L9_⟩

noncomputable def same_c_R0 : Array Oper := rAt Tryd.prog 65 [0]
noncomputable def same_c_R1 : Array Oper := rAt Tryd.prog 65 [1, 0, 0]
noncomputable def same_c_R2 : Array Oper := rAt Tryd.prog 65 [1, 0, 1, 0, 0]
noncomputable def same_c_R3 : Array Oper := rAt Tryd.prog 65 [1, 1, 0, 0]
noncomputable def same_c_R4 : Array Oper := rAt Tryd.prog 65 [1, 1, 0, 1, 0, 0, 0, 0]
noncomputable def same_c_R6 : Array Oper := rAt Tryd.prog 65 [1, 1, 0, 1, 0, 0, 1, 0, 0, 0]
def same_c_sk6 : Nat → Bool := fun i => decide (i ∈ [4, 5, 6, 7])
def same_c_pl6 : List (Nat × PK) := [(0, .q false), (1, .q false), (2, .q false), (3, .q true), (4, .q false), (5, .q false), (6, .q false), (7, .q true), (8, .q false)]
noncomputable def same_c_R7 : Array Oper := rAt Tryd.prog 65 [1, 1, 0, 1, 0, 0, 1, 0, 0, 1, 0, 0]
noncomputable def same_c_R5 : Array Oper := rAt Tryd.prog 65 [1, 1, 0, 1, 0, 0, 1, 1]
noncomputable def same_c_R8 : Array Oper := rAt Tryd.prog 65 [1, 1, 1, 0]
set_option maxRecDepth 100000 in
theorem same_c (sa : Value) (la : List Nat) (sb : Value) (lb : List Nat) (w : World) (h_a : SlV w sa la.length (B la)) (h_b : SlV w sb lb.length (B lb)) (hla : la.length ≤ 100000000) (hlb : lb.length ≤ 100000000) :
    Calls Tryd.prog 65 #[sa, sb] w fun e w' => e = .returned (.bool (decide (la = lb))) ∧ Fr w w' N0 := by
  obtain ⟨ao_b, cap_b, rfl, h_b⟩ := h_b
  obtain ⟨ao_a, cap_a, rfl, h_a⟩ := h_a
  refine c_enter (mk 26 [(0, (.slice ao_a la.length cap_a)), (1, (.slice ao_b lb.length cap_b))] (fun _ => undef)) Tryd.func65 (by kernel_rfl) (by kernel_rfl) ?_
  refine c_seq [0] [1] (by kernel_rfl) ?_
  refine c_reg 0 same_c_R0 (by kernel_rfl) ?_
  refine at_pures 1 (by kernel_rfl) (by kernel_rfl) ?_
  refine at_done (by kernel_rfl) ?_
  refine then_n ?_
  refine c_seq [1, 0] [1, 1] (by kernel_rfl) ?_
  refine c_seq [1, 0, 0] [1, 0, 1] (by kernel_rfl) ?_
  refine c_reg 1 same_c_R1 (by kernel_rfl) ?_
  refine at_pures 5 (by kernel_rfl) (by kernel_rfl) ?_
  refine at_done (by kernel_rfl) ?_
  refine then_n ?_
  refine c_if (.tmp 10) ((la.length : Int) != (lb.length : Int)) [1, 0, 1, 0] [1, 0, 1, 1] (by kernel_rfl) (by kernel_rfl) (fun c1_ => ?_) (fun c1_ => ?_)
  · -- yes
    replace c1_ : (la.length : Int) ≠ (lb.length : Int) := by simpa using c1_
    refine c_seq [1, 0, 1, 0, 0] [1, 0, 1, 0, 1] (by kernel_rfl) ?_
    refine c_reg 2 same_c_R2 (by kernel_rfl) ?_
    refine at_pures 1 (by kernel_rfl) (by kernel_rfl) ?_
    refine at_done (by kernel_rfl) ?_
    refine then_n ?_
    refine c_ret (by kernel_rfl) ?_
    refine then_r ?_
    refine fin_ret (.bool false) (by kernel_rfl) (by kernel_rfl) ?_
    exact ⟨(by rw [decide_eq_false (fun e => by subst e; omega)]), (Fr.refl w N0)⟩
  · -- no
    replace c1_ : (la.length : Int) = (lb.length : Int) := by simpa using c1_
    refine c_skip (by kernel_rfl) ?_
    refine then_n ?_
    refine c_seq [1, 1, 0] [1, 1, 1] (by kernel_rfl) ?_
    refine c_seq [1, 1, 0, 0] [1, 1, 0, 1] (by kernel_rfl) ?_
    refine c_reg 3 same_c_R3 (by kernel_rfl) ?_
    refine at_pures 1 (by kernel_rfl) (by kernel_rfl) ?_
    refine at_done (by kernel_rfl) ?_
    refine then_n ?_
    refine c_block 0 [1, 1, 0, 1, 0] (by kernel_rfl) ?_
    refine c_loop (fun a w' => ∃ (k : Nat), (∃ u, a = mk 26 [(0, (.slice ao_a la.length cap_a)), (1, (.slice ao_b lb.length cap_b)), (5, (.int .i64 (k : Int))), (6, (.slice ao_a la.length cap_a)), (7, (.int .i64 (la.length : Int))), (8, (.slice ao_b lb.length cap_b)), (9, (.int .i64 (lb.length : Int))), (10, (.bool ((la.length : Int) != (lb.length : Int))))] u) ∧ (k ≤ la.length) ∧ (la.take k = lb.take k) ∧ (Rd w' ao_a (B la)) ∧ (Rd w' ao_b (B lb)) ∧ (Fr w w' N0)) (fun a _ => cnt (la.length) 5 a) [1, 1, 0, 1, 0, 0] (by kernel_rfl) ⟨0, is_mk (by kernel_rfl) (by kernel_rfl) (by kernel_rfl), ⟨Nat.zero_le _, (by simp), h_a, h_b, (Fr.refl w N0)⟩⟩ ?_
    rintro a3_ w4_ ⟨k, ⟨u5_, rfl⟩, ⟨hk, hE, q_0L2_, q_1L2_, hFrL2_⟩⟩
    refine c_seq [1, 1, 0, 1, 0, 0, 0] [1, 1, 0, 1, 0, 0, 1] (by kernel_rfl) ?_
    refine c_seq [1, 1, 0, 1, 0, 0, 0, 0] [1, 1, 0, 1, 0, 0, 0, 1] (by kernel_rfl) ?_
    refine c_reg 4 same_c_R4 (by kernel_rfl) ?_
    refine at_pures 4 (by kernel_rfl) (by kernel_rfl) ?_
    refine at_done (by kernel_rfl) ?_
    refine then_n ?_
    refine c_if (.tmp 14) (decide ((k : Int) < (la.length : Int))) [1, 1, 0, 1, 0, 0, 0, 1, 0] [1, 1, 0, 1, 0, 0, 0, 1, 1] (by kernel_rfl) (by kernel_rfl) (fun c6_ => ?_) (fun c6_ => ?_)
    · -- yes
      replace c6_ : (k : Int) < (la.length : Int) := of_decide_eq_true c6_
      refine c_skip (by kernel_rfl) ?_
      refine then_n ?_
      refine c_seq [1, 1, 0, 1, 0, 0, 1, 0] [1, 1, 0, 1, 0, 0, 1, 1] (by kernel_rfl) ?_
      refine c_block 1 [1, 1, 0, 1, 0, 0, 1, 0, 0] (by kernel_rfl) ?_
      refine c_seq [1, 1, 0, 1, 0, 0, 1, 0, 0, 0] [1, 1, 0, 1, 0, 0, 1, 0, 0, 1] (by kernel_rfl) ?_
      refine c_plan 6 same_c_R6 (fun w' => Rd w' ao_a (B la) ∧ Rd w' ao_b (B lb) ∧ True) same_c_sk6 same_c_pl6 (by kernel_rfl) (by kernel_rfl) (by kernel_rfl) (by kernel_rfl) (by kernel_rfl) (fun w7_ F8_ => ?_)
      have T9_ := Fr.tr hFrL2_ F8_
      have h11_ := Rd.keep' q_0L2_ F8_ Dis.n0
      have h12_ := Rd.keep' q_1L2_ F8_ Dis.n0
      have S10_ : Rd w7_ ao_a (B la) ∧ Rd w7_ ao_b (B lb) ∧ True := ⟨h11_, h12_, trivial⟩
      refine pl_pures 2 (by kernel_rfl) (by kernel_rfl) (off (by kernel_rfl)) ?_
      obtain ⟨ad13_, ha14_⟩ := h11_.has (k * 1) (by rw [B_length]; omega)
      refine pl_quiet 2 (.pointer (some (ad13_.add (k * 1)))) (by kernel_rfl) (by kernel_rfl) (fun w' => run_idx_o 128 (.tmp 17) (.tmp 18) 1 ao_a ad13_ la.length cap_a .i64 k (by kernel_rfl) (by kernel_rfl) (by kernel_rfl) (by kernel_rfl) (by kernel_rfl) ha14_ (by omega)) (off (by kernel_rfl)) ?_
      refine pl_read 3 (.int .u8 (((la).getD k 0 : Nat) : Int)) (by kernel_rfl) (by kernel_rfl) (fun w' hs => run_loadE1 5 (.tmp 19) ao_a ad13_ (k * 1) (B la) (.int .u8 (((la).getD k 0 : Nat) : Int)) (by kernel_rfl) (by kernel_rfl) (by kernel_rfl) ha14_ hs.1 (by rw [Nat.mul_one]; exact B_getD _ _ (by first | omega | (simp only [List.length_take, List.length_drop]; omega)))) S10_ ?_
      refine pl_pures 6 (by kernel_rfl) (by kernel_rfl) (fun _ => S10_) ?_
      obtain ⟨ad15_, ha16_⟩ := h12_.has (k * 1) (by rw [B_length]; omega)
      refine pl_quiet 6 (.pointer (some (ad15_.add (k * 1)))) (by kernel_rfl) (by kernel_rfl) (fun w' => run_idx_o 128 (.tmp 21) (.tmp 22) 1 ao_b ad15_ lb.length cap_b .i64 k (by kernel_rfl) (by kernel_rfl) (by kernel_rfl) (by kernel_rfl) (by kernel_rfl) ha16_ (by omega)) (fun _ => S10_) ?_
      refine pl_read 7 (.int .u8 (((lb).getD k 0 : Nat) : Int)) (by kernel_rfl) (by kernel_rfl) (fun w' hs => run_loadE1 5 (.tmp 23) ao_b ad15_ (k * 1) (B lb) (.int .u8 (((lb).getD k 0 : Nat) : Int)) (by kernel_rfl) (by kernel_rfl) (by kernel_rfl) ha16_ hs.2.1 (by rw [Nat.mul_one]; exact B_getD _ _ (by first | omega | (simp only [List.length_take, List.length_drop]; omega)))) S10_ ?_
      refine pl_pures 9 (by kernel_rfl) (by kernel_rfl) (off (by kernel_rfl)) ?_
      refine pl_done (by kernel_rfl) ?_
      refine then_n ?_
      refine c_if (.tmp 25) ((((la).getD k 0 : Nat) : Int) != (((lb).getD k 0 : Nat) : Int)) [1, 1, 0, 1, 0, 0, 1, 0, 0, 1, 0] [1, 1, 0, 1, 0, 0, 1, 0, 0, 1, 1] (by kernel_rfl) (by kernel_rfl) (fun c17_ => ?_) (fun c17_ => ?_)
      · -- yes
        replace c17_ : (((la).getD k 0 : Nat) : Int) ≠ (((lb).getD k 0 : Nat) : Int) := by simpa using c17_
        refine c_seq [1, 1, 0, 1, 0, 0, 1, 0, 0, 1, 0, 0] [1, 1, 0, 1, 0, 0, 1, 0, 0, 1, 0, 1] (by kernel_rfl) ?_
        refine c_reg 7 same_c_R7 (by kernel_rfl) ?_
        refine at_pures 1 (by kernel_rfl) (by kernel_rfl) ?_
        refine at_done (by kernel_rfl) ?_
        refine then_n ?_
        refine c_ret (by kernel_rfl) ?_
        refine blk_r ?_
        refine then_r ?_
        refine then_r ?_
        refine blk_r ?_
        refine then_r ?_
        refine fin_ret (.bool false) (by kernel_rfl) (by kernel_rfl) ?_
        exact ⟨(by rw [decide_eq_false (fun e => by subst e; omega)]), T9_⟩
      · -- no
        replace c17_ : (((la).getD k 0 : Nat) : Int) = (((lb).getD k 0 : Nat) : Int) := by simpa using c17_
        refine c_skip (by kernel_rfl) ?_
        refine blk_n ?_
        refine then_n ?_
        refine c_reg 5 same_c_R5 (by kernel_rfl) ?_
        refine at_pures 1 (by kernel_rfl) (by kernel_rfl) ?_
        refine at_int (kd := .i64) (IntKind.i64.wrap ((k : Int) + (1 : Int))) ((k : Int) + (1 : Int)) (by kernel_rfl) (by kernel_rfl) (wrapN_i64 (by omega) (by omega)) ?_
        refine at_pures 3 (by kernel_rfl) (by kernel_rfl) ?_
        refine at_done (by kernel_rfl) ?_
        refine then_n ?_
        exact ⟨⟨k + 1, is_mk (by kernel_rfl) (by kernel_rfl) (by kernel_rfl), ⟨(by omega), take_eq_step hE (by omega) (by omega) (by omega), h11_, h12_, T9_⟩⟩, cnt_lt (k := (k : Int)) (k' := ((k : Int) + (1 : Int))) (by kernel_rfl) (by kernel_rfl) (by omega) (by omega)⟩
    · -- no
      replace c6_ : ¬ ((k : Int) < (la.length : Int)) := of_decide_eq_false c6_
      refine c_exit 0 (by kernel_rfl) ?_
      refine then_e ?_
      refine then_e ?_
      refine blk_hit ?_
      refine then_n ?_
      refine c_seq [1, 1, 1, 0] [1, 1, 1, 1] (by kernel_rfl) ?_
      refine c_reg 8 same_c_R8 (by kernel_rfl) ?_
      refine at_pures 1 (by kernel_rfl) (by kernel_rfl) ?_
      refine at_done (by kernel_rfl) ?_
      refine then_n ?_
      refine c_ret (by kernel_rfl) ?_
      refine fin_ret (.bool true) (by kernel_rfl) (by kernel_rfl) ?_
      exact ⟨(by rw [decide_eq_true (by rw [List.take_of_length_le (by omega), List.take_of_length_le (by omega)] at hE; exact hE)]), hFrL2_⟩

noncomputable def rtake_c_R0 : Array Oper := rAt Tryd.prog 164 [0]
noncomputable def rtake_c_R1 : Array Oper := rAt Tryd.prog 164 [1, 0, 0]
noncomputable def rtake_c_R2 : Array Oper := rAt Tryd.prog 164 [1, 0, 1, 0, 0]
noncomputable def rtake_c_R3 : Array Oper := rAt Tryd.prog 164 [1, 1, 0, 0]
def rtake_c_sk3 : Nat → Bool := fun i => decide (i ∈ [6, 7, 8, 9])
def rtake_c_pl3 : List (Nat × PK) := [(0, .q false), (1, .q false), (2, .q false), (3, .q false), (4, .q true), (5, .q false), (6, .q false), (7, .q false), (8, .q false), (9, .q true), (10, .q false), (11, .q false)]
noncomputable def rtake_c_R4 : Array Oper := rAt Tryd.prog 164 [1, 1, 0, 1, 0, 0]
noncomputable def rtake_c_R5 : Array Oper := rAt Tryd.prog 164 [1, 1, 0, 1, 0, 1, 0]
noncomputable def rtake_c_R6 : Array Oper := rAt Tryd.prog 164 [1, 1, 1, 0]
def rtake_c_sk6 : Nat → Bool := fun i => decide (i ∈ [0, 5, 6, 7, 8, 9, 10, 11, 12, 13, 14])
def rtake_c_pl6 : List (Nat × PK) := [(1, .q false), (2, .q false), (3, .q false), (4, .q true), (5, .q false), (6, .q false), (7, .q false), (8, .q true), (9, .q false), (10, .q false), (11, .q false), (12, .q true), (13, .q false), (14, .q false), (15, .q false), (0, .e), (16, .e), (17, .q false)]
noncomputable def rtake_c_R7 : Array Oper := rAt Tryd.prog 164 [1, 1, 1, 1, 0]
noncomputable def rtake_c_R8 : Array Oper := rAt Tryd.prog 164 [1, 1, 1, 1, 1, 0]
set_option maxRecDepth 100000 in
theorem rtake_c (pb : Nat) (ao : Option Addr) (cap : Nat) (l : List Nat) (a0 : Nat) (e0 : Nat) (m : Nat) (w : World) (h_b : Rd w ao (B l)) (h_rf : w.heap[pb]? = some (.cells #[(.slice ao l.length cap), (.int .i64 (a0 : Int)), (.int .i64 (e0 : Int))] 210 (0, 0))) (d_rf_b : Dis (One pb) (Ar ao (B l))) (ha : a0 ≤ l.length) (hc : l.length ≤ cap) (hl : l.length ≤ 1000000) (hm : m ≤ 1000000000) :
    Calls Tryd.prog 164 #[(.pointer (some ⟨pb, 0, none⟩)), (.int .i64 (m : Int))] w fun e w' => ∃ (a1 : Nat), ∃ (e1 : Nat), ∃ (v_out' : Value), e = .returned v_out' ∧ w'.heap[pb]? = some (.cells #[(.slice ao l.length cap), (.int .i64 (a1 : Int)), (.int .i64 (e1 : Int))] 210 (0, 0)) ∧ Row w' 5 1 v_out' (((Rf.r l ⟨a0, e0⟩).out m).length) (B ((Rf.r l ⟨a0, e0⟩).out m)) ∧ Fr w w' (One pb) ∧ New w (One pb) (Own v_out') ∧ Dis (Own v_out') (One pb) ∧ a1 ≤ l.length ∧ Rf.r l ⟨a1, e1⟩ = (Rf.r l ⟨a0, e0⟩).take m := by
  refine c_enter (mk 53 [(0, (.pointer (some ⟨pb, 0, none⟩))), (1, (.int .i64 (m : Int)))] (fun _ => undef)) Tryd.func164 (by kernel_rfl) (by kernel_rfl) ?_
  refine c_seq [0] [1] (by kernel_rfl) ?_
  refine c_reg 0 rtake_c_R0 (by kernel_rfl) ?_
  refine at_pures 1 (by kernel_rfl) (by kernel_rfl) ?_
  refine at_done (by kernel_rfl) ?_
  refine then_n ?_
  refine c_seq [1, 0] [1, 1] (by kernel_rfl) ?_
  refine c_seq [1, 0, 0] [1, 0, 1] (by kernel_rfl) ?_
  refine c_reg 1 rtake_c_R1 (by kernel_rfl) ?_
  refine at_pures 3 (by kernel_rfl) (by kernel_rfl) ?_
  refine at_load1 32 (.tmp 8) pb 2 _ _ _ (.int .i64 (e0 : Int)) (by kernel_rfl) (by kernel_rfl) (by kernel_rfl) (by kernel_rfl) h_rf (by kernel_rfl) ?_
  refine at_pures 5 (by kernel_rfl) (by kernel_rfl) ?_
  refine at_done (by kernel_rfl) ?_
  refine then_n ?_
  refine c_if (.tmp 10) ((e0 : Int) != (0 : Int)) [1, 0, 1, 0] [1, 0, 1, 1] (by kernel_rfl) (by kernel_rfl) (fun c1_ => ?_) (fun c1_ => ?_)
  · -- yes
    replace c1_ : (e0 : Int) ≠ (0 : Int) := by simpa using c1_
    refine c_seq [1, 0, 1, 0, 0] [1, 0, 1, 0, 1] (by kernel_rfl) ?_
    refine c_reg 2 rtake_c_R2 (by kernel_rfl) ?_
    refine at_pures 1 (by kernel_rfl) (by kernel_rfl) ?_
    refine at_done (by kernel_rfl) ?_
    refine then_n ?_
    refine c_ret (by kernel_rfl) ?_
    refine then_r ?_
    refine fin_ret (.slice none 0 0) (by kernel_rfl) (by kernel_rfl) ?_
    have hq := rf_dead (l := l) (a := a0) (e := e0) (by omega) m
    have h2_ : Row w 5 1 (.slice none 0 0) 0 [] := Row.nil _ _ _
    exact ⟨a0, e0, (.slice none 0 0), rfl, h_rf, (by rw [hq.2]; first | exact h2_ | (have h := h2_; simpa only [Nat.zero_add, List.nil_append, Nat.add_sub_cancel_left] using h)), (Fr.refl w (One pb)), (by rw [Own_nil]; exact fun _ h => h.elim), (by rw [Own_nil]; exact Dis.n0'), (by omega), (hq.1.symm)⟩
  · -- no
    replace c1_ : (e0 : Int) = (0 : Int) := by simpa using c1_
    refine c_skip (by kernel_rfl) ?_
    refine then_n ?_
    refine c_seq [1, 1, 0] [1, 1, 1] (by kernel_rfl) ?_
    refine c_seq [1, 1, 0, 0] [1, 1, 0, 1] (by kernel_rfl) ?_
    refine c_plan 3 rtake_c_R3 (fun w' => w'.heap[pb]? = some (.cells #[(.slice ao l.length cap), (.int .i64 (a0 : Int)), (.int .i64 (e0 : Int))] 210 (0, 0)) ∧ True) rtake_c_sk3 rtake_c_pl3 (by kernel_rfl) (by kernel_rfl) (by kernel_rfl) (by kernel_rfl) (by kernel_rfl) (fun w4_ F5_ => ?_)
    have T6_ := Fr.tr (Fr.refl w (One pb)) F5_
    have h8_ := Fr.keep F5_ h_rf Dis.n0
    have S7_ : w4_.heap[pb]? = some (.cells #[(.slice ao l.length cap), (.int .i64 (a0 : Int)), (.int .i64 (e0 : Int))] 210 (0, 0)) ∧ True := ⟨h8_, trivial⟩
    refine pl_pures 4 (by kernel_rfl) (by kernel_rfl) (off (by kernel_rfl)) ?_
    refine pl_read 4 (.slice ao l.length cap) (by kernel_rfl) (by kernel_rfl) (fun w' hs => run_load1 128 (.tmp 14) pb 0 _ _ _ (.slice ao l.length cap) (by kernel_rfl) (by kernel_rfl) (by kernel_rfl) hs.1 (by kernel_rfl)) S7_ ?_
    refine pl_pures 9 (by kernel_rfl) (by kernel_rfl) (fun _ => S7_) ?_
    refine pl_read 9 (.int .i64 (a0 : Int)) (by kernel_rfl) (by kernel_rfl) (fun w' hs => run_load1 3 (.tmp 19) pb 1 _ _ _ (.int .i64 (a0 : Int)) (by kernel_rfl) (by kernel_rfl) (by kernel_rfl) hs.1 (by kernel_rfl)) S7_ ?_
    refine pl_as 10 (.int .i64 (IntKind.i64.wrap ((l.length : Int) - (a0 : Int)))) (.int .i64 ((l.length : Int) - (a0 : Int))) (by kernel_rfl) (by kernel_rfl) ⟨by kernel_rfl, by kernel_rfl⟩ (congrArg (Value.int .i64) (wrapN_i64 (by omega) (by omega))) (off (by kernel_rfl)) ?_
    refine pl_pures 12 (by kernel_rfl) (by kernel_rfl) (off (by kernel_rfl)) ?_
    refine pl_done (by kernel_rfl) ?_
    refine then_n ?_
    refine c_if (.tmp 22) (decide ((m : Int) > ((l.length : Int) - (a0 : Int)))) [1, 1, 0, 1, 0] [1, 1, 0, 1, 1] (by kernel_rfl) (by kernel_rfl) (fun c9_ => ?_) (fun c9_ => ?_)
    · -- yes
      replace c9_ : (m : Int) > ((l.length : Int) - (a0 : Int)) := of_decide_eq_true c9_
      refine c_seq [1, 1, 0, 1, 0, 0] [1, 1, 0, 1, 0, 1] (by kernel_rfl) ?_
      refine c_reg 4 rtake_c_R4 (by kernel_rfl) ?_
      refine at_pures 3 (by kernel_rfl) (by kernel_rfl) ?_
      have h10_ := Rd.keep' h_b F5_ Dis.n0
      refine at_do (by kernel_rfl) (op_store 32 (.tmp 25) (.const (.int .i64 3)) pb 2 (.int .i64 3) _ _ #[(.slice ao l.length cap), (.int .i64 (a0 : Int)), (.int .i64 3)] (by kernel_rfl) (by kernel_rfl) (by kernel_rfl) h8_ (by kernel_rfl) (by kernel_rfl) (by kernel_rfl) (by kernel_rfl) (fun w11_ h12_ z13_ F14_ => ?_))
      have T15_ := Fr.then T6_ F14_ (New.refl w (One pb))
      have h16_ := Rd.keep' h10_ F14_ (Dis.sym d_rf_b)
      refine at_done (by kernel_rfl) ?_
      refine then_n ?_
      refine c_seq [1, 1, 0, 1, 0, 1, 0] [1, 1, 0, 1, 0, 1, 1] (by kernel_rfl) ?_
      refine c_reg 5 rtake_c_R5 (by kernel_rfl) ?_
      refine at_pures 1 (by kernel_rfl) (by kernel_rfl) ?_
      refine at_done (by kernel_rfl) ?_
      refine then_n ?_
      refine c_ret (by kernel_rfl) ?_
      refine then_r ?_
      refine fin_ret (.slice none 0 0) (by kernel_rfl) (by kernel_rfl) ?_
      have hq := rf_short (l := l) (a := a0) (e := e0) (m := m) (by omega) (by omega)
      have h17_ : Row w11_ 5 1 (.slice none 0 0) 0 [] := Row.nil _ _ _
      exact ⟨a0, 3, (.slice none 0 0), rfl, h12_, (by rw [hq.2]; first | exact h17_ | (have h := h17_; simpa only [Nat.zero_add, List.nil_append, Nat.add_sub_cancel_left] using h)), T15_, (by rw [Own_nil]; exact fun _ h => h.elim), (by rw [Own_nil]; exact Dis.n0'), (by omega), (hq.1.symm)⟩
    · -- no
      replace c9_ : ¬ ((m : Int) > ((l.length : Int) - (a0 : Int))) := of_decide_eq_false c9_
      refine c_skip (by kernel_rfl) ?_
      refine then_n ?_
      refine c_seq [1, 1, 1, 0] [1, 1, 1, 1] (by kernel_rfl) ?_
      refine c_plan 6 rtake_c_R6 (fun w' => w'.heap[pb]? = some (.cells #[(.slice ao l.length cap), (.int .i64 (a0 : Int)), (.int .i64 (e0 : Int))] 210 (0, 0)) ∧ True) rtake_c_sk6 rtake_c_pl6 (by kernel_rfl) (by kernel_rfl) (by kernel_rfl) (by kernel_rfl) (by kernel_rfl) (fun w19_ F20_ => ?_)
      have T21_ := Fr.tr T6_ F20_
      have h23_ := Fr.keep F20_ h8_ Dis.n0
      have S22_ : w19_.heap[pb]? = some (.cells #[(.slice ao l.length cap), (.int .i64 (a0 : Int)), (.int .i64 (e0 : Int))] 210 (0, 0)) ∧ True := ⟨h23_, trivial⟩
      refine pl_pures 3 (by kernel_rfl) (by kernel_rfl) (off (by kernel_rfl)) ?_
      refine pl_read 4 (.slice ao l.length cap) (by kernel_rfl) (by kernel_rfl) (fun w' hs => run_load1 128 (.tmp 29) pb 0 _ _ _ (.slice ao l.length cap) (by kernel_rfl) (by kernel_rfl) (by kernel_rfl) hs.1 (by kernel_rfl)) S22_ ?_
      refine pl_pures 7 (by kernel_rfl) (by kernel_rfl) (fun _ => S22_) ?_
      refine pl_read 8 (.int .i64 (a0 : Int)) (by kernel_rfl) (by kernel_rfl) (fun w' hs => run_load1 3 (.tmp 33) pb 1 _ _ _ (.int .i64 (a0 : Int)) (by kernel_rfl) (by kernel_rfl) (by kernel_rfl) hs.1 (by kernel_rfl)) S22_ ?_
      refine pl_pures 11 (by kernel_rfl) (by kernel_rfl) (fun _ => S22_) ?_
      refine pl_read 12 (.int .i64 (a0 : Int)) (by kernel_rfl) (by kernel_rfl) (fun w' hs => run_load1 3 (.tmp 37) pb 1 _ _ _ (.int .i64 (a0 : Int)) (by kernel_rfl) (by kernel_rfl) (by kernel_rfl) hs.1 (by kernel_rfl)) S22_ ?_
      refine pl_pures 13 (by kernel_rfl) (by kernel_rfl) (fun _ => S22_) ?_
      refine pl_as 14 (.int .i64 (IntKind.i64.wrap ((a0 : Int) + (m : Int)))) (.int .i64 ((a0 : Int) + (m : Int))) (by kernel_rfl) (by kernel_rfl) ⟨by kernel_rfl, by kernel_rfl⟩ (congrArg (Value.int .i64) (wrapN_i64 (by omega) (by omega))) (fun _ => S22_) ?_
      have h24_ := Rd.keep' h_b F5_ Dis.n0
      have h25_ := Rd.keep' h24_ F20_ Dis.n0
      have h26_ : Rd w19_ (cutA ao a0 cap 1) (B ((l.drop a0).take (a0 + m - a0))) := Rd.cutB h25_ a0 (a0 + m - a0) cap (by omega)
      refine pl_quiet 15 (.slice (cutA ao a0 cap 1) (a0 + m - a0) (cap - a0)) (by kernel_rfl) (by kernel_rfl) (fun w' => run_cut 128 (.tmp 30) (some (.tmp 34)) (some (.tmp 40)) none 1 ao l.length cap a0 (a0 + m) cap (by kernel_rfl) (by kernel_rfl) (by kernel_rfl) (by kernel_rfl) (by kernel_rfl) (by kernel_rfl) (by kernel_rfl) (by kernel_rfl) (by omega) (by omega) (by omega)) (off (by kernel_rfl)) ?_
      refine pl_do 0 (by kernel_rfl) (by kernel_rfl) (op_new (.cells #[] 5) (fun N => (.slice (some ⟨N, 0, none⟩) 0 0)) (fun _ => by kernel_rfl) (fun w29_ b28_ h30_ q31_ F32_ => ?_))
      have d33_ : Dis (One b28_) (Ar ao (B l)) := Dis.fresh (New.one q31_) (Rd.in h25_)
      have d34_ : Dis (One b28_) (One pb) := Dis.fresh (New.one q31_) (In.one h23_)
      have d35_ : Dis (One b28_) (Ar (cutA ao a0 cap 1) (B ((l.drop a0).take (a0 + m - a0)))) := Dis.fresh (New.one q31_) (Rd.in h26_)
      have N36_ : New w (One pb) (One b28_) := New.made q31_ (Fr.size T21_)
      have T37_ := Fr.tr T21_ F32_
      have h38_ := Fr.keep F32_ h23_ Dis.n0
      have S39_ : w29_.heap[pb]? = some (.cells #[(.slice ao l.length cap), (.int .i64 (a0 : Int)), (.int .i64 (e0 : Int))] 210 (0, 0)) ∧ True := ⟨h38_, trivial⟩
      refine ⟨fun _ => S39_, ?_⟩
      have h40_ := Rd.keep' h25_ F32_ Dis.n0
      have h41_ := Rd.keep' h26_ F32_ Dis.n0
      have h42_ : Row w29_ 5 1 (.slice (some ⟨b28_, 0, none⟩) 0 0) 0 [] := Row.made' h30_ (by rfl) (by decide) (by decide) (by rfl)
      refine pl_do 16 (by kernel_rfl) (by kernel_rfl) (op_append (.tmp 26) (.tmp 41) 128 128 5 1 1 (.int .u8 0) (by kernel_rfl) (by kernel_rfl) (by rfl) (v := (.slice (some ⟨b28_, 0, none⟩) 0 0)) (by kernel_rfl) h42_ (xv := (.slice (cutA ao a0 cap 1) (a0 + m - a0) (cap - a0))) (m := (a0 + m - a0)) (news := B ((l.drop a0).take (a0 + m - a0))) (by kernel_rfl) (Rd.src (size := 1) (e := 5) (by kernel_rfl) h41_ (by simp only [B_length, List.length_take, List.length_drop]; omega) (by decide) B_one) (by simp only [maxLen]; omega) (by omega) (fun v43_ w44_ h45_ F46_ s47_ => ?_))
      have T48_ := Fr.then T37_ F46_ (New.own N36_)
      have d49_ : Dis (Own v43_) (Ar ao (B l)) := Dis.step (Dis.own d33_) s47_ (Rd.in h40_)
      have h50_ := Rd.keep' h40_ F46_ (Dis.sym (Dis.own d33_))
      have d51_ : Dis (Own v43_) (One pb) := Dis.step (Dis.own d34_) s47_ (In.one h38_)
      have h52_ := Fr.keep F46_ h38_ (Dis.sym (Dis.own d34_))
      have d53_ : Dis (Own v43_) (Ar (cutA ao a0 cap 1) (B ((l.drop a0).take (a0 + m - a0)))) := Dis.step (Dis.own d35_) s47_ (Rd.in h41_)
      have h54_ := Rd.keep' h41_ F46_ (Dis.sym (Dis.own d35_))
      have N55_ : New w (One pb) (Own v43_) := New.trans (New.own N36_) s47_ (Fr.size T37_)
      have h56_ : Row w44_ 5 1 v43_ ([] ++ ((l.drop a0).take (a0 + m - a0))).length (B ([] ++ ((l.drop a0).take (a0 + m - a0)))) := Row.appB h45_ rfl
      refine ⟨off (by kernel_rfl), ?_⟩
      refine pl_pures 18 (by kernel_rfl) (by kernel_rfl) (off (by kernel_rfl)) ?_
      refine pl_done (by kernel_rfl) ?_
      refine then_n ?_
      refine c_seq [1, 1, 1, 1, 0] [1, 1, 1, 1, 1] (by kernel_rfl) ?_
      refine c_reg 7 rtake_c_R7 (by kernel_rfl) ?_
      refine at_pures 4 (by kernel_rfl) (by kernel_rfl) ?_
      refine at_load1 3 (.tmp 46) pb 1 _ _ _ (.int .i64 (a0 : Int)) (by kernel_rfl) (by kernel_rfl) (by kernel_rfl) (by kernel_rfl) h52_ (by kernel_rfl) ?_
      refine at_pures 6 (by kernel_rfl) (by kernel_rfl) ?_
      refine at_int (kd := .i64) (IntKind.i64.wrap ((a0 : Int) + (m : Int))) ((a0 : Int) + (m : Int)) (by kernel_rfl) (by kernel_rfl) (wrapN_i64 (by omega) (by omega)) ?_
      refine at_pures 9 (by kernel_rfl) (by kernel_rfl) ?_
      refine at_do (by kernel_rfl) (op_store 3 (.tmp 51) (.tmp 49) pb 1 (.int .i64 ((a0 : Int) + (m : Int))) _ _ #[(.slice ao l.length cap), (.int .i64 ((a0 : Int) + (m : Int))), (.int .i64 (e0 : Int))] (by kernel_rfl) (by kernel_rfl) (by kernel_rfl) h52_ (by kernel_rfl) (by kernel_rfl) (by kernel_rfl) (by kernel_rfl) (fun w57_ h58_ z59_ F60_ => ?_))
      have T61_ := Fr.then T48_ F60_ (New.refl w (One pb))
      have h62_ := Rd.keep' h50_ F60_ (Dis.sym d_rf_b)
      have h63_ := Rd.keep' h54_ F60_ (Sub.dis (Sub.cutB (l := l)) (Dis.sym d_rf_b))
      have h64_ := Row.keep h56_ F60_ d51_
      refine at_done (by kernel_rfl) ?_
      refine then_n ?_
      refine c_seq [1, 1, 1, 1, 1, 0] [1, 1, 1, 1, 1, 1] (by kernel_rfl) ?_
      refine c_reg 8 rtake_c_R8 (by kernel_rfl) ?_
      refine at_pures 2 (by kernel_rfl) (by kernel_rfl) ?_
      refine at_done (by kernel_rfl) ?_
      refine then_n ?_
      refine c_ret (by kernel_rfl) ?_
      refine fin_ret v43_ (by kernel_rfl) (by kernel_rfl) ?_
      have hq := rf_take (l := l) (a := a0) (e := e0) (m := m) (by omega) (by omega)
      have hlen : ((l.drop a0).take m).length = m := by rw [List.length_take, List.length_drop]; omega
      exact ⟨(a0 + m), e0, v43_, rfl, h58_, (by rw [hq.2]; first | exact h64_ | (have h := h64_; simpa only [Nat.zero_add, List.nil_append, Nat.add_sub_cancel_left] using h)), T61_, N55_, d51_, (by omega), (hq.1.symm)⟩

noncomputable def rnumber_c_R0 : Array Oper := rAt Tryd.prog 126 [0]
noncomputable def rnumber_c_R1 : Array Oper := rAt Tryd.prog 126 [1, 0]
noncomputable def rnumber_c_R2 : Array Oper := rAt Tryd.prog 126 [1, 1, 0]
noncomputable def rnumber_c_R3 : Array Oper := rAt Tryd.prog 126 [1, 1, 1, 0, 0]
noncomputable def rnumber_c_R4 : Array Oper := rAt Tryd.prog 126 [1, 1, 1, 0, 1, 0, 0, 0, 0]
noncomputable def rnumber_c_R6 : Array Oper := rAt Tryd.prog 126 [1, 1, 1, 0, 1, 0, 0, 1, 0, 0]
noncomputable def rnumber_c_R5 : Array Oper := rAt Tryd.prog 126 [1, 1, 1, 0, 1, 0, 0, 1, 1]
noncomputable def rnumber_c_R7 : Array Oper := rAt Tryd.prog 126 [1, 1, 1, 1, 0]
set_option maxRecDepth 100000 in
theorem rnumber_c (pb : Nat) (ao : Option Addr) (cap : Nat) (l : List Nat) (a0 : Nat) (e0 : Nat) (size : Nat) (w : World) (h_b : Rd w ao (B l)) (h_rf : w.heap[pb]? = some (.cells #[(.slice ao l.length cap), (.int .i64 (a0 : Int)), (.int .i64 (e0 : Int))] 210 (0, 0))) (d_rf_b : Dis (One pb) (Ar ao (B l))) (ha : a0 ≤ l.length) (hc : l.length ≤ cap) (hl : l.length ≤ 1000000) (hs : size ≤ 8) (hB : Byt l) :
    Calls Tryd.prog 126 #[(.pointer (some ⟨pb, 0, none⟩)), (.int .i64 (size : Int))] w fun e w' => ∃ (a1 : Nat), ∃ (e1 : Nat), e = .returned (.int .u64 ((Rf.r l ⟨a0, e0⟩).num size : Int)) ∧ w'.heap[pb]? = some (.cells #[(.slice ao l.length cap), (.int .i64 (a1 : Int)), (.int .i64 (e1 : Int))] 210 (0, 0)) ∧ Fr w w' (One pb) ∧ a1 ≤ l.length ∧ Rf.r l ⟨a1, e1⟩ = (Rf.r l ⟨a0, e0⟩).take size := by
  have hQ := Byt.rf hB ⟨a0, e0⟩
  have hBo := Byt.out hQ size; have hg := getD_lt hBo; have hol := out_length_le (Rf.r l ⟨a0, e0⟩) size
  refine c_enter (mk 26 [(0, (.pointer (some ⟨pb, 0, none⟩))), (1, (.int .i64 (size : Int)))] (fun _ => undef)) Tryd.func126 (by kernel_rfl) (by kernel_rfl) ?_
  refine c_seq [0] [1] (by kernel_rfl) ?_
  refine c_reg 0 rnumber_c_R0 (by kernel_rfl) ?_
  refine at_pures 1 (by kernel_rfl) (by kernel_rfl) ?_
  refine at_done (by kernel_rfl) ?_
  refine then_n ?_
  refine c_seq [1, 0] [1, 1] (by kernel_rfl) ?_
  refine c_reg 1 rnumber_c_R1 (by kernel_rfl) ?_
  refine at_pures 2 (by kernel_rfl) (by kernel_rfl) ?_
  refine at_do (by kernel_rfl) (op_call 164 #[(.tmp 8), (.tmp 9)] #[(.pointer (some ⟨pb, 0, none⟩)), (.int .i64 (size : Int))] (by kernel_rfl) (by kernel_rfl) (by kernel_rfl) ?_)
  have C14_ := rtake_c pb ao cap l a0 e0 size w h_b h_rf d_rf_b (by first | omega | with_reducible assumption | (simp only [List.length_append, List.length_cons, List.length_nil, putB_length]; omega) | decide) (by first | omega | with_reducible assumption | (simp only [List.length_append, List.length_cons, List.length_nil, putB_length]; omega) | decide) (by first | omega | with_reducible assumption | (simp only [List.length_append, List.length_cons, List.length_nil, putB_length]; omega) | decide) (by first | omega | with_reducible assumption | (simp only [List.length_append, List.length_cons, List.length_nil, putB_length]; omega) | decide)
  refine Calls.mono C14_ ?_
  rintro e13_ w11_ ⟨a1_, e2_, vout3_, rfl, h4_, h5_, F12_, h7_, h8_, h9_, h10_⟩
  refine ⟨_, rfl, ?_⟩
  have d15_ : Dis (Own vout3_) (Ar ao (B l)) := Dis.step d_rf_b h7_ (Rd.in h_b)
  have T16_ := Fr.then (Fr.refl w (One pb)) F12_ (New.refl w (One pb))
  have h17_ := Rd.keep' h_b F12_ (Dis.sym d_rf_b)
  have N19_ : New w (One pb) (Own vout3_) := New.trans (New.refl w (One pb)) h7_ (Fr.size (Fr.refl w (One pb)))
  obtain ⟨ao21_, cap22_, rfl, hc23_, hm24_, hR25_, ho26_⟩ := Row.read h5_
  refine at_pures 4 (by kernel_rfl) (by kernel_rfl) ?_
  refine at_done (by kernel_rfl) ?_
  refine then_n ?_
  refine c_seq [1, 1, 0] [1, 1, 1] (by kernel_rfl) ?_
  refine c_reg 2 rnumber_c_R2 (by kernel_rfl) ?_
  refine at_pures 1 (by kernel_rfl) (by kernel_rfl) ?_
  refine at_done (by kernel_rfl) ?_
  refine then_n ?_
  refine c_seq [1, 1, 1, 0] [1, 1, 1, 1] (by kernel_rfl) ?_
  refine c_seq [1, 1, 1, 0, 0] [1, 1, 1, 0, 1] (by kernel_rfl) ?_
  refine c_reg 3 rnumber_c_R3 (by kernel_rfl) ?_
  refine at_pures 1 (by kernel_rfl) (by kernel_rfl) ?_
  refine at_done (by kernel_rfl) ?_
  refine then_n ?_
  refine c_block 0 [1, 1, 1, 0, 1, 0] (by kernel_rfl) ?_
  refine c_loop (fun a w' => ∃ (k : Nat), (∃ u, a = mk 26 [(0, (.pointer (some ⟨pb, 0, none⟩))), (1, (.int .i64 (size : Int))), (4, (.int .u64 0)), (5, (.slice ao21_ (((Rf.r l ⟨a0, e0⟩).out size).length) cap22_)), (6, (.int .u64 ((num (((Rf.r l ⟨a0, e0⟩).out size).take k) : Nat) : Int))), (7, (.int .i64 (k : Int))), (8, (.pointer (some ⟨pb, 0, none⟩))), (9, (.int .i64 (size : Int))), (10, (.slice ao21_ (((Rf.r l ⟨a0, e0⟩).out size).length) cap22_))] u) ∧ (k ≤ ((Rf.r l ⟨a0, e0⟩).out size).length) ∧ (Rd w' ao (B l)) ∧ (w'.heap[pb]? = some (.cells #[(.slice ao l.length cap), (.int .i64 (a1_ : Int)), (.int .i64 (e2_ : Int))] 210 (0, 0))) ∧ (Row w' 5 1 (.slice ao21_ (((Rf.r l ⟨a0, e0⟩).out size).length) cap22_) (((Rf.r l ⟨a0, e0⟩).out size).length) (B ((Rf.r l ⟨a0, e0⟩).out size))) ∧ (Fr w w' (One pb))) (fun a _ => cnt (((Rf.r l ⟨a0, e0⟩).out size).length) 7 a) [1, 1, 1, 0, 1, 0, 0] (by kernel_rfl) ⟨0, is_mk (by kernel_rfl) (by kernel_rfl) (by kernel_rfl), ⟨Nat.zero_le _, h17_, h4_, h5_, T16_⟩⟩ ?_
  rintro a28_ w29_ ⟨k, ⟨u30_, rfl⟩, ⟨hk, q_0L27_, q_1L27_, q_2L27_, hFrL27_⟩⟩
  refine c_seq [1, 1, 1, 0, 1, 0, 0, 0] [1, 1, 1, 0, 1, 0, 0, 1] (by kernel_rfl) ?_
  refine c_seq [1, 1, 1, 0, 1, 0, 0, 0, 0] [1, 1, 1, 0, 1, 0, 0, 0, 1] (by kernel_rfl) ?_
  refine c_reg 4 rnumber_c_R4 (by kernel_rfl) ?_
  refine at_pures 4 (by kernel_rfl) (by kernel_rfl) ?_
  refine at_done (by kernel_rfl) ?_
  refine then_n ?_
  refine c_if (.tmp 14) (decide ((k : Int) < (((Rf.r l ⟨a0, e0⟩).out size).length : Int))) [1, 1, 1, 0, 1, 0, 0, 0, 1, 0] [1, 1, 1, 0, 1, 0, 0, 0, 1, 1] (by kernel_rfl) (by kernel_rfl) (fun c31_ => ?_) (fun c31_ => ?_)
  · -- yes
    replace c31_ : (k : Int) < (((Rf.r l ⟨a0, e0⟩).out size).length : Int) := of_decide_eq_true c31_
    refine c_skip (by kernel_rfl) ?_
    refine then_n ?_
    refine c_seq [1, 1, 1, 0, 1, 0, 0, 1, 0] [1, 1, 1, 0, 1, 0, 0, 1, 1] (by kernel_rfl) ?_
    refine c_block 1 [1, 1, 1, 0, 1, 0, 0, 1, 0, 0] (by kernel_rfl) ?_
    refine c_reg 6 rnumber_c_R6 (by kernel_rfl) ?_
    refine at_pures 1 (by kernel_rfl) (by kernel_rfl) ?_
    refine at_int (kd := .u64) (IntKind.u64.wrap ((256 : Int) * ((num (((Rf.r l ⟨a0, e0⟩).out size).take k) : Nat) : Int))) (((256 * num (((Rf.r l ⟨a0, e0⟩).out size).take k) : Nat) : Int)) (by kernel_rfl) (by kernel_rfl) (by have := num_take_lt hBo (k := k) (N := 7) (by omega); rw [wrapN_u64 (by omega) (by omega)]; omega) ?_
    refine at_pures 4 (by kernel_rfl) (by kernel_rfl) ?_
    obtain ⟨ad32_, ha33_⟩ := (Row.rd q_2L27_).has (k * 1) (by rw [B_length]; omega)
    refine at_run (.pointer (some (ad32_.add (k * 1)))) _ (by kernel_rfl) (run_idx_o 128 (.tmp 19) (.tmp 20) 1 ao21_ ad32_ (((Rf.r l ⟨a0, e0⟩).out size).length) cap22_ .i64 k (by kernel_rfl) (by kernel_rfl) (by kernel_rfl) (by kernel_rfl) (by kernel_rfl) ha33_ (by omega)) ?_
    refine at_run (.int .u8 ((((Rf.r l ⟨a0, e0⟩).out size).getD k 0 : Nat) : Int)) _ (by kernel_rfl) (run_loadE1 5 (.tmp 21) ao21_ ad32_ (k * 1) (B ((Rf.r l ⟨a0, e0⟩).out size)) (.int .u8 ((((Rf.r l ⟨a0, e0⟩).out size).getD k 0 : Nat) : Int)) (by kernel_rfl) (by kernel_rfl) (by kernel_rfl) ha33_ (Row.rd q_2L27_) (by rw [Nat.mul_one]; exact B_getD _ _ (by first | omega | (simp only [List.length_take, List.length_drop]; omega)))) ?_
    refine at_int (kd := .u64) (IntKind.u64.wrap (((((Rf.r l ⟨a0, e0⟩).out size).getD k 0 : Nat) : Int))) (((((Rf.r l ⟨a0, e0⟩).out size).getD k 0 : Nat) : Int)) (by kernel_rfl) (by kernel_rfl) (wrapN_u64 (by omega) (by have := hg k; omega)) ?_
    refine at_int (kd := .u64) (IntKind.u64.wrap (((256 * num (((Rf.r l ⟨a0, e0⟩).out size).take k) : Nat) : Int) + ((((Rf.r l ⟨a0, e0⟩).out size).getD k 0 : Nat) : Int))) (((num (((Rf.r l ⟨a0, e0⟩).out size).take (k + 1)) : Nat) : Int)) (by kernel_rfl) (by kernel_rfl) (num_step2 (by omega) hBo (by omega)) ?_
    refine at_pures 9 (by kernel_rfl) (by kernel_rfl) ?_
    refine at_done (by kernel_rfl) ?_
    refine blk_n ?_
    refine then_n ?_
    refine c_reg 5 rnumber_c_R5 (by kernel_rfl) ?_
    refine at_pures 1 (by kernel_rfl) (by kernel_rfl) ?_
    refine at_int (kd := .i64) (IntKind.i64.wrap ((k : Int) + (1 : Int))) ((k : Int) + (1 : Int)) (by kernel_rfl) (by kernel_rfl) (wrapN_i64 (by omega) (by omega)) ?_
    refine at_pures 3 (by kernel_rfl) (by kernel_rfl) ?_
    refine at_done (by kernel_rfl) ?_
    refine then_n ?_
    exact ⟨⟨k + 1, is_mk (by kernel_rfl) (by kernel_rfl) (by kernel_rfl), ⟨(by omega), q_0L27_, q_1L27_, q_2L27_, hFrL27_⟩⟩, cnt_lt (k := (k : Int)) (k' := ((k : Int) + (1 : Int))) (by kernel_rfl) (by kernel_rfl) (by omega) (by omega)⟩
  · -- no
    replace c31_ : ¬ ((k : Int) < (((Rf.r l ⟨a0, e0⟩).out size).length : Int)) := of_decide_eq_false c31_
    refine c_exit 0 (by kernel_rfl) ?_
    refine then_e ?_
    refine then_e ?_
    refine blk_hit ?_
    refine then_n ?_
    refine c_seq [1, 1, 1, 1, 0] [1, 1, 1, 1, 1] (by kernel_rfl) ?_
    refine c_reg 7 rnumber_c_R7 (by kernel_rfl) ?_
    refine at_pures 2 (by kernel_rfl) (by kernel_rfl) ?_
    refine at_done (by kernel_rfl) ?_
    refine then_n ?_
    refine c_ret (by kernel_rfl) ?_
    refine fin_ret (.int .u64 ((num (((Rf.r l ⟨a0, e0⟩).out size).take k) : Nat) : Int)) (by kernel_rfl) (by kernel_rfl) ?_
    exact ⟨a1_, e2_, (by rw [List.take_of_length_le (by omega)]; rfl), q_1L27_, hFrL27_, (by assumption), (by assumption)⟩

noncomputable def rhash4_c_R0 : Array Oper := rAt Tryd.prog 125 [0]
noncomputable def rhash4_c_R1 : Array Oper := rAt Tryd.prog 125 [1, 0]
noncomputable def rhash4_c_R2 : Array Oper := rAt Tryd.prog 125 [1, 1, 0]
noncomputable def rhash4_c_R3 : Array Oper := rAt Tryd.prog 125 [1, 1, 1, 0, 0]
noncomputable def rhash4_c_R4 : Array Oper := rAt Tryd.prog 125 [1, 1, 1, 0, 1, 0, 0, 0, 0]
noncomputable def rhash4_c_R6 : Array Oper := rAt Tryd.prog 125 [1, 1, 1, 0, 1, 0, 0, 1, 0, 0]
noncomputable def rhash4_c_R5 : Array Oper := rAt Tryd.prog 125 [1, 1, 1, 0, 1, 0, 0, 1, 1]
noncomputable def rhash4_c_R7 : Array Oper := rAt Tryd.prog 125 [1, 1, 1, 1, 0]
set_option maxRecDepth 100000 in
theorem rhash4_c (pb : Nat) (ao : Option Addr) (cap : Nat) (l : List Nat) (a0 : Nat) (e0 : Nat) (w : World) (h_b : Rd w ao (B l)) (h_rf : w.heap[pb]? = some (.cells #[(.slice ao l.length cap), (.int .i64 (a0 : Int)), (.int .i64 (e0 : Int))] 210 (0, 0))) (d_rf_b : Dis (One pb) (Ar ao (B l))) (ha : a0 ≤ l.length) (hc : l.length ≤ cap) (hl : l.length ≤ 1000000) :
    Calls Tryd.prog 125 #[(.pointer (some ⟨pb, 0, none⟩))] w fun e w' => ∃ (a1 : Nat), ∃ (e1 : Nat), e = .returned (.agg (hv ((Rf.r l ⟨a0, e0⟩).hash))) ∧ w'.heap[pb]? = some (.cells #[(.slice ao l.length cap), (.int .i64 (a1 : Int)), (.int .i64 (e1 : Int))] 210 (0, 0)) ∧ Fr w w' (One pb) ∧ a1 ≤ l.length ∧ Rf.r l ⟨a1, e1⟩ = (Rf.r l ⟨a0, e0⟩).take 32 := by
  have hol := out_length_le (Rf.r l ⟨a0, e0⟩) 32
  refine c_enter (mk 22 [(0, (.pointer (some ⟨pb, 0, none⟩)))] (fun _ => undef)) Tryd.func125 (by kernel_rfl) (by kernel_rfl) ?_
  refine c_seq [0] [1] (by kernel_rfl) ?_
  refine c_reg 0 rhash4_c_R0 (by kernel_rfl) ?_
  refine at_do (by kernel_rfl) (op_new (.cells #[(.int .u8 0), (.int .u8 0), (.int .u8 0), (.int .u8 0), (.int .u8 0), (.int .u8 0), (.int .u8 0), (.int .u8 0), (.int .u8 0), (.int .u8 0), (.int .u8 0), (.int .u8 0), (.int .u8 0), (.int .u8 0), (.int .u8 0), (.int .u8 0), (.int .u8 0), (.int .u8 0), (.int .u8 0), (.int .u8 0), (.int .u8 0), (.int .u8 0), (.int .u8 0), (.int .u8 0), (.int .u8 0), (.int .u8 0), (.int .u8 0), (.int .u8 0), (.int .u8 0), (.int .u8 0), (.int .u8 0), (.int .u8 0)] 22) (fun N => (.pointer (some ⟨N, 0, none⟩))) (fun _ => by kernel_rfl) (fun w2_ b1_ h3_ q4_ F5_ => ?_))
  have d6_ : Dis (One b1_) (Ar ao (B l)) := Dis.fresh (New.one q4_) (Rd.in h_b)
  have d7_ : Dis (One b1_) (One pb) := Dis.fresh (New.one q4_) (In.one h_rf)
  have N8_ : New w (One pb) (One b1_) := New.made q4_ (Fr.size (Fr.refl w (One pb)))
  have T9_ := Fr.tr (Fr.refl w (One pb)) F5_
  refine at_done (by kernel_rfl) ?_
  refine then_n ?_
  refine c_seq [1, 0] [1, 1] (by kernel_rfl) ?_
  refine c_reg 1 rhash4_c_R1 (by kernel_rfl) ?_
  refine at_pures 1 (by kernel_rfl) (by kernel_rfl) ?_
  refine at_do (by kernel_rfl) (op_new (.cells #[(.int .u8 0), (.int .u8 0), (.int .u8 0), (.int .u8 0), (.int .u8 0), (.int .u8 0), (.int .u8 0), (.int .u8 0), (.int .u8 0), (.int .u8 0), (.int .u8 0), (.int .u8 0), (.int .u8 0), (.int .u8 0), (.int .u8 0), (.int .u8 0), (.int .u8 0), (.int .u8 0), (.int .u8 0), (.int .u8 0), (.int .u8 0), (.int .u8 0), (.int .u8 0), (.int .u8 0), (.int .u8 0), (.int .u8 0), (.int .u8 0), (.int .u8 0), (.int .u8 0), (.int .u8 0), (.int .u8 0), (.int .u8 0)] 22) (fun N => (.pointer (some ⟨N, 0, none⟩))) (fun _ => by kernel_rfl) (fun w11_ b10_ h12_ q13_ F14_ => ?_))
  have h15_ := Rd.keep' h_b F5_ Dis.n0
  have d16_ : Dis (One b10_) (Ar ao (B l)) := Dis.fresh (New.one q13_) (Rd.in h15_)
  have h17_ := Fr.keep F5_ h_rf Dis.n0
  have d18_ : Dis (One b10_) (One pb) := Dis.fresh (New.one q13_) (In.one h17_)
  have d19_ : Dis (One b10_) (One b1_) := Dis.fresh (New.one q13_) (In.one h3_)
  have N20_ : New w (One pb) (One b10_) := New.made q13_ (Fr.size T9_)
  have T21_ := Fr.tr T9_ F14_
  have h22_ := Rd.keep' h15_ F14_ Dis.n0
  have h23_ := Fr.keep F14_ h17_ Dis.n0
  have h24_ := Fr.keep F14_ h3_ Dis.n0
  refine at_do (by kernel_rfl) (op_store 22 (.tmp 3) (.tmp 6) b10_ 0 (.agg #[(.int .u8 0), (.int .u8 0), (.int .u8 0), (.int .u8 0), (.int .u8 0), (.int .u8 0), (.int .u8 0), (.int .u8 0), (.int .u8 0), (.int .u8 0), (.int .u8 0), (.int .u8 0), (.int .u8 0), (.int .u8 0), (.int .u8 0), (.int .u8 0), (.int .u8 0), (.int .u8 0), (.int .u8 0), (.int .u8 0), (.int .u8 0), (.int .u8 0), (.int .u8 0), (.int .u8 0), (.int .u8 0), (.int .u8 0), (.int .u8 0), (.int .u8 0), (.int .u8 0), (.int .u8 0), (.int .u8 0), (.int .u8 0)]) _ _ #[(.int .u8 0), (.int .u8 0), (.int .u8 0), (.int .u8 0), (.int .u8 0), (.int .u8 0), (.int .u8 0), (.int .u8 0), (.int .u8 0), (.int .u8 0), (.int .u8 0), (.int .u8 0), (.int .u8 0), (.int .u8 0), (.int .u8 0), (.int .u8 0), (.int .u8 0), (.int .u8 0), (.int .u8 0), (.int .u8 0), (.int .u8 0), (.int .u8 0), (.int .u8 0), (.int .u8 0), (.int .u8 0), (.int .u8 0), (.int .u8 0), (.int .u8 0), (.int .u8 0), (.int .u8 0), (.int .u8 0), (.int .u8 0)] (by kernel_rfl) (by kernel_rfl) (by kernel_rfl) h12_ (by kernel_rfl) (by kernel_rfl) (by kernel_rfl) (by kernel_rfl) (fun w25_ h26_ z27_ F28_ => ?_))
  have T29_ := Fr.then T21_ F28_ N20_
  have h30_ := Rd.keep' h22_ F28_ (Dis.sym d16_)
  have h31_ := Fr.keep F28_ h23_ (Dis.sym d18_)
  have h32_ := Fr.keep F28_ h24_ (Dis.sym d19_)
  refine at_done (by kernel_rfl) ?_
  refine then_n ?_
  refine c_seq [1, 1, 0] [1, 1, 1] (by kernel_rfl) ?_
  refine c_reg 2 rhash4_c_R2 (by kernel_rfl) ?_
  refine at_pures 1 (by kernel_rfl) (by kernel_rfl) ?_
  refine at_do (by kernel_rfl) (op_call 164 #[(.tmp 7), (.const (.int .i64 32))] #[(.pointer (some ⟨pb, 0, none⟩)), (.int .i64 32)] (by kernel_rfl) (by kernel_rfl) (by kernel_rfl) ?_)
  have C46_ := rtake_c pb ao cap l a0 e0 32 w25_ h30_ h31_ d_rf_b (by first | omega | with_reducible assumption | (simp only [List.length_append, List.length_cons, List.length_nil, putB_length]; omega) | decide) (by first | omega | with_reducible assumption | (simp only [List.length_append, List.length_cons, List.length_nil, putB_length]; omega) | decide) (by first | omega | with_reducible assumption | (simp only [List.length_append, List.length_cons, List.length_nil, putB_length]; omega) | decide) (by first | omega | with_reducible assumption | (simp only [List.length_append, List.length_cons, List.length_nil, putB_length]; omega) | decide)
  refine Calls.mono C46_ ?_
  rintro e45_ w43_ ⟨a33_, e34_, vout35_, rfl, h36_, h37_, F44_, h39_, h40_, h41_, h42_⟩
  refine ⟨_, rfl, ?_⟩
  have d47_ : Dis (Own vout35_) (Ar ao (B l)) := Dis.step d_rf_b h39_ (Rd.in h30_)
  have d48_ : Dis (Own vout35_) (One b1_) := Dis.step (Dis.sym d7_) h39_ (In.one h32_)
  have d49_ : Dis (Own vout35_) (One b10_) := Dis.step (Dis.sym d18_) h39_ (In.one h26_)
  have T50_ := Fr.then T29_ F44_ (New.refl w (One pb))
  have h51_ := Rd.keep' h30_ F44_ (Dis.sym d_rf_b)
  have h52_ := Fr.keep F44_ h32_ d7_
  have h53_ := Fr.keep F44_ h26_ d18_
  have N55_ : New w (One pb) (Own vout35_) := New.trans (New.refl w (One pb)) h39_ (Fr.size T29_)
  obtain ⟨ao57_, cap58_, rfl, hc59_, hm60_, hR61_, ho62_⟩ := Row.read h37_
  refine at_pures 3 (by kernel_rfl) (by kernel_rfl) ?_
  refine at_done (by kernel_rfl) ?_
  refine then_n ?_
  refine c_seq [1, 1, 1, 0] [1, 1, 1, 1] (by kernel_rfl) ?_
  refine c_seq [1, 1, 1, 0, 0] [1, 1, 1, 0, 1] (by kernel_rfl) ?_
  refine c_reg 3 rhash4_c_R3 (by kernel_rfl) ?_
  refine at_pures 1 (by kernel_rfl) (by kernel_rfl) ?_
  refine at_done (by kernel_rfl) ?_
  refine then_n ?_
  refine c_block 0 [1, 1, 1, 0, 1, 0] (by kernel_rfl) ?_
  refine c_loop (fun a w' => ∃ (k : Nat), (∃ u, a = mk 22 [(0, (.pointer (some ⟨pb, 0, none⟩))), (2, (.pointer (some ⟨b1_, 0, none⟩))), (3, (.pointer (some ⟨b10_, 0, none⟩))), (4, (.slice ao57_ (((Rf.r l ⟨a0, e0⟩).out 32).length) cap58_)), (5, (.int .i64 (k : Int))), (6, (.agg #[(.int .u8 0), (.int .u8 0), (.int .u8 0), (.int .u8 0), (.int .u8 0), (.int .u8 0), (.int .u8 0), (.int .u8 0), (.int .u8 0), (.int .u8 0), (.int .u8 0), (.int .u8 0), (.int .u8 0), (.int .u8 0), (.int .u8 0), (.int .u8 0), (.int .u8 0), (.int .u8 0), (.int .u8 0), (.int .u8 0), (.int .u8 0), (.int .u8 0), (.int .u8 0), (.int .u8 0), (.int .u8 0), (.int .u8 0), (.int .u8 0), (.int .u8 0), (.int .u8 0), (.int .u8 0), (.int .u8 0), (.int .u8 0)])), (7, (.pointer (some ⟨pb, 0, none⟩))), (8, (.slice ao57_ (((Rf.r l ⟨a0, e0⟩).out 32).length) cap58_))] u) ∧ (k ≤ ((Rf.r l ⟨a0, e0⟩).out 32).length) ∧ (Rd w' ao (B l)) ∧ (w'.heap[pb]? = some (.cells #[(.slice ao l.length cap), (.int .i64 (a33_ : Int)), (.int .i64 (e34_ : Int))] 210 (0, 0))) ∧ (w'.heap[b1_]? = some (.cells #[(.int .u8 0), (.int .u8 0), (.int .u8 0), (.int .u8 0), (.int .u8 0), (.int .u8 0), (.int .u8 0), (.int .u8 0), (.int .u8 0), (.int .u8 0), (.int .u8 0), (.int .u8 0), (.int .u8 0), (.int .u8 0), (.int .u8 0), (.int .u8 0), (.int .u8 0), (.int .u8 0), (.int .u8 0), (.int .u8 0), (.int .u8 0), (.int .u8 0), (.int .u8 0), (.int .u8 0), (.int .u8 0), (.int .u8 0), (.int .u8 0), (.int .u8 0), (.int .u8 0), (.int .u8 0), (.int .u8 0), (.int .u8 0)] 22 (0, 0))) ∧ (w'.heap[b10_]? = some (.cells (hv (fillB ((Rf.r l ⟨a0, e0⟩).out 32) k)) 22 (0, 0))) ∧ (Row w' 5 1 (.slice ao57_ (((Rf.r l ⟨a0, e0⟩).out 32).length) cap58_) (((Rf.r l ⟨a0, e0⟩).out 32).length) (B ((Rf.r l ⟨a0, e0⟩).out 32))) ∧ (Fr w w' (One pb))) (fun a _ => cnt (((Rf.r l ⟨a0, e0⟩).out 32).length) 5 a) [1, 1, 1, 0, 1, 0, 0] (by kernel_rfl) ⟨0, is_mk (by kernel_rfl) (by kernel_rfl) (by kernel_rfl), ⟨Nat.zero_le _, h51_, h36_, h52_, (by exact h53_), h37_, T50_⟩⟩ ?_
  rintro a64_ w65_ ⟨k, ⟨u66_, rfl⟩, ⟨hk, q_0L63_, q_1L63_, q_2L63_, q_3L63_, q_4L63_, hFrL63_⟩⟩
  refine c_seq [1, 1, 1, 0, 1, 0, 0, 0] [1, 1, 1, 0, 1, 0, 0, 1] (by kernel_rfl) ?_
  refine c_seq [1, 1, 1, 0, 1, 0, 0, 0, 0] [1, 1, 1, 0, 1, 0, 0, 0, 1] (by kernel_rfl) ?_
  refine c_reg 4 rhash4_c_R4 (by kernel_rfl) ?_
  refine at_pures 4 (by kernel_rfl) (by kernel_rfl) ?_
  refine at_done (by kernel_rfl) ?_
  refine then_n ?_
  refine c_if (.tmp 12) (decide ((k : Int) < (((Rf.r l ⟨a0, e0⟩).out 32).length : Int))) [1, 1, 1, 0, 1, 0, 0, 0, 1, 0] [1, 1, 1, 0, 1, 0, 0, 0, 1, 1] (by kernel_rfl) (by kernel_rfl) (fun c67_ => ?_) (fun c67_ => ?_)
  · -- yes
    replace c67_ : (k : Int) < (((Rf.r l ⟨a0, e0⟩).out 32).length : Int) := of_decide_eq_true c67_
    refine c_skip (by kernel_rfl) ?_
    refine then_n ?_
    refine c_seq [1, 1, 1, 0, 1, 0, 0, 1, 0] [1, 1, 1, 0, 1, 0, 0, 1, 1] (by kernel_rfl) ?_
    refine c_block 1 [1, 1, 1, 0, 1, 0, 0, 1, 0, 0] (by kernel_rfl) ?_
    refine c_reg 6 rhash4_c_R6 (by kernel_rfl) ?_
    refine at_pures 3 (by kernel_rfl) (by kernel_rfl) ?_
    obtain ⟨ad68_, ha69_⟩ := (Row.rd q_4L63_).has (k * 1) (by rw [B_length]; omega)
    refine at_run (.pointer (some (ad68_.add (k * 1)))) _ (by kernel_rfl) (run_idx_o 128 (.tmp 16) (.tmp 17) 1 ao57_ ad68_ (((Rf.r l ⟨a0, e0⟩).out 32).length) cap58_ .i64 k (by kernel_rfl) (by kernel_rfl) (by kernel_rfl) (by kernel_rfl) (by kernel_rfl) ha69_ (by omega)) ?_
    refine at_run (.int .u8 ((((Rf.r l ⟨a0, e0⟩).out 32).getD k 0 : Nat) : Int)) _ (by kernel_rfl) (run_loadE1 5 (.tmp 18) ao57_ ad68_ (k * 1) (B ((Rf.r l ⟨a0, e0⟩).out 32)) (.int .u8 ((((Rf.r l ⟨a0, e0⟩).out 32).getD k 0 : Nat) : Int)) (by kernel_rfl) (by kernel_rfl) (by kernel_rfl) ha69_ (Row.rd q_4L63_) (by rw [Nat.mul_one]; exact B_getD _ _ (by first | omega | (simp only [List.length_take, List.length_drop]; omega)))) ?_
    refine at_run (.pointer (some ⟨b10_, 0 + k * 1, none⟩)) _ (by kernel_rfl) (run_idx_arr 22 (.tmp 3) (.tmp 15) 1 b10_ 0 32 .i64 k (by kernel_rfl) (by kernel_rfl) (by kernel_rfl) (by kernel_rfl) (by kernel_rfl) (by omega)) ?_
    refine at_do (by kernel_rfl) (op_store1 5 (.tmp 20) (.tmp 19) b10_ (0 + k * 1) (.int .u8 ((((Rf.r l ⟨a0, e0⟩).out 32).getD k 0 : Nat) : Int)) _ _ (hv (fillB ((Rf.r l ⟨a0, e0⟩).out 32) (k + 1))) (by kernel_rfl) (by kernel_rfl) (by kernel_rfl) (by rfl) (by rfl) q_3L63_ (by kernel_rfl) (Nat.ble_eq_true_of_le (by show 0 + k * 1 + 1 ≤ 32; omega)) (by rw [hv_set (fillB_length (by omega) (by omega)) (by omega), fillB_step (by omega) (by omega)]) (fun w70_ h71_ z72_ F73_ => ?_))
    have T74_ := Fr.then hFrL63_ F73_ N20_
    have h75_ := Rd.keep' q_0L63_ F73_ (Dis.sym d16_)
    have h76_ := Fr.keep F73_ q_1L63_ (Dis.sym d18_)
    have h77_ := Fr.keep F73_ q_2L63_ (Dis.sym d19_)
    have h78_ := Row.keep q_4L63_ F73_ d49_
    refine at_done (by kernel_rfl) ?_
    refine blk_n ?_
    refine then_n ?_
    refine c_reg 5 rhash4_c_R5 (by kernel_rfl) ?_
    refine at_pures 1 (by kernel_rfl) (by kernel_rfl) ?_
    refine at_int (kd := .i64) (IntKind.i64.wrap ((k : Int) + (1 : Int))) ((k : Int) + (1 : Int)) (by kernel_rfl) (by kernel_rfl) (wrapN_i64 (by omega) (by omega)) ?_
    refine at_pures 3 (by kernel_rfl) (by kernel_rfl) ?_
    refine at_done (by kernel_rfl) ?_
    refine then_n ?_
    exact ⟨⟨k + 1, is_mk (by kernel_rfl) (by kernel_rfl) (by kernel_rfl), ⟨(by omega), h75_, h76_, h77_, h71_, h78_, T74_⟩⟩, cnt_lt (k := (k : Int)) (k' := ((k : Int) + (1 : Int))) (by kernel_rfl) (by kernel_rfl) (by omega) (by omega)⟩
  · -- no
    replace c67_ : ¬ ((k : Int) < (((Rf.r l ⟨a0, e0⟩).out 32).length : Int)) := of_decide_eq_false c67_
    refine c_exit 0 (by kernel_rfl) ?_
    refine then_e ?_
    refine then_e ?_
    refine blk_hit ?_
    refine then_n ?_
    refine c_seq [1, 1, 1, 1, 0] [1, 1, 1, 1, 1] (by kernel_rfl) ?_
    refine c_reg 7 rhash4_c_R7 (by kernel_rfl) ?_
    refine at_loadN 22 (.tmp 3) b10_ 0 32 _ _ _ (hv (fillB ((Rf.r l ⟨a0, e0⟩).out 32) k)) (by kernel_rfl) (by kernel_rfl) (by kernel_rfl) (by kernel_rfl) (by kernel_rfl) q_3L63_ (by kernel_rfl) (by kernel_rfl) ?_
    refine at_do (by kernel_rfl) (op_store 22 (.tmp 2) (.tmp 21) b1_ 0 (.agg (hv (fillB ((Rf.r l ⟨a0, e0⟩).out 32) k))) _ _ (hv (fillB ((Rf.r l ⟨a0, e0⟩).out 32) k)) (by kernel_rfl) (by kernel_rfl) (by kernel_rfl) q_2L63_ (by kernel_rfl) (by kernel_rfl) (by kernel_rfl) (by kernel_rfl) (fun w79_ h80_ z81_ F82_ => ?_))
    have T83_ := Fr.then hFrL63_ F82_ N8_
    have h84_ := Rd.keep' q_0L63_ F82_ (Dis.sym d6_)
    have h85_ := Fr.keep F82_ q_1L63_ (Dis.sym d7_)
    have h86_ := Fr.keep F82_ q_3L63_ d19_
    have h87_ := Row.keep q_4L63_ F82_ d48_
    refine at_done (by kernel_rfl) ?_
    refine then_n ?_
    refine c_ret (by kernel_rfl) ?_
    refine fin_retL [.cell 2 22] [(.agg (hv (fillB ((Rf.r l ⟨a0, e0⟩).out 32) k)))] (.agg (hv (fillB ((Rf.r l ⟨a0, e0⟩).out 32) k))) (by kernel_rfl) (by rfl) ⟨ResOne.cellN (off := 0) (n := 32) (vs := (hv (fillB ((Rf.r l ⟨a0, e0⟩).out 32) k))) (by kernel_rfl) (by kernel_rfl) (by kernel_rfl) h80_ (by kernel_rfl) (by kernel_rfl), trivial⟩ (by rfl) ?_
    exact ⟨a33_, e34_, (by rw [show k = ((Rf.r l ⟨a0, e0⟩).out 32).length from by omega, fill_hash]), h85_, T83_, (by assumption), (by assumption)⟩



noncomputable def rend4_c_R0 : Array Oper := rAt Tryd.prog 128 [0]
noncomputable def rend4_c_R1 : Array Oper := rAt Tryd.prog 128 [1, 0, 0]
def rend4_c_sk1 : Nat → Bool := fun i => decide (i ∈ [10, 11, 12, 13, 14])
def rend4_c_pl1 : List (Nat × PK) := [(0, .q false), (1, .q false), (2, .q false), (3, .q true), (4, .q false), (5, .q false), (6, .q false), (7, .q false), (8, .q false), (9, .q true), (10, .q false), (11, .q false), (12, .q false), (13, .q true), (14, .q false), (15, .q false), (16, .q false)]
noncomputable def rend4_c_R2 : Array Oper := rAt Tryd.prog 128 [1, 0, 1, 0, 0]
noncomputable def rend4_c_R3 : Array Oper := rAt Tryd.prog 128 [1, 1, 0]
set_option maxRecDepth 100000 in
theorem rend4_c (pb : Nat) (ao : Option Addr) (cap : Nat) (l : List Nat) (a0 : Nat) (e0 : Nat) (w : World) (h_b : Rd w ao (B l)) (h_rf : w.heap[pb]? = some (.cells #[(.slice ao l.length cap), (.int .i64 (a0 : Int)), (.int .i64 (e0 : Int))] 210 (0, 0))) (ha : a0 ≤ l.length) (_ : l.length ≤ cap) (_ : l.length ≤ 1000000) :
    Calls Tryd.prog 128 #[(.pointer (some ⟨pb, 0, none⟩))] w fun e w' => e = .returned (.int .i64 ((Rf.r l ⟨a0, e0⟩).end : Int)) ∧ Fr w w' N0 := by
  refine c_enter (mk 24 [(0, (.pointer (some ⟨pb, 0, none⟩)))] (fun _ => undef)) Tryd.func128 (by kernel_rfl) (by kernel_rfl) ?_
  refine c_seq [0] [1] (by kernel_rfl) ?_
  refine c_reg 0 rend4_c_R0 (by kernel_rfl) ?_
  refine at_pures 1 (by kernel_rfl) (by kernel_rfl) ?_
  refine at_done (by kernel_rfl) ?_
  refine then_n ?_
  refine c_seq [1, 0] [1, 1] (by kernel_rfl) ?_
  refine c_seq [1, 0, 0] [1, 0, 1] (by kernel_rfl) ?_
  refine c_plan 1 rend4_c_R1 (fun w' => w'.heap[pb]? = some (.cells #[(.slice ao l.length cap), (.int .i64 (a0 : Int)), (.int .i64 (e0 : Int))] 210 (0, 0)) ∧ True) rend4_c_sk1 rend4_c_pl1 (by kernel_rfl) (by kernel_rfl) (by kernel_rfl) (by kernel_rfl) (by kernel_rfl) (fun w1_ F2_ => ?_)
  have T3_ := Fr.tr (Fr.refl w N0) F2_
  have h5_ := Fr.keep F2_ h_rf Dis.n0
  have S4_ : w1_.heap[pb]? = some (.cells #[(.slice ao l.length cap), (.int .i64 (a0 : Int)), (.int .i64 (e0 : Int))] 210 (0, 0)) ∧ True := ⟨h5_, trivial⟩
  refine pl_pures 3 (by kernel_rfl) (by kernel_rfl) (off (by kernel_rfl)) ?_
  refine pl_read 3 (.int .i64 (e0 : Int)) (by kernel_rfl) (by kernel_rfl) (fun w' hs => run_load1 32 (.tmp 5) pb 2 _ _ _ (.int .i64 (e0 : Int)) (by kernel_rfl) (by kernel_rfl) (by kernel_rfl) hs.1 (by kernel_rfl)) S4_ ?_
  refine pl_pures 5 (by kernel_rfl) (by kernel_rfl) (off (by kernel_rfl)) ?_
  refine pl_split 5 ((e0 : Int) == (0 : Int)) (by kernel_rfl) (by kernel_rfl) (by kernel_rfl) (off (by kernel_rfl)) (fun c6_ => ?_) (fun c6_ => ?_)
  · -- yes
    replace c6_ : (e0 : Int) = (0 : Int) := by simpa using c6_
    refine pl_pures 9 (by kernel_rfl) (by kernel_rfl) (off (by kernel_rfl)) ?_
    refine pl_read 9 (.int .i64 (a0 : Int)) (by kernel_rfl) (by kernel_rfl) (fun w' hs => run_load1 3 (.tmp 11) pb 1 _ _ _ (.int .i64 (a0 : Int)) (by kernel_rfl) (by kernel_rfl) (by kernel_rfl) hs.1 (by kernel_rfl)) S4_ ?_
    refine pl_pures 13 (by kernel_rfl) (by kernel_rfl) (fun _ => S4_) ?_
    refine pl_read 13 (.slice ao l.length cap) (by kernel_rfl) (by kernel_rfl) (fun w' hs => run_load1 128 (.tmp 15) pb 0 _ _ _ (.slice ao l.length cap) (by kernel_rfl) (by kernel_rfl) (by kernel_rfl) hs.1 (by kernel_rfl)) S4_ ?_
    refine pl_pures 17 (by kernel_rfl) (by kernel_rfl) (fun _ => S4_) ?_
    refine pl_done (by kernel_rfl) ?_
    refine then_n ?_
    refine c_if (.tmp 19) (decide ((a0 : Int) < (l.length : Int))) [1, 0, 1, 0] [1, 0, 1, 1] (by kernel_rfl) (by kernel_rfl) (fun c7_ => ?_) (fun c7_ => ?_)
    · -- yes
      replace c7_ : (a0 : Int) < (l.length : Int) := of_decide_eq_true c7_
      refine c_seq [1, 0, 1, 0, 0] [1, 0, 1, 0, 1] (by kernel_rfl) ?_
      refine c_reg 2 rend4_c_R2 (by kernel_rfl) ?_
      refine at_pures 1 (by kernel_rfl) (by kernel_rfl) ?_
      refine at_done (by kernel_rfl) ?_
      refine then_n ?_
      refine c_ret (by kernel_rfl) ?_
      refine then_r ?_
      refine fin_ret (.int .i64 4) (by kernel_rfl) (by kernel_rfl) ?_
      have h8_ := Rd.keep' h_b F2_ Dis.n0
      exact ⟨(by first | (rw [rf_endA (by omega) (by omega)]; rfl) | (rw [rf_endB (by omega)])), T3_⟩
    · -- no
      replace c7_ : ¬ ((a0 : Int) < (l.length : Int)) := of_decide_eq_false c7_
      refine c_skip (by kernel_rfl) ?_
      refine then_n ?_
      refine c_seq [1, 1, 0] [1, 1, 1] (by kernel_rfl) ?_
      refine c_reg 3 rend4_c_R3 (by kernel_rfl) ?_
      refine at_pures 3 (by kernel_rfl) (by kernel_rfl) ?_
      refine at_load1 32 (.tmp 22) pb 2 _ _ _ (.int .i64 (e0 : Int)) (by kernel_rfl) (by kernel_rfl) (by kernel_rfl) (by kernel_rfl) h5_ (by kernel_rfl) ?_
      refine at_pures 5 (by kernel_rfl) (by kernel_rfl) ?_
      refine at_done (by kernel_rfl) ?_
      refine then_n ?_
      refine c_ret (by kernel_rfl) ?_
      refine fin_ret (.int .i64 (e0 : Int)) (by kernel_rfl) (by kernel_rfl) ?_
      have h9_ := Rd.keep' h_b F2_ Dis.n0
      exact ⟨(by first | (rw [rf_endA (by omega) (by omega)]; rfl) | (rw [rf_endB (by omega)])), T3_⟩
  · -- no
    replace c6_ : (e0 : Int) ≠ (0 : Int) := by simpa using c6_
    refine pl_pures 9 (by kernel_rfl) (by kernel_rfl) (off (by kernel_rfl)) ?_
    refine pl_roff 9 (by kernel_rfl) (by kernel_rfl) (by kernel_rfl) S4_ ?_
    refine pl_pures 13 (by kernel_rfl) (by kernel_rfl) (fun _ => S4_) ?_
    refine pl_roff 13 (by kernel_rfl) (by kernel_rfl) (by kernel_rfl) S4_ ?_
    refine pl_pures 17 (by kernel_rfl) (by kernel_rfl) (fun _ => S4_) ?_
    refine pl_done (by kernel_rfl) ?_
    refine then_n ?_
    refine c_else (.tmp 19) [1, 0, 1, 0] [1, 0, 1, 1] (by kernel_rfl) (by kernel_rfl) ?_
    refine c_skip (by kernel_rfl) ?_
    refine then_n ?_
    refine c_seq [1, 1, 0] [1, 1, 1] (by kernel_rfl) ?_
    refine c_reg 3 rend4_c_R3 (by kernel_rfl) ?_
    refine at_pures 3 (by kernel_rfl) (by kernel_rfl) ?_
    refine at_load1 32 (.tmp 22) pb 2 _ _ _ (.int .i64 (e0 : Int)) (by kernel_rfl) (by kernel_rfl) (by kernel_rfl) (by kernel_rfl) h5_ (by kernel_rfl) ?_
    refine at_pures 5 (by kernel_rfl) (by kernel_rfl) ?_
    refine at_done (by kernel_rfl) ?_
    refine then_n ?_
    refine c_ret (by kernel_rfl) ?_
    refine fin_ret (.int .i64 (e0 : Int)) (by kernel_rfl) (by kernel_rfl) ?_
    have h10_ := Rd.keep' h_b F2_ Dis.n0
    exact ⟨(by first | (rw [rf_endA (by omega) (by omega)]; rfl) | (rw [rf_endB (by omega)])), T3_⟩

end Go.Proofs.YtmnehhpfbmoahaaDoor
