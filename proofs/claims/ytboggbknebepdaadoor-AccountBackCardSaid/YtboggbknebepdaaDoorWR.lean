/- The walks of the wire's reader. -/
import Derived.Test.YtboggbknebepdaaDoorWW
namespace Go.Proofs.YtboggbknebepdaaDoor
open Go Go.RowKit Go.Alm
noncomputable def wrong_c_R0 : Array Oper := rAt Tryd.prog 66 [0]
noncomputable def wrong_c_R1 : Array Oper := rAt Tryd.prog 66 [1, 0]
set_option maxRecDepth 100000 in
theorem wrong_c (br : Nat) (ao : Option Addr) (cap : Nat) (r : Rs) (c : Nat) (w : World) (h_rr : RrAt 113 w br ao cap r) :
    Calls Tryd.prog 66 #[(.pointer (some ⟨br, 0, none⟩)), (.int .i64 (c : Int))] w fun e w' => ∃ (ao_rr' : Option Addr), ∃ (cap_rr' : Nat), e = .returned (.tuple #[]) ∧ RrAt 113 w' br ao_rr' cap_rr' (r.wrong c) ∧ Fr w w' (One br) ∧ New w (rrS br ao r) (rrS br ao_rr' (r.wrong c)) := by
  refine c_enter (mk 16 [(0, (.pointer (some ⟨br, 0, none⟩))), (1, (.int .i64 (c : Int)))] (fun _ => undef)) Tryd.func66 (by kernel_rfl) (by kernel_rfl) ?_
  refine c_seq [0] [1] (by kernel_rfl) ?_
  refine c_reg 0 wrong_c_R0 (by kernel_rfl) ?_
  refine at_pures 3 (by kernel_rfl) (by kernel_rfl) ?_
  refine at_load1 40 (.tmp 6) br 1 _ _ _ (.int .i64 (r.e : Int)) (by kernel_rfl) (by kernel_rfl) (by kernel_rfl) (by kernel_rfl) (RrAt.blk h_rr) (by kernel_rfl) ?_
  refine at_pures 5 (by kernel_rfl) (by kernel_rfl) ?_
  refine at_done (by kernel_rfl) ?_
  refine then_n ?_
  refine c_if (.tmp 8) ((r.e : Int) == (0 : Int)) [1, 0] [1, 1] (by kernel_rfl) (by kernel_rfl) (fun c1_ => ?_) (fun c1_ => ?_)
  · -- yes
    replace c1_ : (r.e : Int) = (0 : Int) := by simpa using c1_
    refine c_reg 1 wrong_c_R1 (by kernel_rfl) ?_
    refine at_pures 5 (by kernel_rfl) (by kernel_rfl) ?_
    have h2_ := RrAt.blk h_rr; have h3_ := RrAt.rd h_rr; have h4_ := RrAt.cap h_rr; have d5_ := RrAt.dis h_rr
    refine at_do (by kernel_rfl) (op_store 22 (.tmp 13) (.const (.slice none 0 0)) br 0 (.slice none 0 0) _ _ #[(.slice none 0 0), (.int .i64 (r.e : Int))] (by kernel_rfl) (by kernel_rfl) (by kernel_rfl) h2_ (by kernel_rfl) (by kernel_rfl) (by kernel_rfl) (by kernel_rfl) (fun w6_ h7_ z8_ F9_ => ?_))
    have T10_ := Fr.then (Fr.refl w (One br)) F9_ (New.refl w (One br))
    have h11_ := Rd.keep' h3_ F9_ d5_
    refine at_pures 8 (by kernel_rfl) (by kernel_rfl) ?_
    refine at_do (by kernel_rfl) (op_store 40 (.tmp 15) (.tmp 11) br 1 (.int .i64 (c : Int)) _ _ #[(.slice none 0 0), (.int .i64 (c : Int))] (by kernel_rfl) (by kernel_rfl) (by kernel_rfl) h7_ (by kernel_rfl) (by kernel_rfl) (by kernel_rfl) (by kernel_rfl) (fun w12_ h13_ z14_ F15_ => ?_))
    have T16_ := Fr.then T10_ F15_ (New.refl w (One br))
    have h17_ := Rd.keep' h11_ F15_ d5_
    refine at_done (by kernel_rfl) ?_
    refine fin_end (.tuple #[]) (by kernel_rfl) (by kernel_rfl) ?_
    rw [show r.wrong c = Rs.mk c [] from if_pos (by omega)]
    have h18_ : RrAt 113 w12_ br none 0 (Rs.mk c []) := ⟨h13_, (Nat.le_refl 0), (Rd.nil _ _), Sub.dis (show Sub (Ar none (B [])) (Ar ao (B r.l)) from Sub.nil) d5_⟩
    exact ⟨none, 0, rfl, h18_, T16_, (show New w (rrS br ao r) (rrS br none (Rs.mk c [])) from Sub.toNew (Sub.or Sub.inl (Sub.trans (show Sub (Ar none (B [])) (Ar ao (B r.l)) from Sub.nil) Sub.inr)))⟩
  · -- no
    replace c1_ : (r.e : Int) ≠ (0 : Int) := by simpa using c1_
    refine c_skip (by kernel_rfl) ?_
    refine fin_end (.tuple #[]) (by kernel_rfl) (by kernel_rfl) ?_
    rw [show r.wrong c = r from if_neg (by omega)]
    exact ⟨ao, cap, rfl, h_rr, (Fr.refl w (One br)), (New.refl w (rrS br ao r))⟩

noncomputable def take_c_R0 : Array Oper := rAt Tryd.prog 67 [0]
noncomputable def take_c_R1 : Array Oper := rAt Tryd.prog 67 [1, 0, 0]
noncomputable def take_c_R2 : Array Oper := rAt Tryd.prog 67 [1, 0, 1, 0, 0]
noncomputable def take_c_R3 : Array Oper := rAt Tryd.prog 67 [1, 0, 1, 0, 1, 0]
noncomputable def take_c_R4 : Array Oper := rAt Tryd.prog 67 [1, 1, 0]
noncomputable def take_c_R5 : Array Oper := rAt Tryd.prog 67 [1, 1, 1, 0]
noncomputable def take_c_R6 : Array Oper := rAt Tryd.prog 67 [1, 1, 1, 1, 0]
set_option maxRecDepth 100000 in
theorem take_c (br : Nat) (ao : Option Addr) (cap : Nat) (r : Rs) (m : Nat) (w : World) (h_rr : RrAt 113 w br ao cap r) :
    Calls Tryd.prog 67 #[(.pointer (some ⟨br, 0, none⟩)), (.int .i64 (m : Int))] w fun e w' => ∃ (oc : Nat), ∃ (ao_rr' : Option Addr), ∃ (cap_rr' : Nat), ∃ (ao_out' : Option Addr), e = .returned (.slice ao_out' ((r.out m).length) oc) ∧ RrAt 113 w' br ao_rr' cap_rr' (r.take m) ∧ Rd w' ao_out' (B (r.out m)) ∧ Fr w w' (One br) ∧ New w (rrS br ao r) (rrS br ao_rr' (r.take m)) ∧ New w (rrS br ao r) (Ar ao_out' (B (r.out m))) ∧ Dis (Ar ao_out' (B (r.out m))) (One br) ∧ (r.out m).length ≤ oc := by
  have hcap := h_rr.cap
  refine c_enter (mk 32 [(0, (.pointer (some ⟨br, 0, none⟩))), (1, (.int .i64 (m : Int)))] (fun _ => undef)) Tryd.func67 (by kernel_rfl) (by kernel_rfl) ?_
  refine c_seq [0] [1] (by kernel_rfl) ?_
  refine c_reg 0 take_c_R0 (by kernel_rfl) ?_
  refine at_pures 1 (by kernel_rfl) (by kernel_rfl) ?_
  refine at_done (by kernel_rfl) ?_
  refine then_n ?_
  refine c_seq [1, 0] [1, 1] (by kernel_rfl) ?_
  refine c_seq [1, 0, 0] [1, 0, 1] (by kernel_rfl) ?_
  refine c_reg 1 take_c_R1 (by kernel_rfl) ?_
  refine at_pures 4 (by kernel_rfl) (by kernel_rfl) ?_
  refine at_load1 22 (.tmp 9) br 0 _ _ _ (.slice ao r.l.length cap) (by kernel_rfl) (by kernel_rfl) (by kernel_rfl) (by kernel_rfl) (RrAt.blk h_rr) (by kernel_rfl) ?_
  refine at_pures 7 (by kernel_rfl) (by kernel_rfl) ?_
  refine at_done (by kernel_rfl) ?_
  refine then_n ?_
  refine c_if (.tmp 12) (decide ((m : Int) > (r.l.length : Int))) [1, 0, 1, 0] [1, 0, 1, 1] (by kernel_rfl) (by kernel_rfl) (fun c1_ => ?_) (fun c1_ => ?_)
  · -- yes
    replace c1_ : (m : Int) > (r.l.length : Int) := of_decide_eq_true c1_
    refine c_seq [1, 0, 1, 0, 0] [1, 0, 1, 0, 1] (by kernel_rfl) ?_
    refine c_reg 2 take_c_R2 (by kernel_rfl) ?_
    refine at_pures 1 (by kernel_rfl) (by kernel_rfl) ?_
    refine at_do (by kernel_rfl) (op_call 66 #[(.tmp 13), (.const (.int .i64 3))] #[(.pointer (some ⟨br, 0, none⟩)), (.int .i64 3)] (by kernel_rfl) (by kernel_rfl) (by kernel_rfl) ?_)
    have C10_ := wrong_c br ao cap r 3 w h_rr  
    refine Calls.mono C10_ ?_
    rintro e9_ w7_ ⟨aorr2_, caprr3_, rfl, h4_, F8_, h6_⟩
    refine ⟨_, rfl, ?_⟩
    have T11_ := Fr.then (Fr.refl w (One br)) F8_ (New.refl w (One br))
    have N12_ := New.trans (New.refl w (rrS br ao r)) h6_ (Fr.size (Fr.refl w (One br)))
    refine at_done (by kernel_rfl) ?_
    refine then_n ?_
    refine c_seq [1, 0, 1, 0, 1, 0] [1, 0, 1, 0, 1, 1] (by kernel_rfl) ?_
    refine c_reg 3 take_c_R3 (by kernel_rfl) ?_
    refine at_pures 1 (by kernel_rfl) (by kernel_rfl) ?_
    refine at_done (by kernel_rfl) ?_
    refine then_n ?_
    refine c_ret (by kernel_rfl) ?_
    refine then_r ?_
    refine fin_ret (.slice none 0 0) (by kernel_rfl) (by kernel_rfl) ?_
    have hq : r.out m = [] := if_pos (by omega)
    rw [show r.take m = r.wrong 3 from if_pos (by omega), hq]
    exact ⟨0, aorr2_, caprr3_, none, rfl, h4_, (Rd.nil _ _), T11_, N12_, (Sub.toNew Sub.nil), (Sub.dis (T := N0) Sub.nil Dis.n0'), (Nat.le_refl _)⟩
  · -- no
    replace c1_ : ¬ ((m : Int) > (r.l.length : Int)) := of_decide_eq_false c1_
    refine c_skip (by kernel_rfl) ?_
    refine then_n ?_
    refine c_seq [1, 1, 0] [1, 1, 1] (by kernel_rfl) ?_
    refine c_reg 4 take_c_R4 (by kernel_rfl) ?_
    refine at_pures 3 (by kernel_rfl) (by kernel_rfl) ?_
    refine at_load1 22 (.tmp 17) br 0 _ _ _ (.slice ao r.l.length cap) (by kernel_rfl) (by kernel_rfl) (by kernel_rfl) (by kernel_rfl) (RrAt.blk h_rr) (by kernel_rfl) ?_
    refine at_pures 6 (by kernel_rfl) (by kernel_rfl) ?_
    refine at_run (.slice (cutA ao 0 m 1) m m) _ (by kernel_rfl) (run_cut 22 (.tmp 18) none (some (.tmp 19)) (some (.tmp 20)) 1 ao r.l.length cap 0 m m (by kernel_rfl) (by kernel_rfl) (by kernel_rfl) (by kernel_rfl) (by kernel_rfl) (by kernel_rfl) (by kernel_rfl) (by kernel_rfl) (by omega) (by omega) (by omega)) ?_
    refine at_pures 8 (by kernel_rfl) (by kernel_rfl) ?_
    refine at_done (by kernel_rfl) ?_
    refine then_n ?_
    refine c_seq [1, 1, 1, 0] [1, 1, 1, 1] (by kernel_rfl) ?_
    refine c_reg 5 take_c_R5 (by kernel_rfl) ?_
    refine at_pures 4 (by kernel_rfl) (by kernel_rfl) ?_
    refine at_load1 22 (.tmp 25) br 0 _ _ _ (.slice ao r.l.length cap) (by kernel_rfl) (by kernel_rfl) (by kernel_rfl) (by kernel_rfl) (RrAt.blk h_rr) (by kernel_rfl) ?_
    refine at_pures 6 (by kernel_rfl) (by kernel_rfl) ?_
    refine at_run (.slice (cutA ao m cap 1) (r.l.length - m) (cap - m)) _ (by kernel_rfl) (run_cut 22 (.tmp 26) (some (.tmp 27)) none none 1 ao r.l.length cap m r.l.length cap (by kernel_rfl) (by kernel_rfl) (by kernel_rfl) (by kernel_rfl) (by kernel_rfl) (by kernel_rfl) (by kernel_rfl) (by kernel_rfl) (by omega) (by omega) (by omega)) ?_
    refine at_pures 9 (by kernel_rfl) (by kernel_rfl) ?_
    have h13_ := RrAt.blk h_rr; have h14_ := RrAt.rd h_rr; have h15_ := RrAt.cap h_rr; have d16_ := RrAt.dis h_rr
    refine at_do (by kernel_rfl) (op_store 22 (.tmp 30) (.tmp 28) br 0 (.slice (cutA ao m cap 1) (r.l.length - m) (cap - m)) _ _ #[(.slice (cutA ao m cap 1) (r.l.length - m) (cap - m)), (.int .i64 (r.e : Int))] (by kernel_rfl) (by kernel_rfl) (by kernel_rfl) h13_ (by kernel_rfl) (by kernel_rfl) (by kernel_rfl) (by kernel_rfl) (fun w17_ h18_ z19_ F20_ => ?_))
    have T21_ := Fr.then (Fr.refl w (One br)) F20_ (New.refl w (One br))
    have h22_ := Rd.keep' h14_ F20_ d16_
    refine at_done (by kernel_rfl) ?_
    refine then_n ?_
    refine c_seq [1, 1, 1, 1, 0] [1, 1, 1, 1, 1] (by kernel_rfl) ?_
    refine c_reg 6 take_c_R6 (by kernel_rfl) ?_
    refine at_pures 2 (by kernel_rfl) (by kernel_rfl) ?_
    refine at_done (by kernel_rfl) ?_
    refine then_n ?_
    refine c_ret (by kernel_rfl) ?_
    refine fin_ret (.slice (cutA ao 0 m 1) m m) (by kernel_rfl) (by kernel_rfl) ?_
    have hq : r.out m = r.l.take m := if_neg (by omega)
    have hl : (r.l.take m).length = m := by rw [List.length_take]; omega
    rw [show r.take m = Rs.mk r.e (r.l.drop m) from if_neg (by omega), hq]
    have h23_ : Sub (Ar (cutA ao m cap 1) (B (r.l.drop m))) (Ar ao (B r.l)) := Sub.cut (B_ne fun h e => h (by rw [e, List.drop_nil]))
    have h24_ : Sub (Ar (cutA ao 0 m 1) (B (r.l.take m))) (Ar ao (B r.l)) := Sub.cut (B_ne fun h e => h (by rw [e, List.take_nil]))
    have h25_ : Rd w17_ (cutA ao m cap 1) (B (r.l.drop m)) := by have h := Rd.cut h22_ m (r.l.length - m) cap 1 (by omega); rwa [Nat.mul_one, Nat.mul_one, ← B_drop, ← B_take, List.take_of_length_le (by rw [List.length_drop]; omega)] at h
    have h26_ : Rd w17_ (cutA ao 0 m 1) (B (r.l.take m)) := by have h := Rd.cut h22_ 0 m m 1 (by omega); rwa [Nat.zero_mul, List.drop_zero, Nat.mul_one, ← B_take] at h
    have h27_ : RrAt 113 w17_ br (cutA ao m cap 1) (cap - m) (Rs.mk r.e (r.l.drop m)) := ⟨(by have h := h18_; rwa [← List.length_drop] at h), (by rw [List.length_drop]; omega), h25_, Sub.dis h23_ d16_⟩
    exact ⟨m, (cutA ao m cap 1), (cap - m), (cutA ao 0 m 1), (by rw [hl]), h27_, h26_, T21_, (show New w (rrS br ao r) (rrS br (cutA ao m cap 1) (Rs.mk r.e (r.l.drop m))) from Sub.toNew (Sub.or Sub.inl (Sub.trans h23_ Sub.inr))), (Sub.toNew (Sub.trans h24_ Sub.inr)), (Sub.dis h24_ d16_), (by rw [hl]; exact Nat.le_refl _)⟩

noncomputable def number_c_R0 : Array Oper := rAt Tryd.prog 68 [0]
noncomputable def number_c_R1 : Array Oper := rAt Tryd.prog 68 [1, 0]
noncomputable def number_c_R2 : Array Oper := rAt Tryd.prog 68 [1, 1, 0, 0]
noncomputable def number_c_R3 : Array Oper := rAt Tryd.prog 68 [1, 1, 0, 1, 0, 0, 0]
noncomputable def number_c_R4 : Array Oper := rAt Tryd.prog 68 [1, 1, 0, 1, 0, 0, 1, 1, 0, 0, 0]
noncomputable def number_c_R5 : Array Oper := rAt Tryd.prog 68 [1, 1, 0, 1, 0, 0, 1, 1, 0, 0, 1]
noncomputable def number_c_R6 : Array Oper := rAt Tryd.prog 68 [1, 1, 0, 1, 0, 0, 1, 1, 1]
noncomputable def number_c_R7 : Array Oper := rAt Tryd.prog 68 [1, 1, 1, 0]
set_option maxRecDepth 100000 in
theorem number_c (br : Nat) (ao : Option Addr) (cap : Nat) (r : Rs) (size : Nat) (w : World) (h_rr : RrAt 113 w br ao cap r) (hs : size ≤ 8) (hB : Byt r.l) :
    Calls Tryd.prog 68 #[(.pointer (some ⟨br, 0, none⟩)), (.int .i64 (size : Int))] w fun e w' => ∃ (ao_rr' : Option Addr), ∃ (cap_rr' : Nat), e = .returned (.int .u64 (r.num size : Int)) ∧ RrAt 113 w' br ao_rr' cap_rr' (r.take size) ∧ Fr w w' (One br) ∧ New w (rrS br ao r) (rrS br ao_rr' (r.take size)) := by
  have hol := out_length_le r size; have hg := getD_lt (hB.out size)
  refine c_enter (mk 23 [(0, (.pointer (some ⟨br, 0, none⟩))), (1, (.int .i64 (size : Int)))] (fun _ => undef)) Tryd.func68 (by kernel_rfl) (by kernel_rfl) ?_
  refine c_seq [0] [1] (by kernel_rfl) ?_
  refine c_reg 0 number_c_R0 (by kernel_rfl) ?_
  refine at_pures 1 (by kernel_rfl) (by kernel_rfl) ?_
  refine at_done (by kernel_rfl) ?_
  refine then_n ?_
  refine c_seq [1, 0] [1, 1] (by kernel_rfl) ?_
  refine c_reg 1 number_c_R1 (by kernel_rfl) ?_
  refine at_pures 1 (by kernel_rfl) (by kernel_rfl) ?_
  refine at_done (by kernel_rfl) ?_
  refine then_n ?_
  refine c_seq [1, 1, 0] [1, 1, 1] (by kernel_rfl) ?_
  refine c_seq [1, 1, 0, 0] [1, 1, 0, 1] (by kernel_rfl) ?_
  refine c_reg 2 number_c_R2 (by kernel_rfl) ?_
  refine at_pures 2 (by kernel_rfl) (by kernel_rfl) ?_
  refine at_do (by kernel_rfl) (op_call 67 #[(.tmp 8), (.tmp 9)] #[(.pointer (some ⟨br, 0, none⟩)), (.int .i64 (size : Int))] (by kernel_rfl) (by kernel_rfl) (by kernel_rfl) ?_)
  have C15_ := take_c br ao cap r size w h_rr  
  refine Calls.mono C15_ ?_
  rintro e14_ w12_ ⟨oc1_, aorr2_, caprr3_, aoout4_, rfl, h5_, h6_, F13_, h8_, h9_, h10_, h11_⟩
  refine ⟨_, rfl, ?_⟩
  have T16_ := Fr.then (Fr.refl w (One br)) F13_ (New.refl w (One br))
  have N17_ := New.trans (New.refl w (rrS br ao r)) h8_ (Fr.size (Fr.refl w (One br)))
  have N19_ := New.trans (New.refl w (rrS br ao r)) h9_ (Fr.size (Fr.refl w (One br)))
  refine at_pures 5 (by kernel_rfl) (by kernel_rfl) ?_
  refine at_done (by kernel_rfl) ?_
  refine then_n ?_
  refine c_block 0 [1, 1, 0, 1, 0] (by kernel_rfl) ?_
  refine c_loop (fun a w' => ∃ (k : Nat), (∃ u, a = mk 23 [(0, (.pointer (some ⟨br, 0, none⟩))), (1, (.int .i64 (size : Int))), (4, (.int .u64 0)), (5, (.int .u64 (num ((r.out size).take k) : Int))), (8, (.pointer (some ⟨br, 0, none⟩))), (9, (.int .i64 (size : Int))), (10, (.slice aoout4_ ((r.out size).length) oc1_)), (11, (.int .i64 ((r.out size).length : Int))), (12, (.int .i64 (k : Int)))] u) ∧ (k ≤ (r.out size).length) ∧ (RrAt 113 w' br aorr2_ caprr3_ (r.take size)) ∧ (Rd w' aoout4_ (B (r.out size))) ∧ (Fr w w' (One br))) (fun a _ => cnt ((r.out size).length) 12 a) [1, 1, 0, 1, 0, 0] (by kernel_rfl) ⟨0, is_mk (by kernel_rfl) (by kernel_rfl) (by kernel_rfl), ⟨Nat.zero_le _, h5_, h6_, T16_⟩⟩ ?_
  rintro a21_ w22_ ⟨k, ⟨u23_, rfl⟩, ⟨hk, q_0L20_, q_1L20_, hFrL20_⟩⟩
  refine c_seq [1, 1, 0, 1, 0, 0, 0] [1, 1, 0, 1, 0, 0, 1] (by kernel_rfl) ?_
  refine c_reg 3 number_c_R3 (by kernel_rfl) ?_
  refine at_pures 1 (by kernel_rfl) (by kernel_rfl) ?_
  refine at_done (by kernel_rfl) ?_
  refine then_n ?_
  refine c_seq [1, 1, 0, 1, 0, 0, 1, 0] [1, 1, 0, 1, 0, 0, 1, 1] (by kernel_rfl) ?_
  refine c_if (.tmp 13) (decide ((k : Int) < ((r.out size).length : Int))) [1, 1, 0, 1, 0, 0, 1, 0, 0] [1, 1, 0, 1, 0, 0, 1, 0, 1] (by kernel_rfl) (by kernel_rfl) (fun c24_ => ?_) (fun c24_ => ?_)
  · -- yes
    replace c24_ : (k : Int) < ((r.out size).length : Int) := of_decide_eq_true c24_
    refine c_skip (by kernel_rfl) ?_
    refine then_n ?_
    refine c_seq [1, 1, 0, 1, 0, 0, 1, 1, 0] [1, 1, 0, 1, 0, 0, 1, 1, 1] (by kernel_rfl) ?_
    refine c_block 1 [1, 1, 0, 1, 0, 0, 1, 1, 0, 0] (by kernel_rfl) ?_
    refine c_seq [1, 1, 0, 1, 0, 0, 1, 1, 0, 0, 0] [1, 1, 0, 1, 0, 0, 1, 1, 0, 0, 1] (by kernel_rfl) ?_
    refine c_reg 4 number_c_R4 (by kernel_rfl) ?_
    obtain ⟨ad25_, ha26_⟩ := q_1L20_.has (k * 1) (by rw [B_length]; omega)
    refine at_run (.pointer (some (ad25_.add (k * 1)))) _ (by kernel_rfl) (run_idx_o 22 (.tmp 10) (.tmp 12) 1 aoout4_ ad25_ ((r.out size).length) oc1_ .i64 k (by kernel_rfl) (by kernel_rfl) (by kernel_rfl) (by kernel_rfl) (by kernel_rfl) ha26_ (by omega)) ?_
    refine at_run (.int .u8 (((r.out size).getD k 0 : Nat) : Int)) _ (by kernel_rfl) (run_loadE1 5 (.tmp 14) aoout4_ ad25_ (k * 1) (B (r.out size)) (.int .u8 (((r.out size).getD k 0 : Nat) : Int)) (by kernel_rfl) (by kernel_rfl) (by kernel_rfl) ha26_ q_1L20_ (by rw [Nat.mul_one]; exact B_getD _ _ (by first | omega | (simp only [List.length_take, List.length_drop]; omega)))) ?_
    refine at_pures 3 (by kernel_rfl) (by kernel_rfl) ?_
    refine at_done (by kernel_rfl) ?_
    refine then_n ?_
    refine c_reg 5 number_c_R5 (by kernel_rfl) ?_
    refine at_pures 1 (by kernel_rfl) (by kernel_rfl) ?_
    refine at_int (kd := .u64) (IntKind.u64.wrap ((num ((r.out size).take k) : Int) * 2 ^ 8)) (((num ((r.out size).take k) * 256 : Nat) : Int)) (by kernel_rfl) (by kernel_rfl) (shl_step (num_take_lt (hB.out size) (by omega))) ?_
    refine at_pures 3 (by kernel_rfl) (by kernel_rfl) ?_
    refine at_int (kd := .u64) (IntKind.u64.wrap ((((r.out size).getD k 0 : Nat) : Int))) ((((r.out size).getD k 0 : Nat) : Int)) (by kernel_rfl) (by kernel_rfl) (wrapN_u64 (by omega) (by have := hg k; omega)) ?_
    refine at_int (kd := .u64) (IntKind.u64.wrap (((BitVec.ofInt 64 ((num ((r.out size).take k) * 256 : Nat) : Int) ||| BitVec.ofInt 64 (((r.out size).getD k 0 : Nat) : Int)).toNat : Int))) ((num ((r.out size).take (k + 1)) : Int)) (by kernel_rfl) (by kernel_rfl) (num_step' (hB.out size) (by omega) (by omega)) ?_
    refine at_pures 6 (by kernel_rfl) (by kernel_rfl) ?_
    refine at_done (by kernel_rfl) ?_
    refine blk_n ?_
    refine then_n ?_
    refine c_reg 6 number_c_R6 (by kernel_rfl) ?_
    refine at_int (kd := .i64) (IntKind.i64.wrap ((k : Int) + (1 : Int))) ((k : Int) + (1 : Int)) (by kernel_rfl) (by kernel_rfl) (wrapN_i64 (by omega) (by omega)) ?_
    refine at_pures 2 (by kernel_rfl) (by kernel_rfl) ?_
    refine at_done (by kernel_rfl) ?_
    refine then_n ?_
    exact ⟨⟨k + 1, is_mk (by kernel_rfl) (by kernel_rfl) (by kernel_rfl), ⟨(by omega), q_0L20_, q_1L20_, hFrL20_⟩⟩, cnt_lt (k := (k : Int)) (k' := ((k : Int) + (1 : Int))) (by kernel_rfl) (by kernel_rfl) (by omega) (by omega)⟩
  · -- no
    replace c24_ : ¬ ((k : Int) < ((r.out size).length : Int)) := of_decide_eq_false c24_
    refine c_exit 0 (by kernel_rfl) ?_
    refine then_e ?_
    refine then_e ?_
    refine blk_hit ?_
    refine then_n ?_
    refine c_seq [1, 1, 1, 0] [1, 1, 1, 1] (by kernel_rfl) ?_
    refine c_reg 7 number_c_R7 (by kernel_rfl) ?_
    refine at_pures 2 (by kernel_rfl) (by kernel_rfl) ?_
    refine at_done (by kernel_rfl) ?_
    refine then_n ?_
    refine c_ret (by kernel_rfl) ?_
    refine fin_ret (.int .u64 (num ((r.out size).take k) : Int)) (by kernel_rfl) (by kernel_rfl) ?_
    exact ⟨aorr2_, caprr3_, (by rw [List.take_of_length_le (by omega)]; rfl), q_0L20_, hFrL20_, N17_⟩

noncomputable def rbyte_c_R0 : Array Oper := rAt Tryd.prog 65 [0]
noncomputable def rbyte_c_R1 : Array Oper := rAt Tryd.prog 65 [1, 0]
set_option maxRecDepth 100000 in
theorem rbyte_c (br : Nat) (ao : Option Addr) (cap : Nat) (r : Rs) (w : World) (h_rr : RrAt 113 w br ao cap r) (hB : Byt r.l) :
    Calls Tryd.prog 65 #[(.pointer (some ⟨br, 0, none⟩))] w fun e w' => ∃ (ao_rr' : Option Addr), ∃ (cap_rr' : Nat), e = .returned (.int .u8 (r.num 1 : Int)) ∧ RrAt 113 w' br ao_rr' cap_rr' (r.take 1) ∧ Fr w w' (One br) ∧ New w (rrS br ao r) (rrS br ao_rr' (r.take 1)) := by
  have hn := Rs.num_lt hB (Nat.le_refl 1)
  refine c_enter (mk 6 [(0, (.pointer (some ⟨br, 0, none⟩)))] (fun _ => undef)) Tryd.func65 (by kernel_rfl) (by kernel_rfl) ?_
  refine c_seq [0] [1] (by kernel_rfl) ?_
  refine c_reg 0 rbyte_c_R0 (by kernel_rfl) ?_
  refine at_pures 1 (by kernel_rfl) (by kernel_rfl) ?_
  refine at_done (by kernel_rfl) ?_
  refine then_n ?_
  refine c_seq [1, 0] [1, 1] (by kernel_rfl) ?_
  refine c_reg 1 rbyte_c_R1 (by kernel_rfl) ?_
  refine at_pures 1 (by kernel_rfl) (by kernel_rfl) ?_
  refine at_do (by kernel_rfl) (op_call 68 #[(.tmp 3), (.const (.int .i64 1))] #[(.pointer (some ⟨br, 0, none⟩)), (.int .i64 1)] (by kernel_rfl) (by kernel_rfl) (by kernel_rfl) ?_)
  have C9_ := number_c br ao cap r 1 w h_rr  (by first | omega | with_reducible assumption | (simp only [List.length_append, List.length_cons, List.length_nil, putB_length]; omega) | decide) (by first | omega | with_reducible assumption | (simp only [List.length_append, List.length_cons, List.length_nil, putB_length]; omega) | decide)
  refine Calls.mono C9_ ?_
  rintro e8_ w6_ ⟨aorr1_, caprr2_, rfl, h3_, F7_, h5_⟩
  refine ⟨_, rfl, ?_⟩
  have T10_ := Fr.then (Fr.refl w (One br)) F7_ (New.refl w (One br))
  have N11_ := New.trans (New.refl w (rrS br ao r)) h5_ (Fr.size (Fr.refl w (One br)))
  refine at_int (kd := .u8) (IntKind.u8.wrap ((r.num 1 : Int))) ((r.num 1 : Int)) (by kernel_rfl) (by kernel_rfl) (wrapN_u8 (by omega) (by omega)) ?_
  refine at_pures 4 (by kernel_rfl) (by kernel_rfl) ?_
  refine at_done (by kernel_rfl) ?_
  refine then_n ?_
  refine c_ret (by kernel_rfl) ?_
  refine fin_ret (.int .u8 (r.num 1 : Int)) (by kernel_rfl) (by kernel_rfl) ?_
  exact ⟨aorr1_, caprr2_, rfl, h3_, T10_, N11_⟩

noncomputable def rnum_c_R0 : Array Oper := rAt Tryd.prog 53 [0]
noncomputable def rnum_c_R1 : Array Oper := rAt Tryd.prog 53 [1, 0]
set_option maxRecDepth 100000 in
theorem rnum_c (br : Nat) (ao : Option Addr) (cap : Nat) (r : Rs) (w : World) (h_rr : RrAt 113 w br ao cap r) (hB : Byt r.l) :
    Calls Tryd.prog 53 #[(.pointer (some ⟨br, 0, none⟩))] w fun e w' => ∃ (ao_rr' : Option Addr), ∃ (cap_rr' : Nat), e = .returned (.int .u32 (r.num 4 : Int)) ∧ RrAt 113 w' br ao_rr' cap_rr' (r.take 4) ∧ Fr w w' (One br) ∧ New w (rrS br ao r) (rrS br ao_rr' (r.take 4)) := by
  have hn := Rs.num_lt hB (Nat.le_refl 4)
  refine c_enter (mk 6 [(0, (.pointer (some ⟨br, 0, none⟩)))] (fun _ => undef)) Tryd.func53 (by kernel_rfl) (by kernel_rfl) ?_
  refine c_seq [0] [1] (by kernel_rfl) ?_
  refine c_reg 0 rnum_c_R0 (by kernel_rfl) ?_
  refine at_pures 1 (by kernel_rfl) (by kernel_rfl) ?_
  refine at_done (by kernel_rfl) ?_
  refine then_n ?_
  refine c_seq [1, 0] [1, 1] (by kernel_rfl) ?_
  refine c_reg 1 rnum_c_R1 (by kernel_rfl) ?_
  refine at_pures 1 (by kernel_rfl) (by kernel_rfl) ?_
  refine at_do (by kernel_rfl) (op_call 68 #[(.tmp 3), (.const (.int .i64 4))] #[(.pointer (some ⟨br, 0, none⟩)), (.int .i64 4)] (by kernel_rfl) (by kernel_rfl) (by kernel_rfl) ?_)
  have C9_ := number_c br ao cap r 4 w h_rr  (by first | omega | with_reducible assumption | (simp only [List.length_append, List.length_cons, List.length_nil, putB_length]; omega) | decide) (by first | omega | with_reducible assumption | (simp only [List.length_append, List.length_cons, List.length_nil, putB_length]; omega) | decide)
  refine Calls.mono C9_ ?_
  rintro e8_ w6_ ⟨aorr1_, caprr2_, rfl, h3_, F7_, h5_⟩
  refine ⟨_, rfl, ?_⟩
  have T10_ := Fr.then (Fr.refl w (One br)) F7_ (New.refl w (One br))
  have N11_ := New.trans (New.refl w (rrS br ao r)) h5_ (Fr.size (Fr.refl w (One br)))
  refine at_int (kd := .u32) (IntKind.u32.wrap ((r.num 4 : Int))) ((r.num 4 : Int)) (by kernel_rfl) (by kernel_rfl) (wrapN_u32 (by omega) (by omega)) ?_
  refine at_pures 4 (by kernel_rfl) (by kernel_rfl) ?_
  refine at_done (by kernel_rfl) ?_
  refine then_n ?_
  refine c_ret (by kernel_rfl) ?_
  refine fin_ret (.int .u32 (r.num 4 : Int)) (by kernel_rfl) (by kernel_rfl) ?_
  exact ⟨aorr1_, caprr2_, rfl, h3_, T10_, N11_⟩

noncomputable def rlong_c_R0 : Array Oper := rAt Tryd.prog 52 [0]
noncomputable def rlong_c_R1 : Array Oper := rAt Tryd.prog 52 [1, 0]
set_option maxRecDepth 100000 in
theorem rlong_c (br : Nat) (ao : Option Addr) (cap : Nat) (r : Rs) (w : World) (h_rr : RrAt 113 w br ao cap r) (hB : Byt r.l) :
    Calls Tryd.prog 52 #[(.pointer (some ⟨br, 0, none⟩))] w fun e w' => ∃ (ao_rr' : Option Addr), ∃ (cap_rr' : Nat), e = .returned (.int .u64 (r.num 8 : Int)) ∧ RrAt 113 w' br ao_rr' cap_rr' (r.take 8) ∧ Fr w w' (One br) ∧ New w (rrS br ao r) (rrS br ao_rr' (r.take 8)) := by
  have hn := Rs.num_lt hB (Nat.le_refl 8)
  refine c_enter (mk 5 [(0, (.pointer (some ⟨br, 0, none⟩)))] (fun _ => undef)) Tryd.func52 (by kernel_rfl) (by kernel_rfl) ?_
  refine c_seq [0] [1] (by kernel_rfl) ?_
  refine c_reg 0 rlong_c_R0 (by kernel_rfl) ?_
  refine at_pures 1 (by kernel_rfl) (by kernel_rfl) ?_
  refine at_done (by kernel_rfl) ?_
  refine then_n ?_
  refine c_seq [1, 0] [1, 1] (by kernel_rfl) ?_
  refine c_reg 1 rlong_c_R1 (by kernel_rfl) ?_
  refine at_pures 1 (by kernel_rfl) (by kernel_rfl) ?_
  refine at_do (by kernel_rfl) (op_call 68 #[(.tmp 3), (.const (.int .i64 8))] #[(.pointer (some ⟨br, 0, none⟩)), (.int .i64 8)] (by kernel_rfl) (by kernel_rfl) (by kernel_rfl) ?_)
  have C9_ := number_c br ao cap r 8 w h_rr  (by first | omega | with_reducible assumption | (simp only [List.length_append, List.length_cons, List.length_nil, putB_length]; omega) | decide) (by first | omega | with_reducible assumption | (simp only [List.length_append, List.length_cons, List.length_nil, putB_length]; omega) | decide)
  refine Calls.mono C9_ ?_
  rintro e8_ w6_ ⟨aorr1_, caprr2_, rfl, h3_, F7_, h5_⟩
  refine ⟨_, rfl, ?_⟩
  have T10_ := Fr.then (Fr.refl w (One br)) F7_ (New.refl w (One br))
  have N11_ := New.trans (New.refl w (rrS br ao r)) h5_ (Fr.size (Fr.refl w (One br)))
  refine at_pures 3 (by kernel_rfl) (by kernel_rfl) ?_
  refine at_done (by kernel_rfl) ?_
  refine then_n ?_
  refine c_ret (by kernel_rfl) ?_
  refine fin_ret (.int .u64 (r.num 8 : Int)) (by kernel_rfl) (by kernel_rfl) ?_
  exact ⟨aorr1_, caprr2_, rfl, h3_, T10_, N11_⟩


noncomputable def rtext_c_R0 : Array Oper := rAt Tryd.prog 51 [0]
noncomputable def rtext_c_R1 : Array Oper := rAt Tryd.prog 51 [1, 0]
noncomputable def rtext_c_R2 : Array Oper := rAt Tryd.prog 51 [1, 1, 0, 0]
noncomputable def rtext_c_R3 : Array Oper := rAt Tryd.prog 51 [1, 1, 0, 1, 0]
noncomputable def rtext_c_R4 : Array Oper := rAt Tryd.prog 51 [1, 1, 1, 0, 0]
noncomputable def rtext_c_R5 : Array Oper := rAt Tryd.prog 51 [1, 1, 1, 0, 1, 0, 0]
noncomputable def rtext_c_R6 : Array Oper := rAt Tryd.prog 51 [1, 1, 1, 1, 0]
set_option maxRecDepth 100000 in
theorem rtext_c (br : Nat) (ao : Option Addr) (cap : Nat) (r : Rs) (most : Nat) (w : World) (h_rr : RrAt 113 w br ao cap r) (hB : Byt r.l) :
    Calls Tryd.prog 51 #[(.pointer (some ⟨br, 0, none⟩)), (.int .i64 (most : Int))] w fun e w' => ∃ (oc : Nat), ∃ (ao_rr' : Option Addr), ∃ (cap_rr' : Nat), ∃ (ao_out' : Option Addr), e = .returned (.slice ao_out' ((r.text most).length) oc) ∧ RrAt 113 w' br ao_rr' cap_rr' (r.textR most) ∧ Rd w' ao_out' (B (r.text most)) ∧ Fr w w' (One br) ∧ New w (rrS br ao r) (rrS br ao_rr' (r.textR most)) ∧ New w (rrS br ao r) (Ar ao_out' (B (r.text most))) ∧ Dis (Ar ao_out' (B (r.text most))) (One br) ∧ (r.text most).length ≤ oc := by
  have hn := Rs.num_lt hB (Nat.le_refl 1)
  refine c_enter (mk 22 [(0, (.pointer (some ⟨br, 0, none⟩))), (1, (.int .i64 (most : Int)))] (fun _ => undef)) Tryd.func51 (by kernel_rfl) (by kernel_rfl) ?_
  refine c_seq [0] [1] (by kernel_rfl) ?_
  refine c_reg 0 rtext_c_R0 (by kernel_rfl) ?_
  refine at_pures 1 (by kernel_rfl) (by kernel_rfl) ?_
  refine at_done (by kernel_rfl) ?_
  refine then_n ?_
  refine c_seq [1, 0] [1, 1] (by kernel_rfl) ?_
  refine c_reg 1 rtext_c_R1 (by kernel_rfl) ?_
  refine at_pures 1 (by kernel_rfl) (by kernel_rfl) ?_
  refine at_do (by kernel_rfl) (op_call 65 #[(.tmp 6)] #[(.pointer (some ⟨br, 0, none⟩))] (by kernel_rfl) (by kernel_rfl) (by kernel_rfl) ?_)
  have C9_ := rbyte_c br ao cap r w h_rr  (by first | omega | with_reducible assumption | (simp only [List.length_append, List.length_cons, List.length_nil, putB_length]; omega) | decide)
  refine Calls.mono C9_ ?_
  rintro e8_ w6_ ⟨aorr1_, caprr2_, rfl, h3_, F7_, h5_⟩
  refine ⟨_, rfl, ?_⟩
  have T10_ := Fr.then (Fr.refl w (One br)) F7_ (New.refl w (One br))
  have N11_ := New.trans (New.refl w (rrS br ao r)) h5_ (Fr.size (Fr.refl w (One br)))
  refine at_int (kd := .i64) (IntKind.i64.wrap ((r.num 1 : Int))) ((r.num 1 : Int)) (by kernel_rfl) (by kernel_rfl) (wrapN_i64 (by omega) (by omega)) ?_
  refine at_pures 4 (by kernel_rfl) (by kernel_rfl) ?_
  refine at_done (by kernel_rfl) ?_
  refine then_n ?_
  refine c_seq [1, 1, 0] [1, 1, 1] (by kernel_rfl) ?_
  refine c_seq [1, 1, 0, 0] [1, 1, 0, 1] (by kernel_rfl) ?_
  refine c_reg 2 rtext_c_R2 (by kernel_rfl) ?_
  refine at_pures 3 (by kernel_rfl) (by kernel_rfl) ?_
  refine at_done (by kernel_rfl) ?_
  refine then_n ?_
  refine c_if (.tmp 11) (decide ((r.num 1 : Int) > (most : Int))) [1, 1, 0, 1, 0] [1, 1, 0, 1, 1] (by kernel_rfl) (by kernel_rfl) (fun c12_ => ?_) (fun c12_ => ?_)
  · -- yes
    replace c12_ : (r.num 1 : Int) > (most : Int) := of_decide_eq_true c12_
    refine c_reg 3 rtext_c_R3 (by kernel_rfl) ?_
    refine at_pures 1 (by kernel_rfl) (by kernel_rfl) ?_
    refine at_do (by kernel_rfl) (op_call 66 #[(.tmp 12), (.const (.int .i64 4))] #[(.pointer (some ⟨br, 0, none⟩)), (.int .i64 4)] (by kernel_rfl) (by kernel_rfl) (by kernel_rfl) ?_)
    have C21_ := wrong_c br aorr1_ caprr2_ (r.take 1) 4 w6_ h3_  
    refine Calls.mono C21_ ?_
    rintro e20_ w18_ ⟨aorr13_, caprr14_, rfl, h15_, F19_, h17_⟩
    refine ⟨_, rfl, ?_⟩
    have T22_ := Fr.then T10_ F19_ (New.refl w (One br))
    have N23_ := New.trans N11_ h17_ (Fr.size T10_)
    refine at_done (by kernel_rfl) ?_
    refine then_n ?_
    refine c_seq [1, 1, 1, 0] [1, 1, 1, 1] (by kernel_rfl) ?_
    refine c_seq [1, 1, 1, 0, 0] [1, 1, 1, 0, 1] (by kernel_rfl) ?_
    refine c_reg 4 rtext_c_R4 (by kernel_rfl) ?_
    refine at_pures 3 (by kernel_rfl) (by kernel_rfl) ?_
    refine at_load1 40 (.tmp 16) br 1 _ _ _ (.int .i64 (((r.take 1).wrong 4).e : Int)) (by kernel_rfl) (by kernel_rfl) (by kernel_rfl) (by kernel_rfl) (RrAt.blk h15_) (by kernel_rfl) ?_
    refine at_pures 5 (by kernel_rfl) (by kernel_rfl) ?_
    refine at_done (by kernel_rfl) ?_
    refine then_n ?_
    refine c_if (.tmp 18) ((((r.take 1).wrong 4).e : Int) != (0 : Int)) [1, 1, 1, 0, 1, 0] [1, 1, 1, 0, 1, 1] (by kernel_rfl) (by kernel_rfl) (fun c24_ => ?_) (fun c24_ => ?_)
    · -- yes
      replace c24_ : (((r.take 1).wrong 4).e : Int) ≠ (0 : Int) := by simpa using c24_
      refine c_seq [1, 1, 1, 0, 1, 0, 0] [1, 1, 1, 0, 1, 0, 1] (by kernel_rfl) ?_
      refine c_reg 5 rtext_c_R5 (by kernel_rfl) ?_
      refine at_pures 1 (by kernel_rfl) (by kernel_rfl) ?_
      refine at_done (by kernel_rfl) ?_
      refine then_n ?_
      refine c_ret (by kernel_rfl) ?_
      refine then_r ?_
      refine fin_ret (.slice none 0 0) (by kernel_rfl) (by kernel_rfl) ?_
      have h1 : r.text1 most = ((r.take 1).wrong 4) := if_pos (by omega)
      have h2 : r.textR most = ((r.take 1).wrong 4) := by unfold Rs.textR; rw [h1]; exact if_neg (by omega)
      have h3 : r.text most = [] := by unfold Rs.text; rw [h1]; exact if_neg (by omega)
      rw [h2, h3]
      exact ⟨0, aorr13_, caprr14_, none, rfl, h15_, (Rd.nil _ _), T22_, N23_, (Sub.toNew Sub.nil), (Sub.dis (T := N0) Sub.nil Dis.n0'), (Nat.le_refl _)⟩
    · -- no
      replace c24_ : (((r.take 1).wrong 4).e : Int) = (0 : Int) := by simpa using c24_
      refine c_skip (by kernel_rfl) ?_
      refine then_n ?_
      refine c_seq [1, 1, 1, 1, 0] [1, 1, 1, 1, 1] (by kernel_rfl) ?_
      refine c_reg 6 rtext_c_R6 (by kernel_rfl) ?_
      refine at_pures 2 (by kernel_rfl) (by kernel_rfl) ?_
      refine at_do (by kernel_rfl) (op_call 67 #[(.tmp 19), (.tmp 20)] #[(.pointer (some ⟨br, 0, none⟩)), (.int .i64 (r.num 1 : Int))] (by kernel_rfl) (by kernel_rfl) (by kernel_rfl) ?_)
      have C39_ := take_c br aorr13_ caprr14_ ((r.take 1).wrong 4) (r.num 1) w18_ h15_  
      refine Calls.mono C39_ ?_
      rintro e38_ w36_ ⟨oc25_, aorr26_, caprr27_, aoout28_, rfl, h29_, h30_, F37_, h32_, h33_, h34_, h35_⟩
      refine ⟨_, rfl, ?_⟩
      have T40_ := Fr.then T22_ F37_ (New.refl w (One br))
      have N41_ := New.trans N23_ h32_ (Fr.size T22_)
      have N43_ := New.trans N23_ h33_ (Fr.size T22_)
      refine at_pures 4 (by kernel_rfl) (by kernel_rfl) ?_
      refine at_done (by kernel_rfl) ?_
      refine then_n ?_
      refine c_ret (by kernel_rfl) ?_
      refine fin_ret (.slice aoout28_ ((((r.take 1).wrong 4).out (r.num 1)).length) oc25_) (by kernel_rfl) (by kernel_rfl) ?_
      have h1 : r.text1 most = ((r.take 1).wrong 4) := if_pos (by omega)
      have h2 : r.textR most = ((r.take 1).wrong 4).take (r.num 1) := by unfold Rs.textR; rw [h1]; exact if_pos (by omega)
      have h3 : r.text most = ((r.take 1).wrong 4).out (r.num 1) := by unfold Rs.text; rw [h1]; exact if_pos (by omega)
      rw [h2, h3]
      exact ⟨oc25_, aorr26_, caprr27_, aoout28_, rfl, h29_, h30_, T40_, N41_, N43_, h34_, (by assumption)⟩
  · -- no
    replace c12_ : ¬ ((r.num 1 : Int) > (most : Int)) := of_decide_eq_false c12_
    refine c_skip (by kernel_rfl) ?_
    refine then_n ?_
    refine c_seq [1, 1, 1, 0] [1, 1, 1, 1] (by kernel_rfl) ?_
    refine c_seq [1, 1, 1, 0, 0] [1, 1, 1, 0, 1] (by kernel_rfl) ?_
    refine c_reg 4 rtext_c_R4 (by kernel_rfl) ?_
    refine at_pures 3 (by kernel_rfl) (by kernel_rfl) ?_
    refine at_load1 40 (.tmp 16) br 1 _ _ _ (.int .i64 ((r.take 1).e : Int)) (by kernel_rfl) (by kernel_rfl) (by kernel_rfl) (by kernel_rfl) (RrAt.blk h3_) (by kernel_rfl) ?_
    refine at_pures 5 (by kernel_rfl) (by kernel_rfl) ?_
    refine at_done (by kernel_rfl) ?_
    refine then_n ?_
    refine c_if (.tmp 18) (((r.take 1).e : Int) != (0 : Int)) [1, 1, 1, 0, 1, 0] [1, 1, 1, 0, 1, 1] (by kernel_rfl) (by kernel_rfl) (fun c44_ => ?_) (fun c44_ => ?_)
    · -- yes
      replace c44_ : ((r.take 1).e : Int) ≠ (0 : Int) := by simpa using c44_
      refine c_seq [1, 1, 1, 0, 1, 0, 0] [1, 1, 1, 0, 1, 0, 1] (by kernel_rfl) ?_
      refine c_reg 5 rtext_c_R5 (by kernel_rfl) ?_
      refine at_pures 1 (by kernel_rfl) (by kernel_rfl) ?_
      refine at_done (by kernel_rfl) ?_
      refine then_n ?_
      refine c_ret (by kernel_rfl) ?_
      refine then_r ?_
      refine fin_ret (.slice none 0 0) (by kernel_rfl) (by kernel_rfl) ?_
      have h1 : r.text1 most = (r.take 1) := if_neg (by omega)
      have h2 : r.textR most = (r.take 1) := by unfold Rs.textR; rw [h1]; exact if_neg (by omega)
      have h3 : r.text most = [] := by unfold Rs.text; rw [h1]; exact if_neg (by omega)
      rw [h2, h3]
      exact ⟨0, aorr1_, caprr2_, none, rfl, h3_, (Rd.nil _ _), T10_, N11_, (Sub.toNew Sub.nil), (Sub.dis (T := N0) Sub.nil Dis.n0'), (Nat.le_refl _)⟩
    · -- no
      replace c44_ : ((r.take 1).e : Int) = (0 : Int) := by simpa using c44_
      refine c_skip (by kernel_rfl) ?_
      refine then_n ?_
      refine c_seq [1, 1, 1, 1, 0] [1, 1, 1, 1, 1] (by kernel_rfl) ?_
      refine c_reg 6 rtext_c_R6 (by kernel_rfl) ?_
      refine at_pures 2 (by kernel_rfl) (by kernel_rfl) ?_
      refine at_do (by kernel_rfl) (op_call 67 #[(.tmp 19), (.tmp 20)] #[(.pointer (some ⟨br, 0, none⟩)), (.int .i64 (r.num 1 : Int))] (by kernel_rfl) (by kernel_rfl) (by kernel_rfl) ?_)
      have C59_ := take_c br aorr1_ caprr2_ (r.take 1) (r.num 1) w6_ h3_  
      refine Calls.mono C59_ ?_
      rintro e58_ w56_ ⟨oc45_, aorr46_, caprr47_, aoout48_, rfl, h49_, h50_, F57_, h52_, h53_, h54_, h55_⟩
      refine ⟨_, rfl, ?_⟩
      have T60_ := Fr.then T10_ F57_ (New.refl w (One br))
      have N61_ := New.trans N11_ h52_ (Fr.size T10_)
      have N63_ := New.trans N11_ h53_ (Fr.size T10_)
      refine at_pures 4 (by kernel_rfl) (by kernel_rfl) ?_
      refine at_done (by kernel_rfl) ?_
      refine then_n ?_
      refine c_ret (by kernel_rfl) ?_
      refine fin_ret (.slice aoout48_ (((r.take 1).out (r.num 1)).length) oc45_) (by kernel_rfl) (by kernel_rfl) ?_
      have h1 : r.text1 most = (r.take 1) := if_neg (by omega)
      have h2 : r.textR most = (r.take 1).take (r.num 1) := by unfold Rs.textR; rw [h1]; exact if_pos (by omega)
      have h3 : r.text most = (r.take 1).out (r.num 1) := by unfold Rs.text; rw [h1]; exact if_pos (by omega)
      rw [h2, h3]
      exact ⟨oc45_, aorr46_, caprr47_, aoout48_, rfl, h49_, h50_, T60_, N61_, N63_, h54_, (by assumption)⟩


noncomputable def rend_c_R0 : Array Oper := rAt Tryd.prog 54 [0]
noncomputable def rend_c_R1 : Array Oper := rAt Tryd.prog 54 [1, 0, 0]
noncomputable def rend_c_R2 : Array Oper := rAt Tryd.prog 54 [1, 0, 1, 0, 0]
noncomputable def rend_c_R3 : Array Oper := rAt Tryd.prog 54 [1, 1, 0]
set_option maxRecDepth 100000 in
theorem rend_c (br : Nat) (ao : Option Addr) (cap : Nat) (r : Rs) (w : World) (h_rr : RrAt 113 w br ao cap r) :
    Calls Tryd.prog 54 #[(.pointer (some ⟨br, 0, none⟩))] w fun e w' => e = .returned (.int .i64 (r.end : Int)) ∧ Fr w w' N0 := by
  refine c_enter (mk 20 [(0, (.pointer (some ⟨br, 0, none⟩)))] (fun _ => undef)) Tryd.func54 (by kernel_rfl) (by kernel_rfl) ?_
  refine c_seq [0] [1] (by kernel_rfl) ?_
  refine c_reg 0 rend_c_R0 (by kernel_rfl) ?_
  refine at_pures 1 (by kernel_rfl) (by kernel_rfl) ?_
  refine at_done (by kernel_rfl) ?_
  refine then_n ?_
  refine c_seq [1, 0] [1, 1] (by kernel_rfl) ?_
  refine c_seq [1, 0, 0] [1, 0, 1] (by kernel_rfl) ?_
  refine c_reg 1 rend_c_R1 (by kernel_rfl) ?_
  refine at_pures 3 (by kernel_rfl) (by kernel_rfl) ?_
  refine at_load1 40 (.tmp 5) br 1 _ _ _ (.int .i64 (r.e : Int)) (by kernel_rfl) (by kernel_rfl) (by kernel_rfl) (by kernel_rfl) (RrAt.blk h_rr) (by kernel_rfl) ?_
  refine at_pures 5 (by kernel_rfl) (by kernel_rfl) ?_
  refine at_split ((r.e : Int) == (0 : Int)) (by kernel_rfl) (by kernel_rfl) (fun c1_ => ?_) (fun c1_ => ?_)
  · -- yes
    replace c1_ : (r.e : Int) = (0 : Int) := by simpa using c1_
    refine at_pures 9 (by kernel_rfl) (by kernel_rfl) ?_
    refine at_load1 22 (.tmp 11) br 0 _ _ _ (.slice ao r.l.length cap) (by kernel_rfl) (by kernel_rfl) (by kernel_rfl) (by kernel_rfl) (RrAt.blk h_rr) (by kernel_rfl) ?_
    refine at_pures 13 (by kernel_rfl) (by kernel_rfl) ?_
    refine at_done (by kernel_rfl) ?_
    refine then_n ?_
    refine c_if (.tmp 15) (decide ((r.l.length : Int) > (0 : Int))) [1, 0, 1, 0] [1, 0, 1, 1] (by kernel_rfl) (by kernel_rfl) (fun c2_ => ?_) (fun c2_ => ?_)
    · -- yes
      replace c2_ : (r.l.length : Int) > (0 : Int) := of_decide_eq_true c2_
      refine c_seq [1, 0, 1, 0, 0] [1, 0, 1, 0, 1] (by kernel_rfl) ?_
      refine c_reg 2 rend_c_R2 (by kernel_rfl) ?_
      refine at_pures 1 (by kernel_rfl) (by kernel_rfl) ?_
      refine at_done (by kernel_rfl) ?_
      refine then_n ?_
      refine c_ret (by kernel_rfl) ?_
      refine then_r ?_
      refine fin_ret (.int .i64 4) (by kernel_rfl) (by kernel_rfl) ?_
      exact ⟨(by first | rw [show r.end = 4 from if_pos (by omega)]; rfl | rw [show r.end = r.e from if_neg (by omega)]), (Fr.refl w N0)⟩
    · -- no
      replace c2_ : ¬ ((r.l.length : Int) > (0 : Int)) := of_decide_eq_false c2_
      refine c_skip (by kernel_rfl) ?_
      refine then_n ?_
      refine c_seq [1, 1, 0] [1, 1, 1] (by kernel_rfl) ?_
      refine c_reg 3 rend_c_R3 (by kernel_rfl) ?_
      refine at_pures 3 (by kernel_rfl) (by kernel_rfl) ?_
      refine at_load1 40 (.tmp 18) br 1 _ _ _ (.int .i64 (r.e : Int)) (by kernel_rfl) (by kernel_rfl) (by kernel_rfl) (by kernel_rfl) (RrAt.blk h_rr) (by kernel_rfl) ?_
      refine at_pures 5 (by kernel_rfl) (by kernel_rfl) ?_
      refine at_done (by kernel_rfl) ?_
      refine then_n ?_
      refine c_ret (by kernel_rfl) ?_
      refine fin_ret (.int .i64 (r.e : Int)) (by kernel_rfl) (by kernel_rfl) ?_
      exact ⟨(by first | rw [show r.end = 4 from if_pos (by omega)]; rfl | rw [show r.end = r.e from if_neg (by omega)]), (Fr.refl w N0)⟩
  · -- no
    replace c1_ : (r.e : Int) ≠ (0 : Int) := by simpa using c1_
    refine at_pures 13 (by kernel_rfl) (by kernel_rfl) ?_
    refine at_done (by kernel_rfl) ?_
    refine then_n ?_
    refine c_else (.tmp 15) [1, 0, 1, 0] [1, 0, 1, 1] (by kernel_rfl) (by kernel_rfl) ?_
    refine c_skip (by kernel_rfl) ?_
    refine then_n ?_
    refine c_seq [1, 1, 0] [1, 1, 1] (by kernel_rfl) ?_
    refine c_reg 3 rend_c_R3 (by kernel_rfl) ?_
    refine at_pures 3 (by kernel_rfl) (by kernel_rfl) ?_
    refine at_load1 40 (.tmp 18) br 1 _ _ _ (.int .i64 (r.e : Int)) (by kernel_rfl) (by kernel_rfl) (by kernel_rfl) (by kernel_rfl) (RrAt.blk h_rr) (by kernel_rfl) ?_
    refine at_pures 5 (by kernel_rfl) (by kernel_rfl) ?_
    refine at_done (by kernel_rfl) ?_
    refine then_n ?_
    refine c_ret (by kernel_rfl) ?_
    refine fin_ret (.int .i64 (r.e : Int)) (by kernel_rfl) (by kernel_rfl) ?_
    exact ⟨(by first | rw [show r.end = 4 from if_pos (by omega)]; rfl | rw [show r.end = r.e from if_neg (by omega)]), (Fr.refl w N0)⟩

noncomputable def rnew_c_R0 : Array Oper := rAt Tryd.prog 50 [0]
noncomputable def rnew_c_R1 : Array Oper := rAt Tryd.prog 50 [1, 0]
set_option maxRecDepth 100000 in
theorem rnew_c (s : Value) (l : List Nat) (w : World) (h_s : SlV w s l.length (B l)) (hl : l.length ≤ 2000000) :
    Calls Tryd.prog 50 #[s] w fun e w' => ∃ (b' : Nat), ∃ (ao_rr' : Option Addr), ∃ (cap_rr' : Nat), e = .returned (.pointer (some ⟨b', 0, none⟩)) ∧ RrAt 113 w' b' ao_rr' cap_rr' (Rs.mk 0 l) ∧ Fr w w' N0 ∧ New w N0 (rrS b' ao_rr' (Rs.mk 0 l)) := by
  obtain ⟨ao_s, cap_s, rfl, h_s⟩ := h_s
  refine c_enter (mk 7 [(0, (.slice ao_s l.length cap_s))] (fun _ => undef)) Tryd.func50 (by kernel_rfl) (by kernel_rfl) ?_
  refine c_seq [0] [1] (by kernel_rfl) ?_
  refine c_reg 0 rnew_c_R0 (by kernel_rfl) ?_
  refine at_pures 1 (by kernel_rfl) (by kernel_rfl) ?_
  refine at_done (by kernel_rfl) ?_
  refine then_n ?_
  refine c_seq [1, 0] [1, 1] (by kernel_rfl) ?_
  refine c_reg 1 rnew_c_R1 (by kernel_rfl) ?_
  refine at_pures 1 (by kernel_rfl) (by kernel_rfl) ?_
  refine at_do (by kernel_rfl) (op_call 64 #[(.tmp 3)] #[(.slice ao_s l.length cap_s)] (by kernel_rfl) (by kernel_rfl) (by kernel_rfl) ?_)
  have C7_ := clone_c (.slice ao_s l.length cap_s) l w (by omega) ⟨_, _, rfl, h_s⟩
  refine Calls.mono C7_ ?_
  rintro e6_ w4_ ⟨v1_, rfl, h2_, F5_, N3_⟩
  refine ⟨_, rfl, ?_⟩
  have d8_ : Dis (Own v1_) (Ar ao_s (B l)) := Dis.fresh N3_ (Rd.in h_s)
  have N9_ : New w N0 (Own v1_) := New.later' N3_ (Fr.size (Fr.refl w N0))
  have T10_ := Fr.tr (Fr.refl w N0) F5_
  obtain ⟨ao11_, cap12_, rfl, hc13_, hm14_, hR15_, ho16_⟩ := Row.read h2_
  refine at_pures 3 (by kernel_rfl) (by kernel_rfl) ?_
  refine at_do (by kernel_rfl) (op_new (.cells #[(.slice ao11_ l.length cap12_), (.int .i64 0)] 113) (fun N => (.pointer (some ⟨N, 0, none⟩))) (fun _ => by kernel_rfl) (fun w18_ b17_ h19_ q20_ F21_ => ?_))
  have h22_ := Rd.keep' h_s F5_ Dis.n0
  have d23_ : Dis (One b17_) (Ar ao_s (B l)) := Dis.fresh (New.one q20_) (Rd.in h22_)
  have d24_ : Dis (One b17_) (Own (.slice ao11_ l.length cap12_)) := Dis.fresh (New.one q20_) (Row.in h2_)
  have N25_ : New w N0 (One b17_) := New.made q20_ (Fr.size T10_)
  have T26_ := Fr.tr T10_ F21_
  refine at_pures 5 (by kernel_rfl) (by kernel_rfl) ?_
  refine at_done (by kernel_rfl) ?_
  refine then_n ?_
  refine c_ret (by kernel_rfl) ?_
  refine fin_ret (.pointer (some ⟨b17_, 0, none⟩)) (by kernel_rfl) (by kernel_rfl) ?_
  have h27_ := Rd.keep' h22_ F21_ Dis.n0
  have h28_ := Row.keep h2_ F21_ Dis.n0
  have h29_ := RrAt.made h19_ h28_ (Dis.sym d24_)
  exact ⟨b17_, ao11_, cap12_, rfl, h29_, T26_, (New.two N25_ (Sub.new (Row.ar h28_) N9_))⟩
end Go.Proofs.YtboggbknebepdaaDoor
