/- The walks of the wire's reader. -/
import Derived.Test.YtmnehhpfbmoahaaDoorWW
namespace Go.Proofs.YtmnehhpfbmoahaaDoor
open Go Go.RowKit Go.Alm
noncomputable def wrong_c_R0 : Array Oper := rAt Tryd.prog 176 [0]
noncomputable def wrong_c_R1 : Array Oper := rAt Tryd.prog 176 [1, 0]
set_option maxRecDepth 100000 in
theorem wrong_c (br : Nat) (ao : Option Addr) (cap : Nat) (r : Rs) (c : Nat) (w : World) (h_rr : RrAt 255 w br ao cap r) :
    Calls Tryd.prog 176 #[(.pointer (some ⟨br, 0, none⟩)), (.int .i64 (c : Int))] w fun e w' => ∃ (ao_rr' : Option Addr), ∃ (cap_rr' : Nat), e = .returned (.tuple #[]) ∧ RrAt 255 w' br ao_rr' cap_rr' (r.wrong c) ∧ Fr w w' (One br) ∧ New w (rrS br ao r) (rrS br ao_rr' (r.wrong c)) := by
  refine c_enter (mk 16 [(0, (.pointer (some ⟨br, 0, none⟩))), (1, (.int .i64 (c : Int)))] (fun _ => undef)) Tryd.func176 (by kernel_rfl) (by kernel_rfl) ?_
  refine c_seq [0] [1] (by kernel_rfl) ?_
  refine c_reg 0 wrong_c_R0 (by kernel_rfl) ?_
  refine at_pures 3 (by kernel_rfl) (by kernel_rfl) ?_
  refine at_load1 32 (.tmp 6) br 1 _ _ _ (.int .i64 (r.e : Int)) (by kernel_rfl) (by kernel_rfl) (by kernel_rfl) (by kernel_rfl) (RrAt.blk h_rr) (by kernel_rfl) ?_
  refine at_pures 5 (by kernel_rfl) (by kernel_rfl) ?_
  refine at_done (by kernel_rfl) ?_
  refine then_n ?_
  refine c_if (.tmp 8) ((r.e : Int) == (0 : Int)) [1, 0] [1, 1] (by kernel_rfl) (by kernel_rfl) (fun c1_ => ?_) (fun c1_ => ?_)
  · -- yes
    replace c1_ : (r.e : Int) = (0 : Int) := by simpa using c1_
    refine c_reg 1 wrong_c_R1 (by kernel_rfl) ?_
    refine at_pures 5 (by kernel_rfl) (by kernel_rfl) ?_
    have h2_ := RrAt.blk h_rr; have h3_ := RrAt.rd h_rr; have h4_ := RrAt.cap h_rr; have d5_ := RrAt.dis h_rr
    refine at_do (by kernel_rfl) (op_store 128 (.tmp 13) (.const (.slice none 0 0)) br 0 (.slice none 0 0) _ _ #[(.slice none 0 0), (.int .i64 (r.e : Int))] (by kernel_rfl) (by kernel_rfl) (by kernel_rfl) h2_ (by kernel_rfl) (by kernel_rfl) (by kernel_rfl) (by kernel_rfl) (fun w6_ h7_ z8_ F9_ => ?_))
    have T10_ := Fr.then (Fr.refl w (One br)) F9_ (New.refl w (One br))
    have h11_ := Rd.keep' h3_ F9_ d5_
    refine at_pures 8 (by kernel_rfl) (by kernel_rfl) ?_
    refine at_do (by kernel_rfl) (op_store 32 (.tmp 15) (.tmp 11) br 1 (.int .i64 (c : Int)) _ _ #[(.slice none 0 0), (.int .i64 (c : Int))] (by kernel_rfl) (by kernel_rfl) (by kernel_rfl) h7_ (by kernel_rfl) (by kernel_rfl) (by kernel_rfl) (by kernel_rfl) (fun w12_ h13_ z14_ F15_ => ?_))
    have T16_ := Fr.then T10_ F15_ (New.refl w (One br))
    have h17_ := Rd.keep' h11_ F15_ d5_
    refine at_done (by kernel_rfl) ?_
    refine fin_end (.tuple #[]) (by kernel_rfl) (by kernel_rfl) ?_
    rw [show r.wrong c = Rs.mk c [] from if_pos (by omega)]
    have h18_ : RrAt 255 w12_ br none 0 (Rs.mk c []) := ⟨h13_, (Nat.le_refl 0), (Rd.nil _ _), Sub.dis (show Sub (Ar none (B [])) (Ar ao (B r.l)) from Sub.nil) d5_⟩
    exact ⟨none, 0, rfl, h18_, T16_, (show New w (rrS br ao r) (rrS br none (Rs.mk c [])) from Sub.toNew (Sub.or Sub.inl (Sub.trans (show Sub (Ar none (B [])) (Ar ao (B r.l)) from Sub.nil) Sub.inr)))⟩
  · -- no
    replace c1_ : (r.e : Int) ≠ (0 : Int) := by simpa using c1_
    refine c_skip (by kernel_rfl) ?_
    refine fin_end (.tuple #[]) (by kernel_rfl) (by kernel_rfl) ?_
    rw [show r.wrong c = r from if_neg (by omega)]
    exact ⟨ao, cap, rfl, h_rr, (Fr.refl w (One br)), (New.refl w (rrS br ao r))⟩

noncomputable def take_c_R0 : Array Oper := rAt Tryd.prog 162 [0]
noncomputable def take_c_R1 : Array Oper := rAt Tryd.prog 162 [1, 0, 0]
noncomputable def take_c_R2 : Array Oper := rAt Tryd.prog 162 [1, 0, 1, 0, 0]
noncomputable def take_c_R3 : Array Oper := rAt Tryd.prog 162 [1, 0, 1, 0, 1, 0]
noncomputable def take_c_R4 : Array Oper := rAt Tryd.prog 162 [1, 1, 0]
noncomputable def take_c_R5 : Array Oper := rAt Tryd.prog 162 [1, 1, 1, 0]
noncomputable def take_c_R6 : Array Oper := rAt Tryd.prog 162 [1, 1, 1, 1, 0]
set_option maxRecDepth 100000 in
theorem take_c (br : Nat) (ao : Option Addr) (cap : Nat) (r : Rs) (m : Nat) (w : World) (h_rr : RrAt 255 w br ao cap r) :
    Calls Tryd.prog 162 #[(.pointer (some ⟨br, 0, none⟩)), (.int .i64 (m : Int))] w fun e w' => ∃ (oc : Nat), ∃ (ao_rr' : Option Addr), ∃ (cap_rr' : Nat), ∃ (ao_out' : Option Addr), e = .returned (.slice ao_out' ((r.out m).length) oc) ∧ RrAt 255 w' br ao_rr' cap_rr' (r.take m) ∧ Rd w' ao_out' (B (r.out m)) ∧ Fr w w' (One br) ∧ New w (rrS br ao r) (rrS br ao_rr' (r.take m)) ∧ New w (rrS br ao r) (Ar ao_out' (B (r.out m))) ∧ Dis (Ar ao_out' (B (r.out m))) (One br) ∧ (r.out m).length ≤ oc := by
  have hcap := h_rr.cap
  refine c_enter (mk 32 [(0, (.pointer (some ⟨br, 0, none⟩))), (1, (.int .i64 (m : Int)))] (fun _ => undef)) Tryd.func162 (by kernel_rfl) (by kernel_rfl) ?_
  refine c_seq [0] [1] (by kernel_rfl) ?_
  refine c_reg 0 take_c_R0 (by kernel_rfl) ?_
  refine at_pures 1 (by kernel_rfl) (by kernel_rfl) ?_
  refine at_done (by kernel_rfl) ?_
  refine then_n ?_
  refine c_seq [1, 0] [1, 1] (by kernel_rfl) ?_
  refine c_seq [1, 0, 0] [1, 0, 1] (by kernel_rfl) ?_
  refine c_reg 1 take_c_R1 (by kernel_rfl) ?_
  refine at_pures 4 (by kernel_rfl) (by kernel_rfl) ?_
  refine at_load1 128 (.tmp 9) br 0 _ _ _ (.slice ao r.l.length cap) (by kernel_rfl) (by kernel_rfl) (by kernel_rfl) (by kernel_rfl) (RrAt.blk h_rr) (by kernel_rfl) ?_
  refine at_pures 7 (by kernel_rfl) (by kernel_rfl) ?_
  refine at_done (by kernel_rfl) ?_
  refine then_n ?_
  refine c_if (.tmp 12) (decide ((m : Int) > (r.l.length : Int))) [1, 0, 1, 0] [1, 0, 1, 1] (by kernel_rfl) (by kernel_rfl) (fun c1_ => ?_) (fun c1_ => ?_)
  · -- yes
    replace c1_ : (m : Int) > (r.l.length : Int) := of_decide_eq_true c1_
    refine c_seq [1, 0, 1, 0, 0] [1, 0, 1, 0, 1] (by kernel_rfl) ?_
    refine c_reg 2 take_c_R2 (by kernel_rfl) ?_
    refine at_pures 1 (by kernel_rfl) (by kernel_rfl) ?_
    refine at_do (by kernel_rfl) (op_call 176 #[(.tmp 13), (.const (.int .i64 3))] #[(.pointer (some ⟨br, 0, none⟩)), (.int .i64 3)] (by kernel_rfl) (by kernel_rfl) (by kernel_rfl) ?_)
    have C10_ := wrong_c br ao cap r 3 w h_rr  
    refine Calls.mono C10_ ?_
    rintro e9_ w7_ ⟨aorr2_, caprr3_, rfl, h4_, F8_, h6_⟩
    refine ⟨_, rfl, ?_⟩
    have T11_ := Fr.then (Fr.refl w (One br)) F8_ (New.refl w (One br))
    have N12_ := New.trans (New.refl w (rrS br ao r)) h6_ (Fr.size (Fr.refl w (One br)))
    refine at_done (by kernel_rfl) ?_
    refine then_n ?_
    refine c_seq [1, 0, 1, 0, 1, 0] [1, 0, 1, 0, 1, 1] (by kernel_rfl) ?_
    refine c_reg 3 take_c_R3 (by kernel_rfl) ?_
    refine at_pures 1 (by kernel_rfl) (by kernel_rfl) ?_
    refine at_done (by kernel_rfl) ?_
    refine then_n ?_
    refine c_ret (by kernel_rfl) ?_
    refine then_r ?_
    refine fin_ret (.slice none 0 0) (by kernel_rfl) (by kernel_rfl) ?_
    have hq : r.out m = [] := if_pos (by omega)
    rw [show r.take m = r.wrong 3 from if_pos (by omega), hq]
    exact ⟨0, aorr2_, caprr3_, none, rfl, h4_, (Rd.nil _ _), T11_, N12_, (Sub.toNew Sub.nil), (Sub.dis (T := N0) Sub.nil Dis.n0'), (Nat.le_refl _)⟩
  · -- no
    replace c1_ : ¬ ((m : Int) > (r.l.length : Int)) := of_decide_eq_false c1_
    refine c_skip (by kernel_rfl) ?_
    refine then_n ?_
    refine c_seq [1, 1, 0] [1, 1, 1] (by kernel_rfl) ?_
    refine c_reg 4 take_c_R4 (by kernel_rfl) ?_
    refine at_pures 3 (by kernel_rfl) (by kernel_rfl) ?_
    refine at_load1 128 (.tmp 17) br 0 _ _ _ (.slice ao r.l.length cap) (by kernel_rfl) (by kernel_rfl) (by kernel_rfl) (by kernel_rfl) (RrAt.blk h_rr) (by kernel_rfl) ?_
    refine at_pures 6 (by kernel_rfl) (by kernel_rfl) ?_
    refine at_run (.slice (cutA ao 0 m 1) m m) _ (by kernel_rfl) (run_cut 128 (.tmp 18) none (some (.tmp 19)) (some (.tmp 20)) 1 ao r.l.length cap 0 m m (by kernel_rfl) (by kernel_rfl) (by kernel_rfl) (by kernel_rfl) (by kernel_rfl) (by kernel_rfl) (by kernel_rfl) (by kernel_rfl) (by omega) (by omega) (by omega)) ?_
    refine at_pures 8 (by kernel_rfl) (by kernel_rfl) ?_
    refine at_done (by kernel_rfl) ?_
    refine then_n ?_
    refine c_seq [1, 1, 1, 0] [1, 1, 1, 1] (by kernel_rfl) ?_
    refine c_reg 5 take_c_R5 (by kernel_rfl) ?_
    refine at_pures 4 (by kernel_rfl) (by kernel_rfl) ?_
    refine at_load1 128 (.tmp 25) br 0 _ _ _ (.slice ao r.l.length cap) (by kernel_rfl) (by kernel_rfl) (by kernel_rfl) (by kernel_rfl) (RrAt.blk h_rr) (by kernel_rfl) ?_
    refine at_pures 6 (by kernel_rfl) (by kernel_rfl) ?_
    refine at_run (.slice (cutA ao m cap 1) (r.l.length - m) (cap - m)) _ (by kernel_rfl) (run_cut 128 (.tmp 26) (some (.tmp 27)) none none 1 ao r.l.length cap m r.l.length cap (by kernel_rfl) (by kernel_rfl) (by kernel_rfl) (by kernel_rfl) (by kernel_rfl) (by kernel_rfl) (by kernel_rfl) (by kernel_rfl) (by omega) (by omega) (by omega)) ?_
    refine at_pures 9 (by kernel_rfl) (by kernel_rfl) ?_
    have h13_ := RrAt.blk h_rr; have h14_ := RrAt.rd h_rr; have h15_ := RrAt.cap h_rr; have d16_ := RrAt.dis h_rr
    refine at_do (by kernel_rfl) (op_store 128 (.tmp 30) (.tmp 28) br 0 (.slice (cutA ao m cap 1) (r.l.length - m) (cap - m)) _ _ #[(.slice (cutA ao m cap 1) (r.l.length - m) (cap - m)), (.int .i64 (r.e : Int))] (by kernel_rfl) (by kernel_rfl) (by kernel_rfl) h13_ (by kernel_rfl) (by kernel_rfl) (by kernel_rfl) (by kernel_rfl) (fun w17_ h18_ z19_ F20_ => ?_))
    have T21_ := Fr.then (Fr.refl w (One br)) F20_ (New.refl w (One br))
    have h22_ := Rd.keep' h14_ F20_ d16_
    refine at_done (by kernel_rfl) ?_
    refine then_n ?_
    refine c_seq [1, 1, 1, 1, 0] [1, 1, 1, 1, 1] (by kernel_rfl) ?_
    refine c_reg 6 take_c_R6 (by kernel_rfl) ?_
    refine at_pures 2 (by kernel_rfl) (by kernel_rfl) ?_
    refine at_done (by kernel_rfl) ?_
    refine then_n ?_
    refine c_ret (by kernel_rfl) ?_
    refine fin_ret (.slice (cutA ao 0 m 1) m m) (by kernel_rfl) (by kernel_rfl) ?_
    have hq : r.out m = r.l.take m := if_neg (by omega)
    have hl : (r.l.take m).length = m := by rw [List.length_take]; omega
    rw [show r.take m = Rs.mk r.e (r.l.drop m) from if_neg (by omega), hq]
    have h23_ : Sub (Ar (cutA ao m cap 1) (B (r.l.drop m))) (Ar ao (B r.l)) := Sub.cut (B_ne fun h e => h (by rw [e, List.drop_nil]))
    have h24_ : Sub (Ar (cutA ao 0 m 1) (B (r.l.take m))) (Ar ao (B r.l)) := Sub.cut (B_ne fun h e => h (by rw [e, List.take_nil]))
    have h25_ : Rd w17_ (cutA ao m cap 1) (B (r.l.drop m)) := by have h := Rd.cut h22_ m (r.l.length - m) cap 1 (by omega); rwa [Nat.mul_one, Nat.mul_one, ← B_drop, ← B_take, List.take_of_length_le (by rw [List.length_drop]; omega)] at h
    have h26_ : Rd w17_ (cutA ao 0 m 1) (B (r.l.take m)) := by have h := Rd.cut h22_ 0 m m 1 (by omega); rwa [Nat.zero_mul, List.drop_zero, Nat.mul_one, ← B_take] at h
    have h27_ : RrAt 255 w17_ br (cutA ao m cap 1) (cap - m) (Rs.mk r.e (r.l.drop m)) := ⟨(by have h := h18_; rwa [← List.length_drop] at h), (by rw [List.length_drop]; omega), h25_, Sub.dis h23_ d16_⟩
    exact ⟨m, (cutA ao m cap 1), (cap - m), (cutA ao 0 m 1), (by rw [hl]), h27_, h26_, T21_, (show New w (rrS br ao r) (rrS br (cutA ao m cap 1) (Rs.mk r.e (r.l.drop m))) from Sub.toNew (Sub.or Sub.inl (Sub.trans h23_ Sub.inr))), (Sub.toNew (Sub.trans h24_ Sub.inr)), (Sub.dis h24_ d16_), (by rw [hl]; exact Nat.le_refl _)⟩

noncomputable def number_c_R0 : Array Oper := rAt Tryd.prog 163 [0]
noncomputable def number_c_R1 : Array Oper := rAt Tryd.prog 163 [1, 0]
noncomputable def number_c_R2 : Array Oper := rAt Tryd.prog 163 [1, 1, 0, 0]
noncomputable def number_c_R3 : Array Oper := rAt Tryd.prog 163 [1, 1, 0, 1, 0, 0, 0]
noncomputable def number_c_R4 : Array Oper := rAt Tryd.prog 163 [1, 1, 0, 1, 0, 0, 1, 1, 0, 0, 0]
noncomputable def number_c_R5 : Array Oper := rAt Tryd.prog 163 [1, 1, 0, 1, 0, 0, 1, 1, 0, 0, 1]
noncomputable def number_c_R6 : Array Oper := rAt Tryd.prog 163 [1, 1, 0, 1, 0, 0, 1, 1, 1]
noncomputable def number_c_R7 : Array Oper := rAt Tryd.prog 163 [1, 1, 1, 0]
set_option maxRecDepth 100000 in
theorem number_c (br : Nat) (ao : Option Addr) (cap : Nat) (r : Rs) (size : Nat) (w : World) (h_rr : RrAt 255 w br ao cap r) (hs : size ≤ 8) (hB : Byt r.l) :
    Calls Tryd.prog 163 #[(.pointer (some ⟨br, 0, none⟩)), (.int .i64 (size : Int))] w fun e w' => ∃ (ao_rr' : Option Addr), ∃ (cap_rr' : Nat), e = .returned (.int .u64 (r.num size : Int)) ∧ RrAt 255 w' br ao_rr' cap_rr' (r.take size) ∧ Fr w w' (One br) ∧ New w (rrS br ao r) (rrS br ao_rr' (r.take size)) := by
  have hol := out_length_le r size; have hg := getD_lt (hB.out size)
  refine c_enter (mk 23 [(0, (.pointer (some ⟨br, 0, none⟩))), (1, (.int .i64 (size : Int)))] (fun _ => undef)) Tryd.func163 (by kernel_rfl) (by kernel_rfl) ?_
  refine c_seq [0] [1] (by kernel_rfl) ?_
  refine c_reg 0 number_c_R0 (by kernel_rfl) ?_
  refine at_pures 1 (by kernel_rfl) (by kernel_rfl) ?_
  refine at_done (by kernel_rfl) ?_
  refine then_n ?_
  refine c_seq [1, 0] [1, 1] (by kernel_rfl) ?_
  refine c_reg 1 number_c_R1 (by kernel_rfl) ?_
  refine at_pures 1 (by kernel_rfl) (by kernel_rfl) ?_
  refine at_done (by kernel_rfl) ?_
  refine then_n ?_
  refine c_seq [1, 1, 0] [1, 1, 1] (by kernel_rfl) ?_
  refine c_seq [1, 1, 0, 0] [1, 1, 0, 1] (by kernel_rfl) ?_
  refine c_reg 2 number_c_R2 (by kernel_rfl) ?_
  refine at_pures 2 (by kernel_rfl) (by kernel_rfl) ?_
  refine at_do (by kernel_rfl) (op_call 162 #[(.tmp 8), (.tmp 9)] #[(.pointer (some ⟨br, 0, none⟩)), (.int .i64 (size : Int))] (by kernel_rfl) (by kernel_rfl) (by kernel_rfl) ?_)
  have C15_ := take_c br ao cap r size w h_rr  
  refine Calls.mono C15_ ?_
  rintro e14_ w12_ ⟨oc1_, aorr2_, caprr3_, aoout4_, rfl, h5_, h6_, F13_, h8_, h9_, h10_, h11_⟩
  refine ⟨_, rfl, ?_⟩
  have T16_ := Fr.then (Fr.refl w (One br)) F13_ (New.refl w (One br))
  have N17_ := New.trans (New.refl w (rrS br ao r)) h8_ (Fr.size (Fr.refl w (One br)))
  have N19_ := New.trans (New.refl w (rrS br ao r)) h9_ (Fr.size (Fr.refl w (One br)))
  refine at_pures 5 (by kernel_rfl) (by kernel_rfl) ?_
  refine at_done (by kernel_rfl) ?_
  refine then_n ?_
  refine c_block 0 [1, 1, 0, 1, 0] (by kernel_rfl) ?_
  refine c_loop (fun a w' => ∃ (k : Nat), (∃ u, a = mk 23 [(0, (.pointer (some ⟨br, 0, none⟩))), (1, (.int .i64 (size : Int))), (4, (.int .u64 0)), (5, (.int .u64 (num ((r.out size).take k) : Int))), (8, (.pointer (some ⟨br, 0, none⟩))), (9, (.int .i64 (size : Int))), (10, (.slice aoout4_ ((r.out size).length) oc1_)), (11, (.int .i64 ((r.out size).length : Int))), (12, (.int .i64 (k : Int)))] u) ∧ (k ≤ (r.out size).length) ∧ (RrAt 255 w' br aorr2_ caprr3_ (r.take size)) ∧ (Rd w' aoout4_ (B (r.out size))) ∧ (Fr w w' (One br))) (fun a _ => cnt ((r.out size).length) 12 a) [1, 1, 0, 1, 0, 0] (by kernel_rfl) ⟨0, is_mk (by kernel_rfl) (by kernel_rfl) (by kernel_rfl), ⟨Nat.zero_le _, h5_, h6_, T16_⟩⟩ ?_
  rintro a21_ w22_ ⟨k, ⟨u23_, rfl⟩, ⟨hk, q_0L20_, q_1L20_, hFrL20_⟩⟩
  refine c_seq [1, 1, 0, 1, 0, 0, 0] [1, 1, 0, 1, 0, 0, 1] (by kernel_rfl) ?_
  refine c_reg 3 number_c_R3 (by kernel_rfl) ?_
  refine at_pures 1 (by kernel_rfl) (by kernel_rfl) ?_
  refine at_done (by kernel_rfl) ?_
  refine then_n ?_
  refine c_seq [1, 1, 0, 1, 0, 0, 1, 0] [1, 1, 0, 1, 0, 0, 1, 1] (by kernel_rfl) ?_
  refine c_if (.tmp 13) (decide ((k : Int) < ((r.out size).length : Int))) [1, 1, 0, 1, 0, 0, 1, 0, 0] [1, 1, 0, 1, 0, 0, 1, 0, 1] (by kernel_rfl) (by kernel_rfl) (fun c24_ => ?_) (fun c24_ => ?_)
  · -- yes
    replace c24_ : (k : Int) < ((r.out size).length : Int) := of_decide_eq_true c24_
    refine c_skip (by kernel_rfl) ?_
    refine then_n ?_
    refine c_seq [1, 1, 0, 1, 0, 0, 1, 1, 0] [1, 1, 0, 1, 0, 0, 1, 1, 1] (by kernel_rfl) ?_
    refine c_block 1 [1, 1, 0, 1, 0, 0, 1, 1, 0, 0] (by kernel_rfl) ?_
    refine c_seq [1, 1, 0, 1, 0, 0, 1, 1, 0, 0, 0] [1, 1, 0, 1, 0, 0, 1, 1, 0, 0, 1] (by kernel_rfl) ?_
    refine c_reg 4 number_c_R4 (by kernel_rfl) ?_
    obtain ⟨ad25_, ha26_⟩ := q_1L20_.has (k * 1) (by rw [B_length]; omega)
    refine at_run (.pointer (some (ad25_.add (k * 1)))) _ (by kernel_rfl) (run_idx_o 128 (.tmp 10) (.tmp 12) 1 aoout4_ ad25_ ((r.out size).length) oc1_ .i64 k (by kernel_rfl) (by kernel_rfl) (by kernel_rfl) (by kernel_rfl) (by kernel_rfl) ha26_ (by omega)) ?_
    refine at_run (.int .u8 (((r.out size).getD k 0 : Nat) : Int)) _ (by kernel_rfl) (run_loadE1 5 (.tmp 14) aoout4_ ad25_ (k * 1) (B (r.out size)) (.int .u8 (((r.out size).getD k 0 : Nat) : Int)) (by kernel_rfl) (by kernel_rfl) (by kernel_rfl) ha26_ q_1L20_ (by rw [Nat.mul_one]; exact B_getD _ _ (by first | omega | (simp only [List.length_take, List.length_drop]; omega)))) ?_
    refine at_pures 3 (by kernel_rfl) (by kernel_rfl) ?_
    refine at_done (by kernel_rfl) ?_
    refine then_n ?_
    refine c_reg 5 number_c_R5 (by kernel_rfl) ?_
    refine at_pures 1 (by kernel_rfl) (by kernel_rfl) ?_
    refine at_int (kd := .u64) (IntKind.u64.wrap ((num ((r.out size).take k) : Int) * 2 ^ 8)) (((num ((r.out size).take k) * 256 : Nat) : Int)) (by kernel_rfl) (by kernel_rfl) (shl_step (num_take_lt (hB.out size) (by omega))) ?_
    refine at_pures 3 (by kernel_rfl) (by kernel_rfl) ?_
    refine at_int (kd := .u64) (IntKind.u64.wrap ((((r.out size).getD k 0 : Nat) : Int))) ((((r.out size).getD k 0 : Nat) : Int)) (by kernel_rfl) (by kernel_rfl) (wrapN_u64 (by omega) (by have := hg k; omega)) ?_
    refine at_int (kd := .u64) (IntKind.u64.wrap (((BitVec.ofInt 64 ((num ((r.out size).take k) * 256 : Nat) : Int) ||| BitVec.ofInt 64 (((r.out size).getD k 0 : Nat) : Int)).toNat : Int))) ((num ((r.out size).take (k + 1)) : Int)) (by kernel_rfl) (by kernel_rfl) (num_step' (hB.out size) (by omega) (by omega)) ?_
    refine at_pures 6 (by kernel_rfl) (by kernel_rfl) ?_
    refine at_done (by kernel_rfl) ?_
    refine blk_n ?_
    refine then_n ?_
    refine c_reg 6 number_c_R6 (by kernel_rfl) ?_
    refine at_int (kd := .i64) (IntKind.i64.wrap ((k : Int) + (1 : Int))) ((k : Int) + (1 : Int)) (by kernel_rfl) (by kernel_rfl) (wrapN_i64 (by omega) (by omega)) ?_
    refine at_pures 2 (by kernel_rfl) (by kernel_rfl) ?_
    refine at_done (by kernel_rfl) ?_
    refine then_n ?_
    exact ⟨⟨k + 1, is_mk (by kernel_rfl) (by kernel_rfl) (by kernel_rfl), ⟨(by omega), q_0L20_, q_1L20_, hFrL20_⟩⟩, cnt_lt (k := (k : Int)) (k' := ((k : Int) + (1 : Int))) (by kernel_rfl) (by kernel_rfl) (by omega) (by omega)⟩
  · -- no
    replace c24_ : ¬ ((k : Int) < ((r.out size).length : Int)) := of_decide_eq_false c24_
    refine c_exit 0 (by kernel_rfl) ?_
    refine then_e ?_
    refine then_e ?_
    refine blk_hit ?_
    refine then_n ?_
    refine c_seq [1, 1, 1, 0] [1, 1, 1, 1] (by kernel_rfl) ?_
    refine c_reg 7 number_c_R7 (by kernel_rfl) ?_
    refine at_pures 2 (by kernel_rfl) (by kernel_rfl) ?_
    refine at_done (by kernel_rfl) ?_
    refine then_n ?_
    refine c_ret (by kernel_rfl) ?_
    refine fin_ret (.int .u64 (num ((r.out size).take k) : Int)) (by kernel_rfl) (by kernel_rfl) ?_
    exact ⟨aorr2_, caprr3_, (by rw [List.take_of_length_le (by omega)]; rfl), q_0L20_, hFrL20_, N17_⟩


noncomputable def rnum_c_R0 : Array Oper := rAt Tryd.prog 123 [0]
noncomputable def rnum_c_R1 : Array Oper := rAt Tryd.prog 123 [1, 0]
set_option maxRecDepth 100000 in
theorem rnum_c (br : Nat) (ao : Option Addr) (cap : Nat) (r : Rs) (w : World) (h_rr : RrAt 255 w br ao cap r) (hB : Byt r.l) :
    Calls Tryd.prog 123 #[(.pointer (some ⟨br, 0, none⟩))] w fun e w' => ∃ (ao_rr' : Option Addr), ∃ (cap_rr' : Nat), e = .returned (.int .u32 (r.num 4 : Int)) ∧ RrAt 255 w' br ao_rr' cap_rr' (r.take 4) ∧ Fr w w' (One br) ∧ New w (rrS br ao r) (rrS br ao_rr' (r.take 4)) := by
  have hn := Rs.num_lt hB (Nat.le_refl 4)
  refine c_enter (mk 6 [(0, (.pointer (some ⟨br, 0, none⟩)))] (fun _ => undef)) Tryd.func123 (by kernel_rfl) (by kernel_rfl) ?_
  refine c_seq [0] [1] (by kernel_rfl) ?_
  refine c_reg 0 rnum_c_R0 (by kernel_rfl) ?_
  refine at_pures 1 (by kernel_rfl) (by kernel_rfl) ?_
  refine at_done (by kernel_rfl) ?_
  refine then_n ?_
  refine c_seq [1, 0] [1, 1] (by kernel_rfl) ?_
  refine c_reg 1 rnum_c_R1 (by kernel_rfl) ?_
  refine at_pures 1 (by kernel_rfl) (by kernel_rfl) ?_
  refine at_do (by kernel_rfl) (op_call 163 #[(.tmp 3), (.const (.int .i64 4))] #[(.pointer (some ⟨br, 0, none⟩)), (.int .i64 4)] (by kernel_rfl) (by kernel_rfl) (by kernel_rfl) ?_)
  have C9_ := number_c br ao cap r 4 w h_rr  (by first | omega | with_reducible assumption | (simp only [List.length_append, List.length_cons, List.length_nil, putB_length]; omega) | decide) (by first | omega | with_reducible assumption | (simp only [List.length_append, List.length_cons, List.length_nil, putB_length]; omega) | decide)
  refine Calls.mono C9_ ?_
  rintro e8_ w6_ ⟨aorr1_, caprr2_, rfl, h3_, F7_, h5_⟩
  refine ⟨_, rfl, ?_⟩
  have T10_ := Fr.then (Fr.refl w (One br)) F7_ (New.refl w (One br))
  have N11_ := New.trans (New.refl w (rrS br ao r)) h5_ (Fr.size (Fr.refl w (One br)))
  refine at_int (kd := .u32) (IntKind.u32.wrap ((r.num 4 : Int))) ((r.num 4 : Int)) (by kernel_rfl) (by kernel_rfl) (wrapN_u32 (by omega) (by omega)) ?_
  refine at_pures 4 (by kernel_rfl) (by kernel_rfl) ?_
  refine at_done (by kernel_rfl) ?_
  refine then_n ?_
  refine c_ret (by kernel_rfl) ?_
  refine fin_ret (.int .u32 (r.num 4 : Int)) (by kernel_rfl) (by kernel_rfl) ?_
  exact ⟨aorr1_, caprr2_, rfl, h3_, T10_, N11_⟩


noncomputable def rhash_c_R0 : Array Oper := rAt Tryd.prog 122 [0]
noncomputable def rhash_c_R1 : Array Oper := rAt Tryd.prog 122 [1, 0]
noncomputable def rhash_c_R2 : Array Oper := rAt Tryd.prog 122 [1, 1, 0]
def rhash_c_sk2 : Nat → Bool := fun _ => false
def rhash_c_pl2 : List (Nat × PK) := [(0, .q false), (1, .q false), (2, .e), (3, .e)]
noncomputable def rhash_c_R3 : Array Oper := rAt Tryd.prog 122 [1, 1, 1, 0]
set_option maxRecDepth 100000 in
theorem rhash_c (br : Nat) (ao : Option Addr) (cap : Nat) (r : Rs) (w : World) (h_rr : RrAt 255 w br ao cap r) :
    Calls Tryd.prog 122 #[(.pointer (some ⟨br, 0, none⟩))] w fun e w' => ∃ (ao_rr' : Option Addr), ∃ (cap_rr' : Nat), e = .returned (.agg (hv r.hash)) ∧ RrAt 255 w' br ao_rr' cap_rr' (r.take 32) ∧ Fr w w' (One br) ∧ New w (rrS br ao r) (rrS br ao_rr' (r.take 32)) := by
  refine c_enter (mk 9 [(0, (.pointer (some ⟨br, 0, none⟩)))] (fun _ => undef)) Tryd.func122 (by kernel_rfl) (by kernel_rfl) ?_
  refine c_seq [0] [1] (by kernel_rfl) ?_
  refine c_reg 0 rhash_c_R0 (by kernel_rfl) ?_
  refine at_do (by kernel_rfl) (op_new (.cells #[(.int .u8 0), (.int .u8 0), (.int .u8 0), (.int .u8 0), (.int .u8 0), (.int .u8 0), (.int .u8 0), (.int .u8 0), (.int .u8 0), (.int .u8 0), (.int .u8 0), (.int .u8 0), (.int .u8 0), (.int .u8 0), (.int .u8 0), (.int .u8 0), (.int .u8 0), (.int .u8 0), (.int .u8 0), (.int .u8 0), (.int .u8 0), (.int .u8 0), (.int .u8 0), (.int .u8 0), (.int .u8 0), (.int .u8 0), (.int .u8 0), (.int .u8 0), (.int .u8 0), (.int .u8 0), (.int .u8 0), (.int .u8 0)] 23) (fun N => (.pointer (some ⟨N, 0, none⟩))) (fun _ => by kernel_rfl) (fun w2_ b1_ h3_ q4_ F5_ => ?_))
  have d6_ : Dis (One b1_) (rrS br ao r) := Dis.fresh (New.one q4_) (RrAt.in h_rr)
  have N7_ : New w (One br) (One b1_) := New.made q4_ (Fr.size (Fr.refl w (One br)))
  have T8_ := Fr.tr (Fr.refl w (One br)) F5_
  refine at_done (by kernel_rfl) ?_
  refine then_n ?_
  refine c_seq [1, 0] [1, 1] (by kernel_rfl) ?_
  refine c_reg 1 rhash_c_R1 (by kernel_rfl) ?_
  refine at_do (by kernel_rfl) (op_new (.cells #[(.int .u8 0), (.int .u8 0), (.int .u8 0), (.int .u8 0), (.int .u8 0), (.int .u8 0), (.int .u8 0), (.int .u8 0), (.int .u8 0), (.int .u8 0), (.int .u8 0), (.int .u8 0), (.int .u8 0), (.int .u8 0), (.int .u8 0), (.int .u8 0), (.int .u8 0), (.int .u8 0), (.int .u8 0), (.int .u8 0), (.int .u8 0), (.int .u8 0), (.int .u8 0), (.int .u8 0), (.int .u8 0), (.int .u8 0), (.int .u8 0), (.int .u8 0), (.int .u8 0), (.int .u8 0), (.int .u8 0), (.int .u8 0)] 23) (fun N => (.pointer (some ⟨N, 0, none⟩))) (fun _ => by kernel_rfl) (fun w10_ b9_ h11_ q12_ F13_ => ?_))
  have h14_ := RrAt.keep h_rr F5_ Dis.n0
  have d15_ : Dis (One b9_) (rrS br ao r) := Dis.fresh (New.one q12_) (RrAt.in h14_)
  have d16_ : Dis (One b9_) (One b1_) := Dis.fresh (New.one q12_) (In.one h3_)
  have N17_ : New w (One br) (One b9_) := New.made q12_ (Fr.size T8_)
  have T18_ := Fr.tr T8_ F13_
  refine at_done (by kernel_rfl) ?_
  refine then_n ?_
  refine c_seq [1, 1, 0] [1, 1, 1] (by kernel_rfl) ?_
  refine c_plan 2 rhash_c_R2 (fun w' => True) rhash_c_sk2 rhash_c_pl2 (by kernel_rfl) (by kernel_rfl) (by kernel_rfl) (by kernel_rfl) (by kernel_rfl) (fun w19_ F20_ => ?_)
  have T21_ := Fr.tr T18_ F20_
  have S22_ : True := trivial
  refine pl_pures 2 (by kernel_rfl) (by kernel_rfl) (off (by kernel_rfl)) ?_
  have h23_ := RrAt.keep h14_ F13_ Dis.n0
  have h24_ := RrAt.keep h23_ F20_ Dis.n0
  have h25_ := Fr.keep F13_ h3_ Dis.n0
  have h26_ := Fr.keep F20_ h25_ Dis.n0
  have h27_ := Fr.keep F20_ h11_ Dis.n0
  refine pl_do 2 (by kernel_rfl) (by kernel_rfl) (op_call 162 #[(.tmp 5), (.const (.int .i64 32))] #[(.pointer (some ⟨br, 0, none⟩)), (.int .i64 32)] (by kernel_rfl) (by kernel_rfl) (by kernel_rfl) ?_)
  have C42_ := take_c br ao cap r 32 w19_ h24_  
  refine Calls.mono C42_ ?_
  rintro e41_ w39_ ⟨oc28_, aorr29_, caprr30_, aoout31_, rfl, h32_, h33_, F40_, h35_, h36_, h37_, h38_⟩
  refine ⟨_, rfl, ?_⟩
  have d43_ : Dis (Ar aoout31_ (B (r.out 32))) (One b1_) := Dis.step (Dis.sym d6_) h36_ (In.one h26_)
  have d44_ : Dis (Ar aoout31_ (B (r.out 32))) (One b9_) := Dis.step (Dis.sym d15_) h36_ (In.one h27_)
  have T45_ := Fr.then T21_ F40_ (New.refl w (One br))
  have d46_ : Dis (rrS br aorr29_ (r.take 32)) (One b1_) := Dis.step (Dis.sym d6_) h35_ (In.one h26_)
  have h47_ := Fr.keep F40_ h26_ (Dis.sub Sub.inl d6_)
  have d48_ : Dis (rrS br aorr29_ (r.take 32)) (One b9_) := Dis.step (Dis.sym d15_) h35_ (In.one h27_)
  have h49_ := Fr.keep F40_ h27_ (Dis.sub Sub.inl d15_)
  have N50_ := New.trans (New.refl w (rrS br ao r)) h35_ (Fr.size T21_)
  have N52_ := New.trans (New.refl w (rrS br ao r)) h36_ (Fr.size T21_)
  refine ⟨off (by kernel_rfl), ?_⟩
  refine pl_do 3 (by kernel_rfl) (by kernel_rfl) (op_copy (.tmp 4) (.tmp 6) 128 128 (by kernel_rfl) (by kernel_rfl) (by kernel_rfl) b9_ 0 32 32 aoout31_ ((r.out 32).length) oc28_ (B (r.out 32)) _ _ (hv r.hash) (by kernel_rfl) (by kernel_rfl) h49_ h33_ (by rw [B_length]) B_one (by have := out_length_le r 32; simp; omega) (by exact hash_copy rfl) (fun w53_ h54_ z55_ F56_ => ?_))
  have T57_ := Fr.then T45_ F56_ N17_
  have h58_ := RrAt.keep h32_ F56_ d48_
  have h59_ := Fr.keep F56_ h47_ (Dis.sym d16_)
  have h60_ := Rd.keep' h33_ F56_ d44_
  refine ⟨off (by kernel_rfl), ?_⟩
  refine pl_done (by kernel_rfl) ?_
  refine then_n ?_
  refine c_seq [1, 1, 1, 0] [1, 1, 1, 1] (by kernel_rfl) ?_
  refine c_reg 3 rhash_c_R3 (by kernel_rfl) ?_
  refine at_loadN 23 (.tmp 3) b9_ 0 32 _ _ _ (hv r.hash) (by kernel_rfl) (by kernel_rfl) (by kernel_rfl) (by kernel_rfl) (by kernel_rfl) h54_ (by kernel_rfl) (by kernel_rfl) ?_
  refine at_do (by kernel_rfl) (op_store 23 (.tmp 2) (.tmp 8) b1_ 0 (.agg (hv r.hash)) _ _ (hv r.hash) (by kernel_rfl) (by kernel_rfl) (by kernel_rfl) h59_ (by kernel_rfl) (by kernel_rfl) (by kernel_rfl) (by kernel_rfl) (fun w61_ h62_ z63_ F64_ => ?_))
  have T65_ := Fr.then T57_ F64_ N7_
  have h66_ := RrAt.keep h58_ F64_ d46_
  have h67_ := Fr.keep F64_ h54_ d16_
  have h68_ := Rd.keep' h60_ F64_ d43_
  refine at_done (by kernel_rfl) ?_
  refine then_n ?_
  refine c_ret (by kernel_rfl) ?_
  refine fin_retL [.cell 2 23] [(.agg (hv r.hash))] (.agg (hv r.hash)) (by kernel_rfl) (by rfl) ⟨ResOne.cellN (off := 0) (n := 32) (vs := (hv r.hash)) (by kernel_rfl) (by kernel_rfl) (by kernel_rfl) h62_ (by kernel_rfl) (by kernel_rfl), trivial⟩ (by rfl) ?_
  exact ⟨aorr29_, caprr30_, rfl, h66_, T65_, N50_⟩



noncomputable def rend_c_R0 : Array Oper := rAt Tryd.prog 124 [0]
noncomputable def rend_c_R1 : Array Oper := rAt Tryd.prog 124 [1, 0, 0]
noncomputable def rend_c_R2 : Array Oper := rAt Tryd.prog 124 [1, 0, 1, 0, 0]
noncomputable def rend_c_R3 : Array Oper := rAt Tryd.prog 124 [1, 1, 0]
set_option maxRecDepth 100000 in
theorem rend_c (br : Nat) (ao : Option Addr) (cap : Nat) (r : Rs) (w : World) (h_rr : RrAt 255 w br ao cap r) :
    Calls Tryd.prog 124 #[(.pointer (some ⟨br, 0, none⟩))] w fun e w' => e = .returned (.int .i64 (r.end : Int)) ∧ Fr w w' N0 := by
  refine c_enter (mk 20 [(0, (.pointer (some ⟨br, 0, none⟩)))] (fun _ => undef)) Tryd.func124 (by kernel_rfl) (by kernel_rfl) ?_
  refine c_seq [0] [1] (by kernel_rfl) ?_
  refine c_reg 0 rend_c_R0 (by kernel_rfl) ?_
  refine at_pures 1 (by kernel_rfl) (by kernel_rfl) ?_
  refine at_done (by kernel_rfl) ?_
  refine then_n ?_
  refine c_seq [1, 0] [1, 1] (by kernel_rfl) ?_
  refine c_seq [1, 0, 0] [1, 0, 1] (by kernel_rfl) ?_
  refine c_reg 1 rend_c_R1 (by kernel_rfl) ?_
  refine at_pures 3 (by kernel_rfl) (by kernel_rfl) ?_
  refine at_load1 32 (.tmp 5) br 1 _ _ _ (.int .i64 (r.e : Int)) (by kernel_rfl) (by kernel_rfl) (by kernel_rfl) (by kernel_rfl) (RrAt.blk h_rr) (by kernel_rfl) ?_
  refine at_pures 5 (by kernel_rfl) (by kernel_rfl) ?_
  refine at_split ((r.e : Int) == (0 : Int)) (by kernel_rfl) (by kernel_rfl) (fun c1_ => ?_) (fun c1_ => ?_)
  · -- yes
    replace c1_ : (r.e : Int) = (0 : Int) := by simpa using c1_
    refine at_pures 9 (by kernel_rfl) (by kernel_rfl) ?_
    refine at_load1 128 (.tmp 11) br 0 _ _ _ (.slice ao r.l.length cap) (by kernel_rfl) (by kernel_rfl) (by kernel_rfl) (by kernel_rfl) (RrAt.blk h_rr) (by kernel_rfl) ?_
    refine at_pures 13 (by kernel_rfl) (by kernel_rfl) ?_
    refine at_done (by kernel_rfl) ?_
    refine then_n ?_
    refine c_if (.tmp 15) (decide ((r.l.length : Int) > (0 : Int))) [1, 0, 1, 0] [1, 0, 1, 1] (by kernel_rfl) (by kernel_rfl) (fun c2_ => ?_) (fun c2_ => ?_)
    · -- yes
      replace c2_ : (r.l.length : Int) > (0 : Int) := of_decide_eq_true c2_
      refine c_seq [1, 0, 1, 0, 0] [1, 0, 1, 0, 1] (by kernel_rfl) ?_
      refine c_reg 2 rend_c_R2 (by kernel_rfl) ?_
      refine at_pures 1 (by kernel_rfl) (by kernel_rfl) ?_
      refine at_done (by kernel_rfl) ?_
      refine then_n ?_
      refine c_ret (by kernel_rfl) ?_
      refine then_r ?_
      refine fin_ret (.int .i64 4) (by kernel_rfl) (by kernel_rfl) ?_
      exact ⟨(by first | rw [show r.end = 4 from if_pos (by omega)]; rfl | rw [show r.end = r.e from if_neg (by omega)]), (Fr.refl w N0)⟩
    · -- no
      replace c2_ : ¬ ((r.l.length : Int) > (0 : Int)) := of_decide_eq_false c2_
      refine c_skip (by kernel_rfl) ?_
      refine then_n ?_
      refine c_seq [1, 1, 0] [1, 1, 1] (by kernel_rfl) ?_
      refine c_reg 3 rend_c_R3 (by kernel_rfl) ?_
      refine at_pures 3 (by kernel_rfl) (by kernel_rfl) ?_
      refine at_load1 32 (.tmp 18) br 1 _ _ _ (.int .i64 (r.e : Int)) (by kernel_rfl) (by kernel_rfl) (by kernel_rfl) (by kernel_rfl) (RrAt.blk h_rr) (by kernel_rfl) ?_
      refine at_pures 5 (by kernel_rfl) (by kernel_rfl) ?_
      refine at_done (by kernel_rfl) ?_
      refine then_n ?_
      refine c_ret (by kernel_rfl) ?_
      refine fin_ret (.int .i64 (r.e : Int)) (by kernel_rfl) (by kernel_rfl) ?_
      exact ⟨(by first | rw [show r.end = 4 from if_pos (by omega)]; rfl | rw [show r.end = r.e from if_neg (by omega)]), (Fr.refl w N0)⟩
  · -- no
    replace c1_ : (r.e : Int) ≠ (0 : Int) := by simpa using c1_
    refine at_pures 13 (by kernel_rfl) (by kernel_rfl) ?_
    refine at_done (by kernel_rfl) ?_
    refine then_n ?_
    refine c_else (.tmp 15) [1, 0, 1, 0] [1, 0, 1, 1] (by kernel_rfl) (by kernel_rfl) ?_
    refine c_skip (by kernel_rfl) ?_
    refine then_n ?_
    refine c_seq [1, 1, 0] [1, 1, 1] (by kernel_rfl) ?_
    refine c_reg 3 rend_c_R3 (by kernel_rfl) ?_
    refine at_pures 3 (by kernel_rfl) (by kernel_rfl) ?_
    refine at_load1 32 (.tmp 18) br 1 _ _ _ (.int .i64 (r.e : Int)) (by kernel_rfl) (by kernel_rfl) (by kernel_rfl) (by kernel_rfl) (RrAt.blk h_rr) (by kernel_rfl) ?_
    refine at_pures 5 (by kernel_rfl) (by kernel_rfl) ?_
    refine at_done (by kernel_rfl) ?_
    refine then_n ?_
    refine c_ret (by kernel_rfl) ?_
    refine fin_ret (.int .i64 (r.e : Int)) (by kernel_rfl) (by kernel_rfl) ?_
    exact ⟨(by first | rw [show r.end = 4 from if_pos (by omega)]; rfl | rw [show r.end = r.e from if_neg (by omega)]), (Fr.refl w N0)⟩

noncomputable def rnew_c_R0 : Array Oper := rAt Tryd.prog 121 [0]
noncomputable def rnew_c_R1 : Array Oper := rAt Tryd.prog 121 [1, 0]
set_option maxRecDepth 100000 in
theorem rnew_c (s : Value) (l : List Nat) (w : World) (h_s : SlV w s l.length (B l)) (hl : l.length ≤ 2000000) :
    Calls Tryd.prog 121 #[s] w fun e w' => ∃ (b' : Nat), ∃ (ao_rr' : Option Addr), ∃ (cap_rr' : Nat), e = .returned (.pointer (some ⟨b', 0, none⟩)) ∧ RrAt 255 w' b' ao_rr' cap_rr' (Rs.mk 0 l) ∧ Fr w w' N0 ∧ New w N0 (rrS b' ao_rr' (Rs.mk 0 l)) := by
  obtain ⟨ao_s, cap_s, rfl, h_s⟩ := h_s
  refine c_enter (mk 7 [(0, (.slice ao_s l.length cap_s))] (fun _ => undef)) Tryd.func121 (by kernel_rfl) (by kernel_rfl) ?_
  refine c_seq [0] [1] (by kernel_rfl) ?_
  refine c_reg 0 rnew_c_R0 (by kernel_rfl) ?_
  refine at_pures 1 (by kernel_rfl) (by kernel_rfl) ?_
  refine at_done (by kernel_rfl) ?_
  refine then_n ?_
  refine c_seq [1, 0] [1, 1] (by kernel_rfl) ?_
  refine c_reg 1 rnew_c_R1 (by kernel_rfl) ?_
  refine at_pures 1 (by kernel_rfl) (by kernel_rfl) ?_
  refine at_do (by kernel_rfl) (op_call 160 #[(.tmp 3)] #[(.slice ao_s l.length cap_s)] (by kernel_rfl) (by kernel_rfl) (by kernel_rfl) ?_)
  have C7_ := clone_c (.slice ao_s l.length cap_s) l w (by omega) ⟨_, _, rfl, h_s⟩
  refine Calls.mono C7_ ?_
  rintro e6_ w4_ ⟨v1_, rfl, h2_, F5_, N3_⟩
  refine ⟨_, rfl, ?_⟩
  have d8_ : Dis (Own v1_) (Ar ao_s (B l)) := Dis.fresh N3_ (Rd.in h_s)
  have N9_ : New w N0 (Own v1_) := New.later' N3_ (Fr.size (Fr.refl w N0))
  have T10_ := Fr.tr (Fr.refl w N0) F5_
  obtain ⟨ao11_, cap12_, rfl, hc13_, hm14_, hR15_, ho16_⟩ := Row.read h2_
  refine at_pures 3 (by kernel_rfl) (by kernel_rfl) ?_
  refine at_do (by kernel_rfl) (op_new (.cells #[(.slice ao11_ l.length cap12_), (.int .i64 0)] 255) (fun N => (.pointer (some ⟨N, 0, none⟩))) (fun _ => by kernel_rfl) (fun w18_ b17_ h19_ q20_ F21_ => ?_))
  have h22_ := Rd.keep' h_s F5_ Dis.n0
  have d23_ : Dis (One b17_) (Ar ao_s (B l)) := Dis.fresh (New.one q20_) (Rd.in h22_)
  have d24_ : Dis (One b17_) (Own (.slice ao11_ l.length cap12_)) := Dis.fresh (New.one q20_) (Row.in h2_)
  have N25_ : New w N0 (One b17_) := New.made q20_ (Fr.size T10_)
  have T26_ := Fr.tr T10_ F21_
  refine at_pures 5 (by kernel_rfl) (by kernel_rfl) ?_
  refine at_done (by kernel_rfl) ?_
  refine then_n ?_
  refine c_ret (by kernel_rfl) ?_
  refine fin_ret (.pointer (some ⟨b17_, 0, none⟩)) (by kernel_rfl) (by kernel_rfl) ?_
  have h27_ := Rd.keep' h22_ F21_ Dis.n0
  have h28_ := Row.keep h2_ F21_ Dis.n0
  have h29_ := RrAt.made h19_ h28_ (Dis.sym d24_)
  exact ⟨b17_, ao11_, cap12_, rfl, h29_, T26_, (New.two N25_ (Sub.new (Row.ar h28_) N9_))⟩
end Go.Proofs.YtmnehhpfbmoahaaDoor
