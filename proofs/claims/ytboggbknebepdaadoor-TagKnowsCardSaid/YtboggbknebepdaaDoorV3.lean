/- The walks of layer 3's laws. -/
import Derived.Test.YtboggbknebepdaaDoorWZ
import Derived.Test.YtboggbknebepdaaDoorTagL
import Derived.Test.YtboggbknebepdaaDoorWQ
namespace Go.Proofs.YtboggbknebepdaaDoor
open Go Go.RowKit Go.Alm
noncomputable def awake3_c_R0 : Array Oper := rAt Tryd.prog 19 [0]
noncomputable def awake3_c_R1 : Array Oper := rAt Tryd.prog 19 [1, 0]
noncomputable def awake3_c_R2 : Array Oper := rAt Tryd.prog 19 [1, 1, 0]
noncomputable def awake3_c_R3 : Array Oper := rAt Tryd.prog 19 [1, 1, 1, 0, 0]
noncomputable def awake3_c_R5 : Array Oper := rAt Tryd.prog 19 [1, 1, 1, 1, 0]
noncomputable def awake3_c_R6 : Array Oper := rAt Tryd.prog 19 [1, 1, 1, 1, 1, 0]
noncomputable def awake3_c_R7 : Array Oper := rAt Tryd.prog 19 [1, 1, 1, 1, 1, 1, 0]
def awake3_c_sk7 : Nat → Bool := fun i => decide (i ∈ [9, 10, 15, 16, 17])
def awake3_c_pl7 : List (Nat × PK) := [(0, .q false), (1, .e), (2, .e), (3, .q false), (4, .q false), (5, .q false), (6, .q false), (7, .q false), (8, .q true), (9, .q false), (10, .e), (11, .q false), (12, .q false), (13, .q false), (14, .q true), (15, .q false), (16, .e), (17, .e), (18, .q false), (19, .q false), (20, .q false), (21, .q false), (22, .e), (23, .q false), (24, .q false), (25, .q false)]
set_option maxRecDepth 100000 in
set_option maxHeartbeats 1000000 in
theorem awake3_c (w : World) (h_ks0 : Rd w (some ⟨0, 0, none⟩) ((hw KL).toList)) (h_ks1 : Rd w (some ⟨1, 0, none⟩) ((hw KL).toList)) :
    Calls Tryd.prog 19 #[] w fun e w' => e = .returned (.bool true) ∧ Fr w w' N0 := by
  refine c_enter (mk 46 [] (fun _ => undef)) Tryd.func19 (by kernel_rfl) (by kernel_rfl) ?_
  refine c_seq [0] [1] (by kernel_rfl) ?_
  refine c_reg 0 awake3_c_R0 (by kernel_rfl) ?_
  refine at_pures 1 (by kernel_rfl) (by kernel_rfl) ?_
  refine at_done (by kernel_rfl) ?_
  refine then_n ?_
  refine c_seq [1, 0] [1, 1] (by kernel_rfl) ?_
  refine c_reg 1 awake3_c_R1 (by kernel_rfl) ?_
  refine at_do (by kernel_rfl) (op_new (.cells #[(.int .u8 1), (.int .u8 2)] 5) (fun N => (.slice (some ⟨N, 0, none⟩) 2 2)) (fun _ => by kernel_rfl) (fun w2_ b1_ h3_ q4_ F5_ => ?_))
  have d6_ : Dis (One b1_) (Ar (some ⟨0, 0, none⟩) ((hw KL).toList)) := Dis.fresh (New.one q4_) (Rd.in h_ks0)
  have d7_ : Dis (One b1_) (Ar (some ⟨1, 0, none⟩) ((hw KL).toList)) := Dis.fresh (New.one q4_) (Rd.in h_ks1)
  have N8_ : New w N0 (One b1_) := New.made q4_ (Fr.size (Fr.refl w N0))
  have T9_ := Fr.tr (Fr.refl w N0) F5_
  refine at_do (by kernel_rfl) (op_new (.cells #[(.slice (some ⟨b1_, 0, none⟩) 2 2)] 22) (fun N => (.slice (some ⟨N, 0, none⟩) 1 1)) (fun _ => by kernel_rfl) (fun w11_ b10_ h12_ q13_ F14_ => ?_))
  have h15_ := Rd.keep' h_ks0 F5_ Dis.n0
  have d16_ : Dis (One b10_) (Ar (some ⟨0, 0, none⟩) ((hw KL).toList)) := Dis.fresh (New.one q13_) (Rd.in h15_)
  have h17_ := Rd.keep' h_ks1 F5_ Dis.n0
  have d18_ : Dis (One b10_) (Ar (some ⟨1, 0, none⟩) ((hw KL).toList)) := Dis.fresh (New.one q13_) (Rd.in h17_)
  have d19_ : Dis (One b10_) (One b1_) := Dis.fresh (New.one q13_) (In.one h3_)
  have N20_ : New w N0 (One b10_) := New.made q13_ (Fr.size T9_)
  have T21_ := Fr.tr T9_ F14_
  have h22_ := Rd.keep' h15_ F14_ Dis.n0
  have h23_ := Rd.keep' h17_ F14_ Dis.n0
  have h24_ := Fr.keep F14_ h3_ Dis.n0
  have h27_ : ((#[(.int .u8 1), (.int .u8 2)]).toList.drop 0).take 2 = B [1, 2] := by kernel_rfl
  have h25_ : RowsAt (Or2 (One b10_) (Ar (some ⟨b1_, 0, none⟩) (B [1, 2]))) w11_ (some ⟨b10_, 0, none⟩) [⟨(some ⟨b1_, 0, none⟩), 2, [1, 2]⟩] := RowsAt.one h12_ (by kernel_rfl) (Rd.of_cut (xs := B [1, 2]) h24_ 0 2 h27_) (Sub.refl _) (Rd.in (Rd.of_cut (xs := B [1, 2]) h24_ 0 2 h27_)) (by first | assumption | exact Byt.nil | exact tagL_byt _ _ | exact tagK_byt _ | exact shaL_byt _ | exact Byt.all (by kernel_rfl)) (by first | assumption | omega | exact Nat.le_refl _ | decide) (by first | assumption | (simp only [maxLen]; omega) | decide)
  refine at_do (by kernel_rfl) (op_call 21 #[(.const (.string (⟨#[97]⟩ : ByteArray))), (.tmp 8)] #[(.string (⟨#[97]⟩ : ByteArray)), (.slice (some ⟨b10_, 0, none⟩) 1 1)] (by kernel_rfl) (by kernel_rfl) (by kernel_rfl) ?_)
  have C35_ := image_c (⟨#[97]⟩ : ByteArray) (Or2 (One b10_) (Ar (some ⟨b1_, 0, none⟩) (B [1, 2]))) (some ⟨b10_, 0, none⟩) 1 ([⟨(some ⟨b1_, 0, none⟩), 2, [1, 2]⟩] : List BSl) w11_ h25_  (by first | exact parts0_le | exact parts1_le (by first | decide | exact Nat.le_of_ble_eq_true (by kernel_rfl)) | exact parts1_le (by rw [tagL_length]; decide) | exact imgL_byt (fun x hx => by rw [List.mem_singleton.1 hx]; exact ⟨Byt.all (by kernel_rfl), by decide, by decide⟩) | exact Nat.le_of_ble_eq_true (by kernel_rfl) | exact Byt.nil | exact Byt.all (by kernel_rfl) | exact Nat.le_refl _) (by first | exact parts0_le | exact parts1_le (by first | decide | exact Nat.le_of_ble_eq_true (by kernel_rfl)) | exact parts1_le (by rw [tagL_length]; decide) | exact imgL_byt (fun x hx => by rw [List.mem_singleton.1 hx]; exact ⟨Byt.all (by kernel_rfl), by decide, by decide⟩) | exact Nat.le_of_ble_eq_true (by kernel_rfl) | exact Byt.nil | exact Byt.all (by kernel_rfl) | exact Nat.le_refl _)
  refine Calls.mono C35_ ?_
  rintro e34_ w32_ ⟨vout28_, rfl, h29_, F33_, h31_⟩
  have d36_ : Dis (Own vout28_) (Ar (some ⟨0, 0, none⟩) ((hw KL).toList)) := Dis.fresh h31_ (Rd.in h22_)
  have d37_ : Dis (Own vout28_) (Ar (some ⟨1, 0, none⟩) ((hw KL).toList)) := Dis.fresh h31_ (Rd.in h23_)
  have d38_ : Dis (Own vout28_) (One b1_) := Dis.fresh h31_ (In.one h24_)
  have d39_ : Dis (Own vout28_) (One b10_) := Dis.fresh h31_ (In.one h12_)
  have d40_ : Dis (Own vout28_) (Or2 (One b10_) (Ar (some ⟨b1_, 0, none⟩) (B [1, 2]))) := Dis.fresh h31_ (RowsAt.in h25_)
  have T41_ := Fr.tr T21_ F33_
  have h42_ := Rd.keep' h22_ F33_ Dis.n0
  have h43_ := Rd.keep' h23_ F33_ Dis.n0
  have h44_ := Fr.keep F33_ h24_ Dis.n0
  have h45_ := Fr.keep F33_ h12_ Dis.n0
  have h46_ := RowsAt.keep h25_ F33_ Dis.n0
  have N48_ : New w N0 (Own vout28_) := New.later' h31_ (Fr.size T21_)
  obtain ⟨ao49_, cap50_, rfl, hc51_, hm52_, hR53_, ho54_⟩ := Row.read h29_
  refine ⟨_, rfl, ?_⟩
  refine at_pures 8 (by kernel_rfl) (by kernel_rfl) ?_
  refine at_done (by kernel_rfl) ?_
  refine then_n ?_
  refine c_seq [1, 1, 0] [1, 1, 1] (by kernel_rfl) ?_
  refine c_reg 2 awake3_c_R2 (by kernel_rfl) ?_
  refine at_do (by kernel_rfl) (op_call 26 #[(.const (.int .i64 1))] #[(.int .i64 1)] (by kernel_rfl) (by kernel_rfl) (by kernel_rfl) ?_)
  have C66_ := newmemo_c 1 w32_   
  refine Calls.mono C66_ ?_
  rintro e65_ w63_ ⟨bm55_, mb56_, lastmemo57_, foundmemo58_, askedmemo59_, rfl, h60_, F64_, h62_⟩
  have d67_ : Dis (Or2 (One bm55_) (One mb56_)) (Ar (some ⟨0, 0, none⟩) ((hw KL).toList)) := Dis.fresh h62_ (Rd.in h42_)
  have d68_ : Dis (Or2 (One bm55_) (One mb56_)) (Ar (some ⟨1, 0, none⟩) ((hw KL).toList)) := Dis.fresh h62_ (Rd.in h43_)
  have d69_ : Dis (Or2 (One bm55_) (One mb56_)) (One b1_) := Dis.fresh h62_ (In.one h44_)
  have d70_ : Dis (Or2 (One bm55_) (One mb56_)) (One b10_) := Dis.fresh h62_ (In.one h45_)
  have d71_ : Dis (Or2 (One bm55_) (One mb56_)) (Or2 (One b10_) (Ar (some ⟨b1_, 0, none⟩) (B [1, 2]))) := Dis.fresh h62_ (RowsAt.in h46_)
  have d72_ : Dis (Or2 (One bm55_) (One mb56_)) (Own (.slice ao49_ ((imgL (sB (⟨#[97]⟩ : ByteArray)) ([⟨(some ⟨b1_, 0, none⟩), 2, [1, 2]⟩] : List BSl)).length) cap50_)) := Dis.fresh h62_ (Row.in h29_)
  have T73_ := Fr.tr T41_ F64_
  have h74_ := Rd.keep' h42_ F64_ Dis.n0
  have h75_ := Rd.keep' h43_ F64_ Dis.n0
  have h76_ := Fr.keep F64_ h44_ Dis.n0
  have h77_ := Fr.keep F64_ h45_ Dis.n0
  have h78_ := RowsAt.keep h46_ F64_ Dis.n0
  have h79_ := Row.keep h29_ F64_ Dis.n0
  have N81_ : New w N0 (Or2 (One bm55_) (One mb56_)) := New.later' h62_ (Fr.size T41_)
  refine ⟨_, rfl, ?_⟩
  refine at_pures 2 (by kernel_rfl) (by kernel_rfl) ?_
  refine at_done (by kernel_rfl) ?_
  refine then_n ?_
  refine c_seq [1, 1, 1, 0] [1, 1, 1, 1] (by kernel_rfl) ?_
  refine c_seq [1, 1, 1, 0, 0] [1, 1, 1, 0, 1] (by kernel_rfl) ?_
  refine c_reg 3 awake3_c_R3 (by kernel_rfl) ?_
  refine at_pures 2 (by kernel_rfl) (by kernel_rfl) ?_
  refine at_done (by kernel_rfl) ?_
  refine then_n ?_
  refine c_else (.tmp 14) [1, 1, 1, 0, 1, 0] [1, 1, 1, 0, 1, 1] (by kernel_rfl) (by kernel_rfl) ?_
  refine c_skip (by kernel_rfl) ?_
  refine then_n ?_
  refine c_seq [1, 1, 1, 1, 0] [1, 1, 1, 1, 1] (by kernel_rfl) ?_
  refine c_reg 5 awake3_c_R5 (by kernel_rfl) ?_
  refine at_do (by kernel_rfl) (op_new (.cells #[(.int .u8 1), (.int .u8 2)] 5) (fun N => (.slice (some ⟨N, 0, none⟩) 2 2)) (fun _ => by kernel_rfl) (fun w83_ b82_ h84_ q85_ F86_ => ?_))
  have d87_ : Dis (One b82_) (Ar (some ⟨0, 0, none⟩) ((hw KL).toList)) := Dis.fresh (New.one q85_) (Rd.in h74_)
  have d88_ : Dis (One b82_) (Ar (some ⟨1, 0, none⟩) ((hw KL).toList)) := Dis.fresh (New.one q85_) (Rd.in h75_)
  have d89_ : Dis (One b82_) (One b1_) := Dis.fresh (New.one q85_) (In.one h76_)
  have d90_ : Dis (One b82_) (One b10_) := Dis.fresh (New.one q85_) (In.one h77_)
  have d91_ : Dis (One b82_) (Or2 (One b10_) (Ar (some ⟨b1_, 0, none⟩) (B [1, 2]))) := Dis.fresh (New.one q85_) (RowsAt.in h78_)
  have d92_ : Dis (One b82_) (Own (.slice ao49_ ((imgL (sB (⟨#[97]⟩ : ByteArray)) ([⟨(some ⟨b1_, 0, none⟩), 2, [1, 2]⟩] : List BSl)).length) cap50_)) := Dis.fresh (New.one q85_) (Row.in h79_)
  have d93_ : Dis (One b82_) (Or2 (One bm55_) (One mb56_)) := Dis.fresh (New.one q85_) (MemoAt.in h60_)
  have N94_ : New w N0 (One b82_) := New.made q85_ (Fr.size T73_)
  have T95_ := Fr.tr T73_ F86_
  refine at_do (by kernel_rfl) (op_new (.cells #[(.slice (some ⟨b82_, 0, none⟩) 2 2)] 22) (fun N => (.slice (some ⟨N, 0, none⟩) 1 1)) (fun _ => by kernel_rfl) (fun w97_ b96_ h98_ q99_ F100_ => ?_))
  have h101_ := Rd.keep' h74_ F86_ Dis.n0
  have d102_ : Dis (One b96_) (Ar (some ⟨0, 0, none⟩) ((hw KL).toList)) := Dis.fresh (New.one q99_) (Rd.in h101_)
  have h103_ := Rd.keep' h75_ F86_ Dis.n0
  have d104_ : Dis (One b96_) (Ar (some ⟨1, 0, none⟩) ((hw KL).toList)) := Dis.fresh (New.one q99_) (Rd.in h103_)
  have h105_ := Fr.keep F86_ h76_ Dis.n0
  have d106_ : Dis (One b96_) (One b1_) := Dis.fresh (New.one q99_) (In.one h105_)
  have h107_ := Fr.keep F86_ h77_ Dis.n0
  have d108_ : Dis (One b96_) (One b10_) := Dis.fresh (New.one q99_) (In.one h107_)
  have h109_ := RowsAt.keep h78_ F86_ Dis.n0
  have d110_ : Dis (One b96_) (Or2 (One b10_) (Ar (some ⟨b1_, 0, none⟩) (B [1, 2]))) := Dis.fresh (New.one q99_) (RowsAt.in h109_)
  have h111_ := Row.keep h79_ F86_ Dis.n0
  have d112_ : Dis (One b96_) (Own (.slice ao49_ ((imgL (sB (⟨#[97]⟩ : ByteArray)) ([⟨(some ⟨b1_, 0, none⟩), 2, [1, 2]⟩] : List BSl)).length) cap50_)) := Dis.fresh (New.one q99_) (Row.in h111_)
  have h113_ := MemoAt.keep h60_ F86_ Dis.n0
  have d114_ : Dis (One b96_) (Or2 (One bm55_) (One mb56_)) := Dis.fresh (New.one q99_) (MemoAt.in h113_)
  have d115_ : Dis (One b96_) (One b82_) := Dis.fresh (New.one q99_) (In.one h84_)
  have N116_ : New w N0 (One b96_) := New.made q99_ (Fr.size T95_)
  have T117_ := Fr.tr T95_ F100_
  have h118_ := Rd.keep' h101_ F100_ Dis.n0
  have h119_ := Rd.keep' h103_ F100_ Dis.n0
  have h120_ := Fr.keep F100_ h105_ Dis.n0
  have h121_ := Fr.keep F100_ h107_ Dis.n0
  have h122_ := RowsAt.keep h109_ F100_ Dis.n0
  have h123_ := Row.keep h111_ F100_ Dis.n0
  have h124_ := MemoAt.keep h113_ F100_ Dis.n0
  have h125_ := Fr.keep F100_ h84_ Dis.n0
  have h128_ : ((#[(.int .u8 1), (.int .u8 2)]).toList.drop 0).take 2 = B [1, 2] := by kernel_rfl
  have h126_ : RowsAt (Or2 (One b96_) (Ar (some ⟨b82_, 0, none⟩) (B [1, 2]))) w97_ (some ⟨b96_, 0, none⟩) [⟨(some ⟨b82_, 0, none⟩), 2, [1, 2]⟩] := RowsAt.one h98_ (by kernel_rfl) (Rd.of_cut (xs := B [1, 2]) h125_ 0 2 h128_) (Sub.refl _) (Rd.in (Rd.of_cut (xs := B [1, 2]) h125_ 0 2 h128_)) (by first | assumption | exact Byt.nil | exact tagL_byt _ _ | exact tagK_byt _ | exact shaL_byt _ | exact Byt.all (by kernel_rfl)) (by first | assumption | omega | exact Nat.le_refl _ | decide) (by first | assumption | (simp only [maxLen]; omega) | decide)
  refine at_do (by kernel_rfl) (op_call 24 #[(.const (.string (⟨#[97]⟩ : ByteArray))), (.tmp 16)] #[(.string (⟨#[97]⟩ : ByteArray)), (.slice (some ⟨b96_, 0, none⟩) 1 1)] (by kernel_rfl) (by kernel_rfl) (by kernel_rfl) ?_)
  have C133_ := tagof_c (⟨#[97]⟩ : ByteArray) (Or2 (One b96_) (Ar (some ⟨b82_, 0, none⟩) (B [1, 2]))) (some ⟨b96_, 0, none⟩) 1 ([⟨(some ⟨b82_, 0, none⟩), 2, [1, 2]⟩] : List BSl) w97_ h126_ h119_  (by first | exact parts0_le | exact parts1_le (by first | decide | exact Nat.le_of_ble_eq_true (by kernel_rfl)) | exact parts1_le (by rw [tagL_length]; decide) | exact imgL_byt (fun x hx => by rw [List.mem_singleton.1 hx]; exact ⟨Byt.all (by kernel_rfl), by decide, by decide⟩) | exact Nat.le_of_ble_eq_true (by kernel_rfl) | exact Byt.nil | exact Byt.all (by kernel_rfl) | exact Nat.le_refl _) (by first | exact parts0_le | exact parts1_le (by first | decide | exact Nat.le_of_ble_eq_true (by kernel_rfl)) | exact parts1_le (by rw [tagL_length]; decide) | exact imgL_byt (fun x hx => by rw [List.mem_singleton.1 hx]; exact ⟨Byt.all (by kernel_rfl), by decide, by decide⟩) | exact Nat.le_of_ble_eq_true (by kernel_rfl) | exact Byt.nil | exact Byt.all (by kernel_rfl) | exact Nat.le_refl _)
  refine Calls.mono C133_ ?_
  rintro e132_ w130_ ⟨rfl, F131_⟩
  have T134_ := Fr.tr T117_ F131_
  have h135_ := Rd.keep' h118_ F131_ Dis.n0
  have h136_ := Rd.keep' h119_ F131_ Dis.n0
  have h137_ := Fr.keep F131_ h120_ Dis.n0
  have h138_ := Fr.keep F131_ h121_ Dis.n0
  have h139_ := RowsAt.keep h122_ F131_ Dis.n0
  have h140_ := Row.keep h123_ F131_ Dis.n0
  have h141_ := MemoAt.keep h124_ F131_ Dis.n0
  have h142_ := Fr.keep F131_ h125_ Dis.n0
  have h143_ := Fr.keep F131_ h98_ Dis.n0
  have h144_ := RowsAt.keep h126_ F131_ Dis.n0
  refine ⟨_, rfl, ?_⟩
  refine at_do (by kernel_rfl) (op_new (.cells #[(.int .u8 0), (.int .u8 0), (.int .u8 0), (.int .u8 0), (.int .u8 0), (.int .u8 0), (.int .u8 0), (.int .u8 0), (.int .u8 0), (.int .u8 0), (.int .u8 0), (.int .u8 0), (.int .u8 0), (.int .u8 0), (.int .u8 0), (.int .u8 0), (.int .u8 0), (.int .u8 0), (.int .u8 0), (.int .u8 0), (.int .u8 0), (.int .u8 0), (.int .u8 0), (.int .u8 0), (.int .u8 0), (.int .u8 0), (.int .u8 0), (.int .u8 0), (.int .u8 0), (.int .u8 0), (.int .u8 0), (.int .u8 0)] 25) (fun N => (.pointer (some ⟨N, 0, none⟩))) (fun _ => by kernel_rfl) (fun w146_ b145_ h147_ q148_ F149_ => ?_))
  have d150_ : Dis (One b145_) (Ar (some ⟨0, 0, none⟩) ((hw KL).toList)) := Dis.fresh (New.one q148_) (Rd.in h135_)
  have d151_ : Dis (One b145_) (Ar (some ⟨1, 0, none⟩) ((hw KL).toList)) := Dis.fresh (New.one q148_) (Rd.in h136_)
  have d152_ : Dis (One b145_) (One b1_) := Dis.fresh (New.one q148_) (In.one h137_)
  have d153_ : Dis (One b145_) (One b10_) := Dis.fresh (New.one q148_) (In.one h138_)
  have d154_ : Dis (One b145_) (Or2 (One b10_) (Ar (some ⟨b1_, 0, none⟩) (B [1, 2]))) := Dis.fresh (New.one q148_) (RowsAt.in h139_)
  have d155_ : Dis (One b145_) (Own (.slice ao49_ ((imgL (sB (⟨#[97]⟩ : ByteArray)) ([⟨(some ⟨b1_, 0, none⟩), 2, [1, 2]⟩] : List BSl)).length) cap50_)) := Dis.fresh (New.one q148_) (Row.in h140_)
  have d156_ : Dis (One b145_) (Or2 (One bm55_) (One mb56_)) := Dis.fresh (New.one q148_) (MemoAt.in h141_)
  have d157_ : Dis (One b145_) (One b82_) := Dis.fresh (New.one q148_) (In.one h142_)
  have d158_ : Dis (One b145_) (One b96_) := Dis.fresh (New.one q148_) (In.one h143_)
  have d159_ : Dis (One b145_) (Or2 (One b96_) (Ar (some ⟨b82_, 0, none⟩) (B [1, 2]))) := Dis.fresh (New.one q148_) (RowsAt.in h144_)
  have N160_ : New w N0 (One b145_) := New.made q148_ (Fr.size T134_)
  have T161_ := Fr.tr T134_ F149_
  have h162_ := Rd.keep' h135_ F149_ Dis.n0
  have h163_ := Rd.keep' h136_ F149_ Dis.n0
  have h164_ := Fr.keep F149_ h137_ Dis.n0
  have h165_ := Fr.keep F149_ h138_ Dis.n0
  have h166_ := RowsAt.keep h139_ F149_ Dis.n0
  have h167_ := Row.keep h140_ F149_ Dis.n0
  have h168_ := MemoAt.keep h141_ F149_ Dis.n0
  have h169_ := Fr.keep F149_ h142_ Dis.n0
  have h170_ := Fr.keep F149_ h143_ Dis.n0
  have h171_ := RowsAt.keep h144_ F149_ Dis.n0
  refine at_do (by kernel_rfl) (op_store 25 (.tmp 4) (.tmp 17) b145_ 0 (.agg (hv (tagL (sB (⟨#[97]⟩ : ByteArray)) ([⟨(some ⟨b82_, 0, none⟩), 2, [1, 2]⟩] : List BSl)))) _ _ (hv (tagL (sB (⟨#[97]⟩ : ByteArray)) ([⟨(some ⟨b82_, 0, none⟩), 2, [1, 2]⟩] : List BSl))) (by kernel_rfl) (by kernel_rfl) (by kernel_rfl) h147_ (by kernel_rfl) (by kernel_rfl) (by kernel_rfl) (by kernel_rfl) (fun w172_ h173_ z174_ F175_ => ?_))
  have T176_ := Fr.then T161_ F175_ N160_
  have h177_ := Rd.keep' h162_ F175_ (Dis.sym d150_)
  have h178_ := Rd.keep' h163_ F175_ (Dis.sym d151_)
  have h179_ := Fr.keep F175_ h164_ (Dis.sym d152_)
  have h180_ := Fr.keep F175_ h165_ (Dis.sym d153_)
  have h181_ := RowsAt.keep h166_ F175_ (Dis.sym d154_)
  have h182_ := Row.keep h167_ F175_ (Dis.sym d155_)
  have h183_ := MemoAt.keep h168_ F175_ (Dis.sym d156_)
  have h184_ := Fr.keep F175_ h169_ (Dis.sym d157_)
  have h185_ := Fr.keep F175_ h170_ (Dis.sym d158_)
  have h186_ := RowsAt.keep h171_ F175_ (Dis.sym d159_)
  refine at_done (by kernel_rfl) ?_
  refine then_n ?_
  refine c_seq [1, 1, 1, 1, 1, 0] [1, 1, 1, 1, 1, 1] (by kernel_rfl) ?_
  refine c_reg 6 awake3_c_R6 (by kernel_rfl) ?_
  refine at_pures 1 (by kernel_rfl) (by kernel_rfl) ?_
  refine at_loadN 25 (.tmp 4) b145_ 0 32 _ _ _ (hv (tagL (sB (⟨#[97]⟩ : ByteArray)) ([⟨(some ⟨b82_, 0, none⟩), 2, [1, 2]⟩] : List BSl))) (by kernel_rfl) (by kernel_rfl) (by kernel_rfl) (by kernel_rfl) (by kernel_rfl) h173_ (by kernel_rfl) (by kernel_rfl) ?_
  refine at_do (by kernel_rfl) (op_call 27 #[(.tmp 18), (.const (.string (⟨#[98]⟩ : ByteArray))), (.tmp 19)] #[(.pointer (some ⟨bm55_, 0, none⟩)), (.string (⟨#[98]⟩ : ByteArray)), (.agg (hv (tagL (sB (⟨#[97]⟩ : ByteArray)) ([⟨(some ⟨b82_, 0, none⟩), 2, [1, 2]⟩] : List BSl))))] (by kernel_rfl) (by kernel_rfl) (by kernel_rfl) ?_)
  have C196_ := memoof_c bm55_ mb56_ 1 [] lastmemo57_ foundmemo58_ askedmemo59_ (⟨(⟨#[98]⟩ : ByteArray), (tagL (sB (⟨#[97]⟩ : ByteArray)) ([⟨(some ⟨b82_, 0, none⟩), 2, [1, 2]⟩] : List BSl)), tagL_length _ _, tagL_byt _ _, by first | assumption | decide | omega⟩ : TKey) w172_ h183_ h178_ (Dis.sym d68_) (by first | exact parts0_le | exact parts1_le (by first | decide | exact Nat.le_of_ble_eq_true (by kernel_rfl)) | exact parts1_le (by rw [tagL_length]; decide) | exact imgL_byt (fun (⟨(⟨#[98]⟩ : ByteArray), (tagL (sB (⟨#[97]⟩ : ByteArray)) ([⟨(some ⟨b82_, 0, none⟩), 2, [1, 2]⟩] : List BSl)), tagL_length _ _, tagL_byt _ _, by first | assumption | decide | omega⟩ : TKey) hx => by rw [List.mem_singleton.1 hx]; exact ⟨Byt.all (by kernel_rfl), by decide, by decide⟩) | exact Nat.le_of_ble_eq_true (by kernel_rfl) | exact Byt.nil | exact Byt.all (by kernel_rfl) | exact Nat.le_refl _) (by first | exact parts0_le | exact parts1_le (by first | decide | exact Nat.le_of_ble_eq_true (by kernel_rfl)) | exact parts1_le (by rw [tagL_length]; decide) | exact imgL_byt (fun (⟨(⟨#[98]⟩ : ByteArray), (tagL (sB (⟨#[97]⟩ : ByteArray)) ([⟨(some ⟨b82_, 0, none⟩), 2, [1, 2]⟩] : List BSl)), tagL_length _ _, tagL_byt _ _, by first | assumption | decide | omega⟩ : TKey) hx => by rw [List.mem_singleton.1 hx]; exact ⟨Byt.all (by kernel_rfl), by decide, by decide⟩) | exact Nat.le_of_ble_eq_true (by kernel_rfl) | exact Byt.nil | exact Byt.all (by kernel_rfl) | exact Nat.le_refl _)
  refine Calls.mono C196_ ?_
  rintro e195_ w193_ ⟨lastmemo187_, foundmemo188_, askedmemo189_, rfl, h190_, F194_, h192_⟩
  have T197_ := Fr.then T176_ F194_ N81_
  have d198_ : Dis (Or2 (One bm55_) (One mb56_)) (Ar (some ⟨0, 0, none⟩) ((hw KL).toList)) := Dis.step d67_ h192_ (Rd.in h177_)
  have h199_ := Rd.keep' h177_ F194_ (Dis.sym d67_)
  have d200_ : Dis (Or2 (One bm55_) (One mb56_)) (Ar (some ⟨1, 0, none⟩) ((hw KL).toList)) := Dis.step d68_ h192_ (Rd.in h178_)
  have h201_ := Rd.keep' h178_ F194_ (Dis.sym d68_)
  have d202_ : Dis (Or2 (One bm55_) (One mb56_)) (One b1_) := Dis.step d69_ h192_ (In.one h179_)
  have h203_ := Fr.keep F194_ h179_ (Dis.sym d69_)
  have d204_ : Dis (Or2 (One bm55_) (One mb56_)) (One b10_) := Dis.step d70_ h192_ (In.one h180_)
  have h205_ := Fr.keep F194_ h180_ (Dis.sym d70_)
  have d206_ : Dis (Or2 (One bm55_) (One mb56_)) (Or2 (One b10_) (Ar (some ⟨b1_, 0, none⟩) (B [1, 2]))) := Dis.step d71_ h192_ (RowsAt.in h181_)
  have h207_ := RowsAt.keep h181_ F194_ (Dis.sym d71_)
  have d208_ : Dis (Or2 (One bm55_) (One mb56_)) (Own (.slice ao49_ ((imgL (sB (⟨#[97]⟩ : ByteArray)) ([⟨(some ⟨b1_, 0, none⟩), 2, [1, 2]⟩] : List BSl)).length) cap50_)) := Dis.step d72_ h192_ (Row.in h182_)
  have h209_ := Row.keep h182_ F194_ (Dis.sym d72_)
  have d210_ : Dis (Or2 (One bm55_) (One mb56_)) (One b82_) := Dis.step (Dis.sym d93_) h192_ (In.one h184_)
  have h211_ := Fr.keep F194_ h184_ d93_
  have d212_ : Dis (Or2 (One bm55_) (One mb56_)) (One b96_) := Dis.step (Dis.sym d114_) h192_ (In.one h185_)
  have h213_ := Fr.keep F194_ h185_ d114_
  have d214_ : Dis (Or2 (One bm55_) (One mb56_)) (Or2 (One b96_) (Ar (some ⟨b82_, 0, none⟩) (B [1, 2]))) := Dis.step (Dis.sym (Dis.or d114_ (Sub.dis Sub.arOne d93_))) h192_ (RowsAt.in h186_)
  have h215_ := RowsAt.keep h186_ F194_ (Dis.or d114_ (Sub.dis Sub.arOne d93_))
  have d216_ : Dis (Or2 (One bm55_) (One mb56_)) (One b145_) := Dis.step (Dis.sym d156_) h192_ (In.one h173_)
  have h217_ := Fr.keep F194_ h173_ d156_
  have N218_ : New w N0 (Or2 (One bm55_) (One mb56_)) := New.trans N81_ h192_ (Fr.size T176_)
  refine ⟨_, rfl, ?_⟩
  refine at_do (by kernel_rfl) (op_new (.cells #[(.int .u8 0), (.int .u8 0), (.int .u8 0), (.int .u8 0), (.int .u8 0), (.int .u8 0), (.int .u8 0), (.int .u8 0), (.int .u8 0), (.int .u8 0), (.int .u8 0), (.int .u8 0), (.int .u8 0), (.int .u8 0), (.int .u8 0), (.int .u8 0), (.int .u8 0), (.int .u8 0), (.int .u8 0), (.int .u8 0), (.int .u8 0), (.int .u8 0), (.int .u8 0), (.int .u8 0), (.int .u8 0), (.int .u8 0), (.int .u8 0), (.int .u8 0), (.int .u8 0), (.int .u8 0), (.int .u8 0), (.int .u8 0)] 25) (fun N => (.pointer (some ⟨N, 0, none⟩))) (fun _ => by kernel_rfl) (fun w220_ b219_ h221_ q222_ F223_ => ?_))
  have d224_ : Dis (One b219_) (Ar (some ⟨0, 0, none⟩) ((hw KL).toList)) := Dis.fresh (New.one q222_) (Rd.in h199_)
  have d225_ : Dis (One b219_) (Ar (some ⟨1, 0, none⟩) ((hw KL).toList)) := Dis.fresh (New.one q222_) (Rd.in h201_)
  have d226_ : Dis (One b219_) (One b1_) := Dis.fresh (New.one q222_) (In.one h203_)
  have d227_ : Dis (One b219_) (One b10_) := Dis.fresh (New.one q222_) (In.one h205_)
  have d228_ : Dis (One b219_) (Or2 (One b10_) (Ar (some ⟨b1_, 0, none⟩) (B [1, 2]))) := Dis.fresh (New.one q222_) (RowsAt.in h207_)
  have d229_ : Dis (One b219_) (Own (.slice ao49_ ((imgL (sB (⟨#[97]⟩ : ByteArray)) ([⟨(some ⟨b1_, 0, none⟩), 2, [1, 2]⟩] : List BSl)).length) cap50_)) := Dis.fresh (New.one q222_) (Row.in h209_)
  have d230_ : Dis (One b219_) (Or2 (One bm55_) (One mb56_)) := Dis.fresh (New.one q222_) (MemoAt.in h190_)
  have d231_ : Dis (One b219_) (One b82_) := Dis.fresh (New.one q222_) (In.one h211_)
  have d232_ : Dis (One b219_) (One b96_) := Dis.fresh (New.one q222_) (In.one h213_)
  have d233_ : Dis (One b219_) (Or2 (One b96_) (Ar (some ⟨b82_, 0, none⟩) (B [1, 2]))) := Dis.fresh (New.one q222_) (RowsAt.in h215_)
  have d234_ : Dis (One b219_) (One b145_) := Dis.fresh (New.one q222_) (In.one h217_)
  have N235_ : New w N0 (One b219_) := New.made q222_ (Fr.size T197_)
  have T236_ := Fr.tr T197_ F223_
  have h237_ := Rd.keep' h199_ F223_ Dis.n0
  have h238_ := Rd.keep' h201_ F223_ Dis.n0
  have h239_ := Fr.keep F223_ h203_ Dis.n0
  have h240_ := Fr.keep F223_ h205_ Dis.n0
  have h241_ := RowsAt.keep h207_ F223_ Dis.n0
  have h242_ := Row.keep h209_ F223_ Dis.n0
  have h243_ := MemoAt.keep h190_ F223_ Dis.n0
  have h244_ := Fr.keep F223_ h211_ Dis.n0
  have h245_ := Fr.keep F223_ h213_ Dis.n0
  have h246_ := RowsAt.keep h215_ F223_ Dis.n0
  have h247_ := Fr.keep F223_ h217_ Dis.n0
  refine at_do (by kernel_rfl) (op_store 25 (.tmp 5) (.tmp 20) b219_ 0 (.agg (hv (tagK (⟨(⟨#[98]⟩ : ByteArray), (tagL (sB (⟨#[97]⟩ : ByteArray)) ([⟨(some ⟨b82_, 0, none⟩), 2, [1, 2]⟩] : List BSl)), tagL_length _ _, tagL_byt _ _, by first | assumption | decide | omega⟩ : TKey)))) _ _ (hv (tagK (⟨(⟨#[98]⟩ : ByteArray), (tagL (sB (⟨#[97]⟩ : ByteArray)) ([⟨(some ⟨b82_, 0, none⟩), 2, [1, 2]⟩] : List BSl)), tagL_length _ _, tagL_byt _ _, by first | assumption | decide | omega⟩ : TKey))) (by kernel_rfl) (by kernel_rfl) (by kernel_rfl) h221_ (by kernel_rfl) (by kernel_rfl) (by kernel_rfl) (by kernel_rfl) (fun w248_ h249_ z250_ F251_ => ?_))
  have T252_ := Fr.then T236_ F251_ N235_
  have h253_ := Rd.keep' h237_ F251_ (Dis.sym d224_)
  have h254_ := Rd.keep' h238_ F251_ (Dis.sym d225_)
  have h255_ := Fr.keep F251_ h239_ (Dis.sym d226_)
  have h256_ := Fr.keep F251_ h240_ (Dis.sym d227_)
  have h257_ := RowsAt.keep h241_ F251_ (Dis.sym d228_)
  have h258_ := Row.keep h242_ F251_ (Dis.sym d229_)
  have h259_ := MemoAt.keep h243_ F251_ (Dis.sym d230_)
  have h260_ := Fr.keep F251_ h244_ (Dis.sym d231_)
  have h261_ := Fr.keep F251_ h245_ (Dis.sym d232_)
  have h262_ := RowsAt.keep h246_ F251_ (Dis.sym d233_)
  have h263_ := Fr.keep F251_ h247_ (Dis.sym d234_)
  refine at_done (by kernel_rfl) ?_
  refine then_n ?_
  refine c_seq [1, 1, 1, 1, 1, 1, 0] [1, 1, 1, 1, 1, 1, 1] (by kernel_rfl) ?_
  refine c_plan 7 awake3_c_R7 (fun w' => w'.heap[b145_]? = some (.cells (hv (tagL (sB (⟨#[97]⟩ : ByteArray)) ([⟨(some ⟨b82_, 0, none⟩), 2, [1, 2]⟩] : List BSl))) 25 (0, 0)) ∧ w'.heap[b219_]? = some (.cells (hv (tagK (⟨(⟨#[98]⟩ : ByteArray), (tagL (sB (⟨#[97]⟩ : ByteArray)) ([⟨(some ⟨b82_, 0, none⟩), 2, [1, 2]⟩] : List BSl)), tagL_length _ _, tagL_byt _ _, by first | assumption | decide | omega⟩ : TKey))) 25 (0, 0)) ∧ True) awake3_c_sk7 awake3_c_pl7 (by kernel_rfl) (by kernel_rfl) (by kernel_rfl) (by kernel_rfl) (by kernel_rfl) (fun w264_ F265_ => ?_)
  have T266_ := Fr.tr T252_ F265_
  have h268_ := Fr.keep F265_ h263_ Dis.n0
  have h269_ := Fr.keep F265_ h249_ Dis.n0
  have S267_ : w264_.heap[b145_]? = some (.cells (hv (tagL (sB (⟨#[97]⟩ : ByteArray)) ([⟨(some ⟨b82_, 0, none⟩), 2, [1, 2]⟩] : List BSl))) 25 (0, 0)) ∧ w264_.heap[b219_]? = some (.cells (hv (tagK (⟨(⟨#[98]⟩ : ByteArray), (tagL (sB (⟨#[97]⟩ : ByteArray)) ([⟨(some ⟨b82_, 0, none⟩), 2, [1, 2]⟩] : List BSl)), tagL_length _ _, tagL_byt _ _, by first | assumption | decide | omega⟩ : TKey))) 25 (0, 0)) ∧ True := ⟨h268_, h269_, trivial⟩
  refine pl_pures 1 (by kernel_rfl) (by kernel_rfl) (off (by kernel_rfl)) ?_
  refine pl_do 1 (by kernel_rfl) (by kernel_rfl) (op_new (.cells #[(.int .u8 1), (.int .u8 97), (.int .u8 1), (.int .u8 0), (.int .u8 0), (.int .u8 0), (.int .u8 2), (.int .u8 1), (.int .u8 2)] 5) (fun N => (.slice (some ⟨N, 0, none⟩) 9 9)) (fun _ => by kernel_rfl) (fun w271_ b270_ h272_ q273_ F274_ => ?_))
  have h275_ := Rd.keep' h253_ F265_ Dis.n0
  have d276_ : Dis (One b270_) (Ar (some ⟨0, 0, none⟩) ((hw KL).toList)) := Dis.fresh (New.one q273_) (Rd.in h275_)
  have h277_ := Rd.keep' h254_ F265_ Dis.n0
  have d278_ : Dis (One b270_) (Ar (some ⟨1, 0, none⟩) ((hw KL).toList)) := Dis.fresh (New.one q273_) (Rd.in h277_)
  have h279_ := Fr.keep F265_ h255_ Dis.n0
  have d280_ : Dis (One b270_) (One b1_) := Dis.fresh (New.one q273_) (In.one h279_)
  have h281_ := Fr.keep F265_ h256_ Dis.n0
  have d282_ : Dis (One b270_) (One b10_) := Dis.fresh (New.one q273_) (In.one h281_)
  have h283_ := RowsAt.keep h257_ F265_ Dis.n0
  have d284_ : Dis (One b270_) (Or2 (One b10_) (Ar (some ⟨b1_, 0, none⟩) (B [1, 2]))) := Dis.fresh (New.one q273_) (RowsAt.in h283_)
  have h285_ := Row.keep h258_ F265_ Dis.n0
  have d286_ : Dis (One b270_) (Own (.slice ao49_ ((imgL (sB (⟨#[97]⟩ : ByteArray)) ([⟨(some ⟨b1_, 0, none⟩), 2, [1, 2]⟩] : List BSl)).length) cap50_)) := Dis.fresh (New.one q273_) (Row.in h285_)
  have h287_ := MemoAt.keep h259_ F265_ Dis.n0
  have d288_ : Dis (One b270_) (Or2 (One bm55_) (One mb56_)) := Dis.fresh (New.one q273_) (MemoAt.in h287_)
  have h289_ := Fr.keep F265_ h260_ Dis.n0
  have d290_ : Dis (One b270_) (One b82_) := Dis.fresh (New.one q273_) (In.one h289_)
  have h291_ := Fr.keep F265_ h261_ Dis.n0
  have d292_ : Dis (One b270_) (One b96_) := Dis.fresh (New.one q273_) (In.one h291_)
  have h293_ := RowsAt.keep h262_ F265_ Dis.n0
  have d294_ : Dis (One b270_) (Or2 (One b96_) (Ar (some ⟨b82_, 0, none⟩) (B [1, 2]))) := Dis.fresh (New.one q273_) (RowsAt.in h293_)
  have d295_ : Dis (One b270_) (One b145_) := Dis.fresh (New.one q273_) (In.one h268_)
  have d296_ : Dis (One b270_) (One b219_) := Dis.fresh (New.one q273_) (In.one h269_)
  have N297_ : New w N0 (One b270_) := New.made q273_ (Fr.size T266_)
  have T298_ := Fr.tr T266_ F274_
  refine ⟨off (by kernel_rfl), ?_⟩
  have h299_ := Fr.keep F274_ h268_ Dis.n0
  have h300_ := Fr.keep F274_ h269_ Dis.n0
  have S301_ : w271_.heap[b145_]? = some (.cells (hv (tagL (sB (⟨#[97]⟩ : ByteArray)) ([⟨(some ⟨b82_, 0, none⟩), 2, [1, 2]⟩] : List BSl))) 25 (0, 0)) ∧ w271_.heap[b219_]? = some (.cells (hv (tagK (⟨(⟨#[98]⟩ : ByteArray), (tagL (sB (⟨#[97]⟩ : ByteArray)) ([⟨(some ⟨b82_, 0, none⟩), 2, [1, 2]⟩] : List BSl)), tagL_length _ _, tagL_byt _ _, by first | assumption | decide | omega⟩ : TKey))) 25 (0, 0)) ∧ True := ⟨h299_, h300_, trivial⟩
  have h302_ := Rd.keep' h275_ F274_ Dis.n0
  have h303_ := Rd.keep' h277_ F274_ Dis.n0
  have h304_ := Fr.keep F274_ h279_ Dis.n0
  have h305_ := Fr.keep F274_ h281_ Dis.n0
  have h306_ := RowsAt.keep h283_ F274_ Dis.n0
  have h307_ := Row.keep h285_ F274_ Dis.n0
  have h308_ := MemoAt.keep h287_ F274_ Dis.n0
  have h309_ := Fr.keep F274_ h289_ Dis.n0
  have h310_ := Fr.keep F274_ h291_ Dis.n0
  have h311_ := RowsAt.keep h293_ F274_ Dis.n0
  refine pl_do 2 (by kernel_rfl) (by kernel_rfl) (op_call 23 #[(.tmp 21), (.tmp 22)] #[(.slice ao49_ ((imgL (sB (⟨#[97]⟩ : ByteArray)) ([⟨(some ⟨b1_, 0, none⟩), 2, [1, 2]⟩] : List BSl)).length) cap50_), (.slice (some ⟨b270_, 0, none⟩) 9 9)] (by kernel_rfl) (by kernel_rfl) (by kernel_rfl) ?_)
  have C316_ := same_c (.slice ao49_ ((imgL (sB (⟨#[97]⟩ : ByteArray)) ([⟨(some ⟨b1_, 0, none⟩), 2, [1, 2]⟩] : List BSl)).length) cap50_) (imgL (sB (⟨#[97]⟩ : ByteArray)) ([⟨(some ⟨b1_, 0, none⟩), 2, [1, 2]⟩] : List BSl)) (.slice (some ⟨b270_, 0, none⟩) 9 9) [1, 97, 1, 0, 0, 0, 2, 1, 2] w271_ (Row.sl h307_) (SlV.of_blk (l := [1, 97, 1, 0, 0, 0, 2, 1, 2]) h272_ (by kernel_rfl))  (by first | exact parts0_le | exact parts1_le (by first | decide | exact Nat.le_of_ble_eq_true (by kernel_rfl)) | exact parts1_le (by rw [tagL_length]; decide) | exact imgL_byt (fun x hx => by rw [List.mem_singleton.1 hx]; exact ⟨Byt.all (by kernel_rfl), by decide, by decide⟩) | exact Nat.le_of_ble_eq_true (by kernel_rfl) | exact Byt.nil | exact Byt.all (by kernel_rfl) | exact Nat.le_refl _) (by first | exact parts0_le | exact parts1_le (by first | decide | exact Nat.le_of_ble_eq_true (by kernel_rfl)) | exact parts1_le (by rw [tagL_length]; decide) | exact imgL_byt (fun x hx => by rw [List.mem_singleton.1 hx]; exact ⟨Byt.all (by kernel_rfl), by decide, by decide⟩) | exact Nat.le_of_ble_eq_true (by kernel_rfl) | exact Byt.nil | exact Byt.all (by kernel_rfl) | exact Nat.le_refl _)
  refine Calls.mono C316_ ?_
  rintro e315_ w313_ ⟨rfl, F314_⟩
  have T317_ := Fr.tr T298_ F314_
  have h318_ := Rd.keep' h302_ F314_ Dis.n0
  have h319_ := Rd.keep' h303_ F314_ Dis.n0
  have h320_ := Fr.keep F314_ h304_ Dis.n0
  have h321_ := Fr.keep F314_ h305_ Dis.n0
  have h322_ := RowsAt.keep h306_ F314_ Dis.n0
  have h323_ := Row.keep h307_ F314_ Dis.n0
  have h324_ := MemoAt.keep h308_ F314_ Dis.n0
  have h325_ := Fr.keep F314_ h309_ Dis.n0
  have h326_ := Fr.keep F314_ h310_ Dis.n0
  have h327_ := RowsAt.keep h311_ F314_ Dis.n0
  have h328_ := Fr.keep F314_ h299_ Dis.n0
  have h329_ := Fr.keep F314_ h300_ Dis.n0
  have h330_ := Fr.keep F314_ h272_ Dis.n0
  refine ⟨(.bool true), (by kernel_rfl), ?_⟩
  refine ⟨off (by kernel_rfl), ?_⟩
  have S331_ : w313_.heap[b145_]? = some (.cells (hv (tagL (sB (⟨#[97]⟩ : ByteArray)) ([⟨(some ⟨b82_, 0, none⟩), 2, [1, 2]⟩] : List BSl))) 25 (0, 0)) ∧ w313_.heap[b219_]? = some (.cells (hv (tagK (⟨(⟨#[98]⟩ : ByteArray), (tagL (sB (⟨#[97]⟩ : ByteArray)) ([⟨(some ⟨b82_, 0, none⟩), 2, [1, 2]⟩] : List BSl)), tagL_length _ _, tagL_byt _ _, by first | assumption | decide | omega⟩ : TKey))) 25 (0, 0)) ∧ True := ⟨h328_, h329_, trivial⟩
  refine pl_pures 5 (by kernel_rfl) (by kernel_rfl) (off (by kernel_rfl)) ?_
  refine pl_as 5 (.bool (((imgE (⟨#[97]⟩ : ByteArray).size ([⟨(some ⟨b1_, 0, none⟩), 2, [1, 2]⟩] : List BSl).length : Nat) : Int) == (0 : Int))) (.bool true) (by kernel_rfl) (by kernel_rfl) ⟨by kernel_rfl, by kernel_rfl⟩ (by kernel_rfl) (off (by kernel_rfl)) ?_
  refine pl_pures 8 (by kernel_rfl) (by kernel_rfl) (off (by kernel_rfl)) ?_
  refine pl_read 8 (.agg (hv (tagL (sB (⟨#[97]⟩ : ByteArray)) ([⟨(some ⟨b82_, 0, none⟩), 2, [1, 2]⟩] : List BSl)))) (by kernel_rfl) (by kernel_rfl) (fun w' hs => run_loadN 25 (.tmp 4) b145_ 0 32 _ _ _ (hv (tagL (sB (⟨#[97]⟩ : ByteArray)) ([⟨(some ⟨b82_, 0, none⟩), 2, [1, 2]⟩] : List BSl))) (by kernel_rfl) (by kernel_rfl) (by kernel_rfl) (by kernel_rfl) hs.1 (by kernel_rfl) (by kernel_rfl)) S331_ ?_
  refine pl_pures 10 (by kernel_rfl) (by kernel_rfl) (fun _ => S331_) ?_
  refine pl_do 10 (by kernel_rfl) (by kernel_rfl) (op_call 13 #[(.tmp 30)] #[(.slice ao49_ ((imgL (sB (⟨#[97]⟩ : ByteArray)) ([⟨(some ⟨b1_, 0, none⟩), 2, [1, 2]⟩] : List BSl)).length) cap50_)] (by kernel_rfl) (by kernel_rfl) (by kernel_rfl) ?_)
  have C336_ := rof_c (.slice ao49_ ((imgL (sB (⟨#[97]⟩ : ByteArray)) ([⟨(some ⟨b1_, 0, none⟩), 2, [1, 2]⟩] : List BSl)).length) cap50_) (imgL (sB (⟨#[97]⟩ : ByteArray)) ([⟨(some ⟨b1_, 0, none⟩), 2, [1, 2]⟩] : List BSl)) w313_ (Row.sl h323_) h318_  (by first | exact parts0_le | exact parts1_le (by first | decide | exact Nat.le_of_ble_eq_true (by kernel_rfl)) | exact parts1_le (by rw [tagL_length]; decide) | exact imgL_byt (fun x hx => by rw [List.mem_singleton.1 hx]; exact ⟨Byt.all (by kernel_rfl), by decide, by decide⟩) | exact Nat.le_of_ble_eq_true (by kernel_rfl) | exact Byt.nil | exact Byt.all (by kernel_rfl) | exact Nat.le_refl _) (by first | exact parts0_le | exact parts1_le (by first | decide | exact Nat.le_of_ble_eq_true (by kernel_rfl)) | exact parts1_le (by rw [tagL_length]; decide) | exact imgL_byt (fun x hx => by rw [List.mem_singleton.1 hx]; exact ⟨Byt.all (by kernel_rfl), by decide, by decide⟩) | exact Nat.le_of_ble_eq_true (by kernel_rfl) | exact Byt.nil | exact Byt.all (by kernel_rfl) | exact Nat.le_refl _)
  refine Calls.mono C336_ ?_
  rintro e335_ w333_ ⟨rfl, F334_⟩
  have T337_ := Fr.tr T317_ F334_
  have h338_ := Rd.keep' h318_ F334_ Dis.n0
  have h339_ := Rd.keep' h319_ F334_ Dis.n0
  have h340_ := Fr.keep F334_ h320_ Dis.n0
  have h341_ := Fr.keep F334_ h321_ Dis.n0
  have h342_ := RowsAt.keep h322_ F334_ Dis.n0
  have h343_ := Row.keep h323_ F334_ Dis.n0
  have h344_ := MemoAt.keep h324_ F334_ Dis.n0
  have h345_ := Fr.keep F334_ h325_ Dis.n0
  have h346_ := Fr.keep F334_ h326_ Dis.n0
  have h347_ := RowsAt.keep h327_ F334_ Dis.n0
  have h348_ := Fr.keep F334_ h328_ Dis.n0
  have h349_ := Fr.keep F334_ h329_ Dis.n0
  have h350_ := Fr.keep F334_ h330_ Dis.n0
  refine ⟨_, rfl, ?_⟩
  have S351_ : w333_.heap[b145_]? = some (.cells (hv (tagL (sB (⟨#[97]⟩ : ByteArray)) ([⟨(some ⟨b82_, 0, none⟩), 2, [1, 2]⟩] : List BSl))) 25 (0, 0)) ∧ w333_.heap[b219_]? = some (.cells (hv (tagK (⟨(⟨#[98]⟩ : ByteArray), (tagL (sB (⟨#[97]⟩ : ByteArray)) ([⟨(some ⟨b82_, 0, none⟩), 2, [1, 2]⟩] : List BSl)), tagL_length _ _, tagL_byt _ _, by first | assumption | decide | omega⟩ : TKey))) 25 (0, 0)) ∧ True := ⟨h348_, h349_, trivial⟩
  refine ⟨fun _ => S351_, ?_⟩
  refine pl_quiet 11 (.bool true) (by kernel_rfl) (by kernel_rfl) (fun w' => run_eq_hash_self 25 (.tmp 29) (.tmp 31) (tagL (sB (⟨#[97]⟩ : ByteArray)) ([⟨(some ⟨b82_, 0, none⟩), 2, [1, 2]⟩] : List BSl)) (by kernel_rfl) (by kernel_rfl) (by kernel_rfl) (by kernel_rfl) (by kernel_rfl) (by kernel_rfl) (tagL_length _ _) (tagL_byt _ _)) (off (by kernel_rfl)) ?_
  refine pl_pures 14 (by kernel_rfl) (by kernel_rfl) (off (by kernel_rfl)) ?_
  refine pl_read 14 (.agg (hv (tagK (⟨(⟨#[98]⟩ : ByteArray), (tagL (sB (⟨#[97]⟩ : ByteArray)) ([⟨(some ⟨b82_, 0, none⟩), 2, [1, 2]⟩] : List BSl)), tagL_length _ _, tagL_byt _ _, by first | assumption | decide | omega⟩ : TKey)))) (by kernel_rfl) (by kernel_rfl) (fun w' hs => run_loadN 25 (.tmp 5) b219_ 0 32 _ _ _ (hv (tagK (⟨(⟨#[98]⟩ : ByteArray), (tagL (sB (⟨#[97]⟩ : ByteArray)) ([⟨(some ⟨b82_, 0, none⟩), 2, [1, 2]⟩] : List BSl)), tagL_length _ _, tagL_byt _ _, by first | assumption | decide | omega⟩ : TKey))) (by kernel_rfl) (by kernel_rfl) (by kernel_rfl) (by kernel_rfl) hs.2.1 (by kernel_rfl) (by kernel_rfl)) S351_ ?_
  refine pl_pures 16 (by kernel_rfl) (by kernel_rfl) (fun _ => S351_) ?_
  refine pl_do 16 (by kernel_rfl) (by kernel_rfl) (op_new (.cells #[(.slice (some ⟨b145_, 0, none⟩) 32 32)] 22) (fun N => (.slice (some ⟨N, 0, none⟩) 1 1)) (fun _ => by kernel_rfl) (fun w353_ b352_ h354_ q355_ F356_ => ?_))
  have d357_ : Dis (One b352_) (Ar (some ⟨0, 0, none⟩) ((hw KL).toList)) := Dis.fresh (New.one q355_) (Rd.in h338_)
  have d358_ : Dis (One b352_) (Ar (some ⟨1, 0, none⟩) ((hw KL).toList)) := Dis.fresh (New.one q355_) (Rd.in h339_)
  have d359_ : Dis (One b352_) (One b1_) := Dis.fresh (New.one q355_) (In.one h340_)
  have d360_ : Dis (One b352_) (One b10_) := Dis.fresh (New.one q355_) (In.one h341_)
  have d361_ : Dis (One b352_) (Or2 (One b10_) (Ar (some ⟨b1_, 0, none⟩) (B [1, 2]))) := Dis.fresh (New.one q355_) (RowsAt.in h342_)
  have d362_ : Dis (One b352_) (Own (.slice ao49_ ((imgL (sB (⟨#[97]⟩ : ByteArray)) ([⟨(some ⟨b1_, 0, none⟩), 2, [1, 2]⟩] : List BSl)).length) cap50_)) := Dis.fresh (New.one q355_) (Row.in h343_)
  have d363_ : Dis (One b352_) (Or2 (One bm55_) (One mb56_)) := Dis.fresh (New.one q355_) (MemoAt.in h344_)
  have d364_ : Dis (One b352_) (One b82_) := Dis.fresh (New.one q355_) (In.one h345_)
  have d365_ : Dis (One b352_) (One b96_) := Dis.fresh (New.one q355_) (In.one h346_)
  have d366_ : Dis (One b352_) (Or2 (One b96_) (Ar (some ⟨b82_, 0, none⟩) (B [1, 2]))) := Dis.fresh (New.one q355_) (RowsAt.in h347_)
  have d367_ : Dis (One b352_) (One b145_) := Dis.fresh (New.one q355_) (In.one h348_)
  have d368_ : Dis (One b352_) (One b219_) := Dis.fresh (New.one q355_) (In.one h349_)
  have d369_ : Dis (One b352_) (One b270_) := Dis.fresh (New.one q355_) (In.one h350_)
  have N370_ : New w N0 (One b352_) := New.made q355_ (Fr.size T337_)
  have T371_ := Fr.tr T337_ F356_
  have h372_ := Fr.keep F356_ h348_ Dis.n0
  have h373_ := Fr.keep F356_ h349_ Dis.n0
  have S374_ : w353_.heap[b145_]? = some (.cells (hv (tagL (sB (⟨#[97]⟩ : ByteArray)) ([⟨(some ⟨b82_, 0, none⟩), 2, [1, 2]⟩] : List BSl))) 25 (0, 0)) ∧ w353_.heap[b219_]? = some (.cells (hv (tagK (⟨(⟨#[98]⟩ : ByteArray), (tagL (sB (⟨#[97]⟩ : ByteArray)) ([⟨(some ⟨b82_, 0, none⟩), 2, [1, 2]⟩] : List BSl)), tagL_length _ _, tagL_byt _ _, by first | assumption | decide | omega⟩ : TKey))) 25 (0, 0)) ∧ True := ⟨h372_, h373_, trivial⟩
  refine ⟨fun _ => S374_, ?_⟩
  have h375_ := Rd.keep' h338_ F356_ Dis.n0
  have h376_ := Rd.keep' h339_ F356_ Dis.n0
  have h377_ := Fr.keep F356_ h340_ Dis.n0
  have h378_ := Fr.keep F356_ h341_ Dis.n0
  have h379_ := RowsAt.keep h342_ F356_ Dis.n0
  have h380_ := Row.keep h343_ F356_ Dis.n0
  have h381_ := MemoAt.keep h344_ F356_ Dis.n0
  have h382_ := Fr.keep F356_ h345_ Dis.n0
  have h383_ := Fr.keep F356_ h346_ Dis.n0
  have h384_ := RowsAt.keep h347_ F356_ Dis.n0
  have h385_ := Fr.keep F356_ h350_ Dis.n0
  have h388_ : (((hv (tagL (sB (⟨#[97]⟩ : ByteArray)) ([⟨(some ⟨b82_, 0, none⟩), 2, [1, 2]⟩] : List BSl)))).toList.drop 0).take 32 = B (tagL (sB (⟨#[97]⟩ : ByteArray)) ([⟨(some ⟨b82_, 0, none⟩), 2, [1, 2]⟩] : List BSl)) := Eq.trans (by kernel_rfl) (hv_B (tagL_length _ _))
  have h386_ : RowsAt (Or2 (One b352_) (Ar (some ⟨b145_, 0, none⟩) (B (tagL (sB (⟨#[97]⟩ : ByteArray)) ([⟨(some ⟨b82_, 0, none⟩), 2, [1, 2]⟩] : List BSl))))) w353_ (some ⟨b352_, 0, none⟩) [⟨(some ⟨b145_, 0, none⟩), 32, (tagL (sB (⟨#[97]⟩ : ByteArray)) ([⟨(some ⟨b82_, 0, none⟩), 2, [1, 2]⟩] : List BSl))⟩] := RowsAt.one h354_ (by rw [(tagL_length _ _)]) (Rd.of_cut (xs := B (tagL (sB (⟨#[97]⟩ : ByteArray)) ([⟨(some ⟨b82_, 0, none⟩), 2, [1, 2]⟩] : List BSl))) h372_ 0 32 h388_) (Sub.refl _) (Rd.in (Rd.of_cut (xs := B (tagL (sB (⟨#[97]⟩ : ByteArray)) ([⟨(some ⟨b82_, 0, none⟩), 2, [1, 2]⟩] : List BSl))) h372_ 0 32 h388_)) (by first | assumption | exact Byt.nil | exact tagL_byt _ _ | exact tagK_byt _ | exact shaL_byt _ | exact Byt.all (by kernel_rfl)) (by first | assumption | omega | exact Nat.le_refl _ | exact Nat.le_of_eq (tagL_length _ _)| decide) (by first | assumption | (simp only [maxLen]; omega) | decide)
  refine pl_do 17 (by kernel_rfl) (by kernel_rfl) (op_call 24 #[(.const (.string (⟨#[98]⟩ : ByteArray))), (.tmp 37)] #[(.string (⟨#[98]⟩ : ByteArray)), (.slice (some ⟨b352_, 0, none⟩) 1 1)] (by kernel_rfl) (by kernel_rfl) (by kernel_rfl) ?_)
  have C393_ := tagof_c (⟨#[98]⟩ : ByteArray) (Or2 (One b352_) (Ar (some ⟨b145_, 0, none⟩) (B (tagL (sB (⟨#[97]⟩ : ByteArray)) ([⟨(some ⟨b82_, 0, none⟩), 2, [1, 2]⟩] : List BSl))))) (some ⟨b352_, 0, none⟩) 1 ([⟨(some ⟨b145_, 0, none⟩), 32, (tagL (sB (⟨#[97]⟩ : ByteArray)) ([⟨(some ⟨b82_, 0, none⟩), 2, [1, 2]⟩] : List BSl))⟩] : List BSl) w353_ h386_ h376_  (by first | exact parts0_le | exact parts1_le (by first | decide | exact Nat.le_of_ble_eq_true (by kernel_rfl)) | exact parts1_le (by rw [tagL_length]; decide) | exact imgL_byt (fun x hx => by rw [List.mem_singleton.1 hx]; exact ⟨Byt.all (by kernel_rfl), by decide, by decide⟩) | exact Nat.le_of_ble_eq_true (by kernel_rfl) | exact Byt.nil | exact Byt.all (by kernel_rfl) | exact Nat.le_refl _) (by first | exact parts0_le | exact parts1_le (by first | decide | exact Nat.le_of_ble_eq_true (by kernel_rfl)) | exact parts1_le (by rw [tagL_length]; decide) | exact imgL_byt (fun x hx => by rw [List.mem_singleton.1 hx]; exact ⟨Byt.all (by kernel_rfl), by decide, by decide⟩) | exact Nat.le_of_ble_eq_true (by kernel_rfl) | exact Byt.nil | exact Byt.all (by kernel_rfl) | exact Nat.le_refl _)
  refine Calls.mono C393_ ?_
  rintro e392_ w390_ ⟨rfl, F391_⟩
  have T394_ := Fr.tr T371_ F391_
  have h395_ := Rd.keep' h375_ F391_ Dis.n0
  have h396_ := Rd.keep' h376_ F391_ Dis.n0
  have h397_ := Fr.keep F391_ h377_ Dis.n0
  have h398_ := Fr.keep F391_ h378_ Dis.n0
  have h399_ := RowsAt.keep h379_ F391_ Dis.n0
  have h400_ := Row.keep h380_ F391_ Dis.n0
  have h401_ := MemoAt.keep h381_ F391_ Dis.n0
  have h402_ := Fr.keep F391_ h382_ Dis.n0
  have h403_ := Fr.keep F391_ h383_ Dis.n0
  have h404_ := RowsAt.keep h384_ F391_ Dis.n0
  have h405_ := Fr.keep F391_ h372_ Dis.n0
  have h406_ := Fr.keep F391_ h373_ Dis.n0
  have h407_ := Fr.keep F391_ h385_ Dis.n0
  have h408_ := Fr.keep F391_ h354_ Dis.n0
  have h409_ := RowsAt.keep h386_ F391_ Dis.n0
  refine ⟨_, rfl, ?_⟩
  have S410_ : w390_.heap[b145_]? = some (.cells (hv (tagL (sB (⟨#[97]⟩ : ByteArray)) ([⟨(some ⟨b82_, 0, none⟩), 2, [1, 2]⟩] : List BSl))) 25 (0, 0)) ∧ w390_.heap[b219_]? = some (.cells (hv (tagK (⟨(⟨#[98]⟩ : ByteArray), (tagL (sB (⟨#[97]⟩ : ByteArray)) ([⟨(some ⟨b82_, 0, none⟩), 2, [1, 2]⟩] : List BSl)), tagL_length _ _, tagL_byt _ _, by first | assumption | decide | omega⟩ : TKey))) 25 (0, 0)) ∧ True := ⟨h405_, h406_, trivial⟩
  refine ⟨fun _ => S410_, ?_⟩
  refine pl_quiet 18 (.bool true) (by kernel_rfl) (by kernel_rfl) (fun w' => run_eq_hash_self 25 (.tmp 35) (.tmp 38) (tagK (⟨(⟨#[98]⟩ : ByteArray), (tagL (sB (⟨#[97]⟩ : ByteArray)) ([⟨(some ⟨b82_, 0, none⟩), 2, [1, 2]⟩] : List BSl)), tagL_length _ _, tagL_byt _ _, by first | assumption | decide | omega⟩ : TKey)) (by kernel_rfl) (by kernel_rfl) (by kernel_rfl) (by kernel_rfl) (by kernel_rfl) (by kernel_rfl) (tagK_length _) (tagK_byt _)) (off (by kernel_rfl)) ?_
  refine pl_pures 22 (by kernel_rfl) (by kernel_rfl) (off (by kernel_rfl)) ?_
  refine pl_do 22 (by kernel_rfl) (by kernel_rfl) (op_call 28 #[(.tmp 42)] #[(.pointer (some ⟨bm55_, 0, none⟩))] (by kernel_rfl) (by kernel_rfl) (by kernel_rfl) ?_)
  have C415_ := known_c bm55_ mb56_ 1 (addK [] (⟨(⟨#[98]⟩ : ByteArray), (tagL (sB (⟨#[97]⟩ : ByteArray)) ([⟨(some ⟨b82_, 0, none⟩), 2, [1, 2]⟩] : List BSl)), tagL_length _ _, tagL_byt _ _, by first | assumption | decide | omega⟩ : TKey) 1) lastmemo187_ foundmemo188_ askedmemo189_ w390_ h401_  
  refine Calls.mono C415_ ?_
  rintro e414_ w412_ ⟨rfl, F413_⟩
  have T416_ := Fr.tr T394_ F413_
  have h417_ := Rd.keep' h395_ F413_ Dis.n0
  have h418_ := Rd.keep' h396_ F413_ Dis.n0
  have h419_ := Fr.keep F413_ h397_ Dis.n0
  have h420_ := Fr.keep F413_ h398_ Dis.n0
  have h421_ := RowsAt.keep h399_ F413_ Dis.n0
  have h422_ := Row.keep h400_ F413_ Dis.n0
  have h423_ := MemoAt.keep h401_ F413_ Dis.n0
  have h424_ := Fr.keep F413_ h402_ Dis.n0
  have h425_ := Fr.keep F413_ h403_ Dis.n0
  have h426_ := RowsAt.keep h404_ F413_ Dis.n0
  have h427_ := Fr.keep F413_ h405_ Dis.n0
  have h428_ := Fr.keep F413_ h406_ Dis.n0
  have h429_ := Fr.keep F413_ h407_ Dis.n0
  have h430_ := Fr.keep F413_ h408_ Dis.n0
  have h431_ := RowsAt.keep h409_ F413_ Dis.n0
  refine ⟨_, rfl, ?_⟩
  refine ⟨off (by kernel_rfl), ?_⟩
  refine pl_as 23 (.bool (((addK [] (⟨(⟨#[98]⟩ : ByteArray), (tagL (sB (⟨#[97]⟩ : ByteArray)) ([⟨(some ⟨b82_, 0, none⟩), 2, [1, 2]⟩] : List BSl)), tagL_length _ _, tagL_byt _ _, by first | assumption | decide | omega⟩ : TKey) 1).length : Int) == (1 : Int))) (.bool true) (by kernel_rfl) (by kernel_rfl) ⟨by kernel_rfl, by kernel_rfl⟩ (by kernel_rfl) (off (by kernel_rfl)) ?_
  refine pl_pures 26 (by kernel_rfl) (by kernel_rfl) (off (by kernel_rfl)) ?_
  refine pl_done (by kernel_rfl) ?_
  refine then_n ?_
  refine c_ret (by kernel_rfl) ?_
  refine fin_ret (.bool true) (by kernel_rfl) (by kernel_rfl) ?_
  exact ⟨rfl, T416_⟩

noncomputable def large3_c_R0 : Array Oper := rAt Tryd.prog 20 [0]
noncomputable def large3_c_R1 : Array Oper := rAt Tryd.prog 20 [1, 0, 0]
noncomputable def large3_c_R2 : Array Oper := rAt Tryd.prog 20 [1, 0, 1, 0, 0]
noncomputable def large3_c_R3 : Array Oper := rAt Tryd.prog 20 [1, 1, 0]
noncomputable def large3_c_R4 : Array Oper := rAt Tryd.prog 20 [1, 1, 1, 0, 0]
noncomputable def large3_c_R5 : Array Oper := rAt Tryd.prog 20 [1, 1, 1, 0, 1, 0, 0, 0]
noncomputable def large3_c_R6 : Array Oper := rAt Tryd.prog 20 [1, 1, 1, 0, 1, 0, 0, 1, 1, 0, 0, 0]
noncomputable def large3_c_R7 : Array Oper := rAt Tryd.prog 20 [1, 1, 1, 0, 1, 0, 0, 1, 1, 0, 0, 1, 0, 0]
noncomputable def large3_c_R8 : Array Oper := rAt Tryd.prog 20 [1, 1, 1, 0, 1, 0, 0, 1, 1, 0, 0, 1, 0, 1, 0, 0]
noncomputable def large3_c_R9 : Array Oper := rAt Tryd.prog 20 [1, 1, 1, 0, 1, 0, 0, 1, 1, 0, 0, 1, 1]
noncomputable def large3_c_R10 : Array Oper := rAt Tryd.prog 20 [1, 1, 1, 0, 1, 0, 0, 1, 1, 1]
noncomputable def large3_c_R11 : Array Oper := rAt Tryd.prog 20 [1, 1, 1, 1, 0]
set_option maxRecDepth 100000 in
theorem large3_c (s : ByteArray) (fp : Nat → Prop) (ao : Option Addr) (cap : Nat) (ls : List BSl) (w : World) (h_ls : RowsAt fp w ao ls) (hn : ls.length ≤ 9223372036854775807) :
    Calls Tryd.prog 20 #[(.string s), (.slice ao ls.length cap)] w fun e w' => e = .returned (.bool (largeR s.size ls)) ∧ Fr w w' N0 := by
  refine c_enter (mk 32 [(0, (.string s)), (1, (.slice ao ls.length cap))] (fun _ => undef)) Tryd.func20 (by kernel_rfl) (by kernel_rfl) ?_
  refine c_seq [0] [1] (by kernel_rfl) ?_
  refine c_reg 0 large3_c_R0 (by kernel_rfl) ?_
  refine at_pures 1 (by kernel_rfl) (by kernel_rfl) ?_
  refine at_done (by kernel_rfl) ?_
  refine then_n ?_
  refine c_seq [1, 0] [1, 1] (by kernel_rfl) ?_
  refine c_seq [1, 0, 0] [1, 0, 1] (by kernel_rfl) ?_
  refine c_reg 1 large3_c_R1 (by kernel_rfl) ?_
  refine at_pures 3 (by kernel_rfl) (by kernel_rfl) ?_
  refine at_split (decide ((s.size : Int) > (2000 : Int))) (by kernel_rfl) (by kernel_rfl) (fun c1_ => ?_) (fun c1_ => ?_)
  · -- yes
    replace c1_ : (s.size : Int) > (2000 : Int) := of_decide_eq_true c1_
    refine at_pures 8 (by kernel_rfl) (by kernel_rfl) ?_
    refine at_done (by kernel_rfl) ?_
    refine then_n ?_
    refine c_then (.tmp 15) [1, 0, 1, 0] [1, 0, 1, 1] (by kernel_rfl) (by kernel_rfl) ?_
    refine c_seq [1, 0, 1, 0, 0] [1, 0, 1, 0, 1] (by kernel_rfl) ?_
    refine c_reg 2 large3_c_R2 (by kernel_rfl) ?_
    refine at_pures 1 (by kernel_rfl) (by kernel_rfl) ?_
    refine at_done (by kernel_rfl) ?_
    refine then_n ?_
    refine c_ret (by kernel_rfl) ?_
    refine then_r ?_
    refine fin_ret (.bool true) (by kernel_rfl) (by kernel_rfl) ?_
    exact ⟨(by rw [largeR_yes (by first | exact .inl (by omega) | exact .inr (.inl (by omega)) | exact .inr (.inr (by have h1 := lensum_le ls (k + 1); rw [lensum_snoc hx_x] at h1; omega)))]), (Fr.refl w N0)⟩
  · -- no
    replace c1_ : ¬ ((s.size : Int) > (2000 : Int)) := of_decide_eq_false c1_
    refine at_pures 8 (by kernel_rfl) (by kernel_rfl) ?_
    refine at_done (by kernel_rfl) ?_
    refine then_n ?_
    refine c_if (.tmp 15) (decide ((ls.length : Int) > (300 : Int))) [1, 0, 1, 0] [1, 0, 1, 1] (by kernel_rfl) (by kernel_rfl) (fun c2_ => ?_) (fun c2_ => ?_)
    · -- yes
      replace c2_ : (ls.length : Int) > (300 : Int) := of_decide_eq_true c2_
      refine c_seq [1, 0, 1, 0, 0] [1, 0, 1, 0, 1] (by kernel_rfl) ?_
      refine c_reg 2 large3_c_R2 (by kernel_rfl) ?_
      refine at_pures 1 (by kernel_rfl) (by kernel_rfl) ?_
      refine at_done (by kernel_rfl) ?_
      refine then_n ?_
      refine c_ret (by kernel_rfl) ?_
      refine then_r ?_
      refine fin_ret (.bool true) (by kernel_rfl) (by kernel_rfl) ?_
      exact ⟨(by rw [largeR_yes (by first | exact .inl (by omega) | exact .inr (.inl (by omega)) | exact .inr (.inr (by have h1 := lensum_le ls (k + 1); rw [lensum_snoc hx_x] at h1; omega)))]), (Fr.refl w N0)⟩
    · -- no
      replace c2_ : ¬ ((ls.length : Int) > (300 : Int)) := of_decide_eq_false c2_
      refine c_skip (by kernel_rfl) ?_
      refine then_n ?_
      refine c_seq [1, 1, 0] [1, 1, 1] (by kernel_rfl) ?_
      refine c_reg 3 large3_c_R3 (by kernel_rfl) ?_
      refine at_pures 1 (by kernel_rfl) (by kernel_rfl) ?_
      refine at_done (by kernel_rfl) ?_
      refine then_n ?_
      refine c_seq [1, 1, 1, 0] [1, 1, 1, 1] (by kernel_rfl) ?_
      refine c_seq [1, 1, 1, 0, 0] [1, 1, 1, 0, 1] (by kernel_rfl) ?_
      refine c_reg 4 large3_c_R4 (by kernel_rfl) ?_
      refine at_pures 3 (by kernel_rfl) (by kernel_rfl) ?_
      refine at_done (by kernel_rfl) ?_
      refine then_n ?_
      refine c_block 0 [1, 1, 1, 0, 1, 0] (by kernel_rfl) ?_
      refine c_loop (fun a w' => ∃ (k : Nat), (∃ u, a = mk 32 [(0, (.string s)), (1, (.slice ao ls.length cap)), (5, (.int .i64 (lensum (ls.take k) : Int))), (8, (.string s)), (9, (.int .i64 (s.size : Int))), (10, (.bool (decide ((s.size : Int) > (2000 : Int))))), (11, (.bool false)), (12, (.slice ao ls.length cap)), (13, (.int .i64 (ls.length : Int))), (14, (.bool (decide ((ls.length : Int) > (300 : Int))))), (15, (.bool (decide ((ls.length : Int) > (300 : Int))))), (16, (.slice ao ls.length cap)), (17, (.int .i64 (ls.length : Int))), (18, (.int .i64 (k : Int)))] u) ∧ (k ≤ ls.length) ∧ (lensum (ls.take k) ≤ 2000) ∧ (RowsAt fp w' ao ls) ∧ (Fr w w' N0)) (fun a _ => cnt (ls.length) 18 a) [1, 1, 1, 0, 1, 0, 0] (by kernel_rfl) ⟨0, is_mk (by kernel_rfl) (by kernel_rfl) (by kernel_rfl), ⟨Nat.zero_le _, Nat.zero_le _, h_ls, (Fr.refl w N0)⟩⟩ ?_
      rintro a4_ w5_ ⟨k, ⟨u6_, rfl⟩, ⟨hk, hS, q_0L3_, hFrL3_⟩⟩
      refine c_seq [1, 1, 1, 0, 1, 0, 0, 0] [1, 1, 1, 0, 1, 0, 0, 1] (by kernel_rfl) ?_
      refine c_reg 5 large3_c_R5 (by kernel_rfl) ?_
      refine at_pures 1 (by kernel_rfl) (by kernel_rfl) ?_
      refine at_done (by kernel_rfl) ?_
      refine then_n ?_
      refine c_seq [1, 1, 1, 0, 1, 0, 0, 1, 0] [1, 1, 1, 0, 1, 0, 0, 1, 1] (by kernel_rfl) ?_
      refine c_if (.tmp 19) (decide ((k : Int) < (ls.length : Int))) [1, 1, 1, 0, 1, 0, 0, 1, 0, 0] [1, 1, 1, 0, 1, 0, 0, 1, 0, 1] (by kernel_rfl) (by kernel_rfl) (fun c7_ => ?_) (fun c7_ => ?_)
      · -- yes
        replace c7_ : (k : Int) < (ls.length : Int) := of_decide_eq_true c7_
        refine c_skip (by kernel_rfl) ?_
        refine then_n ?_
        refine c_seq [1, 1, 1, 0, 1, 0, 0, 1, 1, 0] [1, 1, 1, 0, 1, 0, 0, 1, 1, 1] (by kernel_rfl) ?_
        refine c_block 1 [1, 1, 1, 0, 1, 0, 0, 1, 1, 0, 0] (by kernel_rfl) ?_
        refine c_seq [1, 1, 1, 0, 1, 0, 0, 1, 1, 0, 0, 0] [1, 1, 1, 0, 1, 0, 0, 1, 1, 0, 0, 1] (by kernel_rfl) ?_
        refine c_reg 6 large3_c_R6 (by kernel_rfl) ?_
        obtain ⟨x, hx_x⟩ : ∃ x, ls[k]? = some x := ⟨_, List.getElem?_eq_getElem (by omega)⟩
        have hm_x := List.mem_of_getElem? hx_x; have ho_x := RowsAt.ok q_0L3_ x hm_x; have hi_x := RowsAt.in2 q_0L3_ x hm_x; have hB_x := ho_x.b; have hc_x := ho_x.cap
        obtain ⟨ad8_, ha9_⟩ := (RowsAt.rd q_0L3_).has (k * 1) (by rw [cellsR_length]; omega)
        refine at_run (.pointer (some (ad8_.add (k * 1)))) _ (by kernel_rfl) (run_idx_o 29 (.tmp 16) (.tmp 18) 1 ao ad8_ ls.length cap .i64 k (by kernel_rfl) (by kernel_rfl) (by kernel_rfl) (by kernel_rfl) (by kernel_rfl) ha9_ (by omega)) ?_
        refine at_run (.slice x.ao x.b.length x.cap) _ (by kernel_rfl) (run_loadE1 22 (.tmp 20) ao ad8_ (k * 1) (cellsR ls) (.slice x.ao x.b.length x.cap) (by kernel_rfl) (by kernel_rfl) (by kernel_rfl) ha9_ (RowsAt.rd q_0L3_) (cellsR_get ls k x hx_x)) ?_
        refine at_pures 3 (by kernel_rfl) (by kernel_rfl) ?_
        refine at_done (by kernel_rfl) ?_
        refine then_n ?_
        refine c_seq [1, 1, 1, 0, 1, 0, 0, 1, 1, 0, 0, 1, 0] [1, 1, 1, 0, 1, 0, 0, 1, 1, 0, 0, 1, 1] (by kernel_rfl) ?_
        refine c_seq [1, 1, 1, 0, 1, 0, 0, 1, 1, 0, 0, 1, 0, 0] [1, 1, 1, 0, 1, 0, 0, 1, 1, 0, 0, 1, 0, 1] (by kernel_rfl) ?_
        refine c_reg 7 large3_c_R7 (by kernel_rfl) ?_
        refine at_pures 3 (by kernel_rfl) (by kernel_rfl) ?_
        refine at_int (kd := .i64) (IntKind.i64.wrap ((2000 : Int) - (lensum (ls.take k) : Int))) ((2000 : Int) - (lensum (ls.take k) : Int)) (by kernel_rfl) (by kernel_rfl) (wrapN_i64 (by omega) (by omega)) ?_
        refine at_pures 5 (by kernel_rfl) (by kernel_rfl) ?_
        refine at_done (by kernel_rfl) ?_
        refine then_n ?_
        refine c_if (.tmp 26) (decide ((x.b.length : Int) > ((2000 : Int) - (lensum (ls.take k) : Int)))) [1, 1, 1, 0, 1, 0, 0, 1, 1, 0, 0, 1, 0, 1, 0] [1, 1, 1, 0, 1, 0, 0, 1, 1, 0, 0, 1, 0, 1, 1] (by kernel_rfl) (by kernel_rfl) (fun c10_ => ?_) (fun c10_ => ?_)
        · -- yes
          replace c10_ : (x.b.length : Int) > ((2000 : Int) - (lensum (ls.take k) : Int)) := of_decide_eq_true c10_
          refine c_seq [1, 1, 1, 0, 1, 0, 0, 1, 1, 0, 0, 1, 0, 1, 0, 0] [1, 1, 1, 0, 1, 0, 0, 1, 1, 0, 0, 1, 0, 1, 0, 1] (by kernel_rfl) ?_
          refine c_reg 8 large3_c_R8 (by kernel_rfl) ?_
          refine at_pures 1 (by kernel_rfl) (by kernel_rfl) ?_
          refine at_done (by kernel_rfl) ?_
          refine then_n ?_
          refine c_ret (by kernel_rfl) ?_
          refine then_r ?_
          refine blk_r ?_
          refine then_r ?_
          refine then_r ?_
          refine blk_r ?_
          refine then_r ?_
          refine fin_ret (.bool true) (by kernel_rfl) (by kernel_rfl) ?_
          exact ⟨(by rw [largeR_yes (by first | exact .inl (by omega) | exact .inr (.inl (by omega)) | exact .inr (.inr (by have h1 := lensum_le ls (k + 1); rw [lensum_snoc hx_x] at h1; omega)))]), hFrL3_⟩
        · -- no
          replace c10_ : ¬ ((x.b.length : Int) > ((2000 : Int) - (lensum (ls.take k) : Int))) := of_decide_eq_false c10_
          refine c_skip (by kernel_rfl) ?_
          refine then_n ?_
          refine c_reg 9 large3_c_R9 (by kernel_rfl) ?_
          refine at_pures 3 (by kernel_rfl) (by kernel_rfl) ?_
          refine at_int (kd := .i64) (IntKind.i64.wrap ((lensum (ls.take k) : Int) + (x.b.length : Int))) ((lensum (ls.take (k + 1)) : Int)) (by kernel_rfl) (by kernel_rfl) (by rw [wrapN_i64 (by omega) (by omega), lensum_snoc hx_x]; omega) ?_
          refine at_pures 5 (by kernel_rfl) (by kernel_rfl) ?_
          refine at_done (by kernel_rfl) ?_
          refine blk_n ?_
          refine then_n ?_
          refine c_reg 10 large3_c_R10 (by kernel_rfl) ?_
          refine at_int (kd := .i64) (IntKind.i64.wrap ((k : Int) + (1 : Int))) ((k : Int) + (1 : Int)) (by kernel_rfl) (by kernel_rfl) (wrapN_i64 (by omega) (by omega)) ?_
          refine at_pures 2 (by kernel_rfl) (by kernel_rfl) ?_
          refine at_done (by kernel_rfl) ?_
          refine then_n ?_
          exact ⟨⟨k + 1, is_mk (by kernel_rfl) (by kernel_rfl) (by kernel_rfl), ⟨(by omega), (by rw [lensum_snoc hx_x]; omega), q_0L3_, hFrL3_⟩⟩, cnt_lt (k := (k : Int)) (k' := ((k : Int) + (1 : Int))) (by kernel_rfl) (by kernel_rfl) (by omega) (by omega)⟩
      · -- no
        replace c7_ : ¬ ((k : Int) < (ls.length : Int)) := of_decide_eq_false c7_
        refine c_exit 0 (by kernel_rfl) ?_
        refine then_e ?_
        refine then_e ?_
        refine blk_hit ?_
        refine then_n ?_
        refine c_seq [1, 1, 1, 1, 0] [1, 1, 1, 1, 1] (by kernel_rfl) ?_
        refine c_reg 11 large3_c_R11 (by kernel_rfl) ?_
        refine at_pures 1 (by kernel_rfl) (by kernel_rfl) ?_
        refine at_done (by kernel_rfl) ?_
        refine then_n ?_
        refine c_ret (by kernel_rfl) ?_
        refine fin_ret (.bool false) (by kernel_rfl) (by kernel_rfl) ?_
        exact ⟨(by rw [List.take_of_length_le (by omega)] at hS; rw [largeR_no (by omega) (by omega) hS]), hFrL3_⟩

noncomputable def tagTells_c_R0 : Array Oper := rAt Tryd.prog 6 [0]
noncomputable def tagTells_c_R1 : Array Oper := rAt Tryd.prog 6 [1, 0, 0]
noncomputable def tagTells_c_R3 : Array Oper := rAt Tryd.prog 6 [1, 1, 0, 0]
noncomputable def tagTells_c_R4 : Array Oper := rAt Tryd.prog 6 [1, 1, 0, 1, 0, 0]
noncomputable def tagTells_c_R5 : Array Oper := rAt Tryd.prog 6 [1, 1, 1, 0]
noncomputable def tagTells_c_R6 : Array Oper := rAt Tryd.prog 6 [1, 1, 1, 1, 0]
noncomputable def tagTells_c_R7 : Array Oper := rAt Tryd.prog 6 [1, 1, 1, 1, 1, 0]
set_option maxRecDepth 100000 in
theorem tagTells_c (s : ByteArray) (fp : Nat → Prop) (ao : Option Addr) (cap : Nat) (ls : List BSl) (w : World) (h_ls : RowsAt fp w ao ls) (h_ks0 : Rd w (some ⟨0, 0, none⟩) ((hw KL).toList)) (h_ks1 : Rd w (some ⟨1, 0, none⟩) ((hw KL).toList)) (hn : ls.length ≤ 9223372036854775807) :
    Calls Tryd.prog 6 #[(.string s), (.slice ao ls.length cap)] w fun e w' => e = .returned (.bool true) ∧ Fr w w' N0 := by
  refine c_enter (mk 43 [(0, (.string s)), (1, (.slice ao ls.length cap))] (fun _ => undef)) Tryd.func6 (by kernel_rfl) (by kernel_rfl) ?_
  refine c_seq [0] [1] (by kernel_rfl) ?_
  refine c_reg 0 tagTells_c_R0 (by kernel_rfl) ?_
  refine at_pures 1 (by kernel_rfl) (by kernel_rfl) ?_
  refine at_done (by kernel_rfl) ?_
  refine then_n ?_
  refine c_seq [1, 0] [1, 1] (by kernel_rfl) ?_
  refine c_seq [1, 0, 0] [1, 0, 1] (by kernel_rfl) ?_
  refine c_reg 1 tagTells_c_R1 (by kernel_rfl) ?_
  refine at_do (by kernel_rfl) (op_call 19 #[] #[] (by kernel_rfl) (by kernel_rfl) (by kernel_rfl) ?_)
  have C5_ := awake3_c  w h_ks0 h_ks1  
  refine Calls.mono C5_ ?_
  rintro e4_ w2_ ⟨rfl, F3_⟩
  have T6_ := Fr.tr (Fr.refl w N0) F3_
  have h7_ := RowsAt.keep h_ls F3_ Dis.n0
  have h8_ := Rd.keep' h_ks0 F3_ Dis.n0
  have h9_ := Rd.keep' h_ks1 F3_ Dis.n0
  refine ⟨_, rfl, ?_⟩
  refine at_pures 2 (by kernel_rfl) (by kernel_rfl) ?_
  refine at_done (by kernel_rfl) ?_
  refine then_n ?_
  refine c_else (.tmp 10) [1, 0, 1, 0] [1, 0, 1, 1] (by kernel_rfl) (by kernel_rfl) ?_
  refine c_skip (by kernel_rfl) ?_
  refine then_n ?_
  refine c_seq [1, 1, 0] [1, 1, 1] (by kernel_rfl) ?_
  refine c_seq [1, 1, 0, 0] [1, 1, 0, 1] (by kernel_rfl) ?_
  refine c_reg 3 tagTells_c_R3 (by kernel_rfl) ?_
  refine at_pures 2 (by kernel_rfl) (by kernel_rfl) ?_
  refine at_do (by kernel_rfl) (op_call 20 #[(.tmp 11), (.tmp 12)] #[(.string s), (.slice ao ls.length cap)] (by kernel_rfl) (by kernel_rfl) (by kernel_rfl) ?_)
  have C14_ := large3_c s fp ao cap ls w2_ h7_  (by first | omega | with_reducible assumption | (simp only [List.length_append, List.length_cons, List.length_nil, putB_length]; omega) | decide)
  refine Calls.mono C14_ ?_
  rintro e13_ w11_ ⟨rfl, F12_⟩
  have T15_ := Fr.tr T6_ F12_
  have h16_ := RowsAt.keep h7_ F12_ Dis.n0
  have h17_ := Rd.keep' h8_ F12_ Dis.n0
  have h18_ := Rd.keep' h9_ F12_ Dis.n0
  refine ⟨_, rfl, ?_⟩
  refine at_done (by kernel_rfl) ?_
  refine then_n ?_
  refine c_if (.tmp 13) ((largeR s.size ls)) [1, 1, 0, 1, 0] [1, 1, 0, 1, 1] (by kernel_rfl) (by kernel_rfl) (fun c19_ => ?_) (fun c19_ => ?_)
  · -- yes
    refine c_seq [1, 1, 0, 1, 0, 0] [1, 1, 0, 1, 0, 1] (by kernel_rfl) ?_
    refine c_reg 4 tagTells_c_R4 (by kernel_rfl) ?_
    refine at_pures 1 (by kernel_rfl) (by kernel_rfl) ?_
    refine at_done (by kernel_rfl) ?_
    refine then_n ?_
    refine c_ret (by kernel_rfl) ?_
    refine then_r ?_
    refine fin_ret (.bool true) (by kernel_rfl) (by kernel_rfl) ?_
    exact ⟨rfl, T15_⟩
  · -- no
    refine c_skip (by kernel_rfl) ?_
    refine then_n ?_
    refine c_seq [1, 1, 1, 0] [1, 1, 1, 1] (by kernel_rfl) ?_
    refine c_reg 5 tagTells_c_R5 (by kernel_rfl) ?_
    refine at_pures 2 (by kernel_rfl) (by kernel_rfl) ?_
    have hlg_a := largeR_spec (n := s.size) (ls := ls) (by assumption); have hls_a := hlg_a.2.2.2; have hil_a := imgL_le (sB s) ls
    refine at_do (by kernel_rfl) (op_call 21 #[(.tmp 15), (.tmp 16)] #[(.string s), (.slice ao ls.length cap)] (by kernel_rfl) (by kernel_rfl) (by kernel_rfl) ?_)
    have C27_ := image_c s fp ao cap ls w11_ h16_  (by first | omega | with_reducible assumption | (simp only [List.length_append, List.length_cons, List.length_nil, putB_length]; omega) | decide) (by first | omega | with_reducible assumption)
    refine Calls.mono C27_ ?_
    rintro e26_ w24_ ⟨vout20_, rfl, h21_, F25_, h23_⟩
    have d28_ : Dis (Own vout20_) fp := Dis.fresh h23_ (RowsAt.in h16_)
    have d29_ : Dis (Own vout20_) (Ar (some ⟨0, 0, none⟩) ((hw KL).toList)) := Dis.fresh h23_ (Rd.in h17_)
    have d30_ : Dis (Own vout20_) (Ar (some ⟨1, 0, none⟩) ((hw KL).toList)) := Dis.fresh h23_ (Rd.in h18_)
    have T31_ := Fr.tr T15_ F25_
    have h32_ := RowsAt.keep h16_ F25_ Dis.n0
    have h33_ := Rd.keep' h17_ F25_ Dis.n0
    have h34_ := Rd.keep' h18_ F25_ Dis.n0
    have N36_ : New w N0 (Own vout20_) := New.later' h23_ (Fr.size T15_)
    obtain ⟨ao37_, cap38_, rfl, hc39_, hm40_, hR41_, ho42_⟩ := Row.read h21_
    refine ⟨_, rfl, ?_⟩
    refine at_pures 8 (by kernel_rfl) (by kernel_rfl) ?_
    refine at_done (by kernel_rfl) ?_
    refine then_n ?_
    refine c_seq [1, 1, 1, 1, 0] [1, 1, 1, 1, 1] (by kernel_rfl) ?_
    refine c_reg 6 tagTells_c_R6 (by kernel_rfl) ?_
    refine at_pures 2 (by kernel_rfl) (by kernel_rfl) ?_
    refine at_do (by kernel_rfl) (op_call 22 #[(.tmp 21), (.tmp 22)] #[(.string s), (.slice ao ls.length cap)] (by kernel_rfl) (by kernel_rfl) (by kernel_rfl) ?_)
    have C50_ := rimage_c s fp ao cap ls w24_ h32_  (by first | omega | with_reducible assumption | (simp only [List.length_append, List.length_cons, List.length_nil, putB_length]; omega) | decide) (by first | omega | with_reducible assumption)
    refine Calls.mono C50_ ?_
    rintro e49_ w47_ ⟨vout43_, rfl, h44_, F48_, h46_⟩
    have d51_ : Dis (Own vout43_) fp := Dis.fresh h46_ (RowsAt.in h32_)
    have d52_ : Dis (Own vout43_) (Ar (some ⟨0, 0, none⟩) ((hw KL).toList)) := Dis.fresh h46_ (Rd.in h33_)
    have d53_ : Dis (Own vout43_) (Ar (some ⟨1, 0, none⟩) ((hw KL).toList)) := Dis.fresh h46_ (Rd.in h34_)
    have d54_ : Dis (Own vout43_) (Own (.slice ao37_ ((imgL (sB s) ls).length) cap38_)) := Dis.fresh h46_ (Row.in h21_)
    have T55_ := Fr.tr T31_ F48_
    have h56_ := RowsAt.keep h32_ F48_ Dis.n0
    have h57_ := Rd.keep' h33_ F48_ Dis.n0
    have h58_ := Rd.keep' h34_ F48_ Dis.n0
    have h59_ := Row.keep h21_ F48_ Dis.n0
    have N61_ : New w N0 (Own vout43_) := New.later' h46_ (Fr.size T31_)
    obtain ⟨ao62_, cap63_, rfl, hc64_, hm65_, hR66_, ho67_⟩ := Row.read h44_
    refine ⟨_, rfl, ?_⟩
    refine at_pures 8 (by kernel_rfl) (by kernel_rfl) ?_
    refine at_done (by kernel_rfl) ?_
    refine then_n ?_
    refine c_seq [1, 1, 1, 1, 1, 0] [1, 1, 1, 1, 1, 1] (by kernel_rfl) ?_
    refine c_reg 7 tagTells_c_R7 (by kernel_rfl) ?_
    refine at_pures 2 (by kernel_rfl) (by kernel_rfl) ?_
    refine at_do (by kernel_rfl) (op_call 23 #[(.tmp 26), (.tmp 27)] #[(.slice ao37_ ((imgL (sB s) ls).length) cap38_), (.slice ao62_ ((imgL (sB s) ls).length) cap63_)] (by kernel_rfl) (by kernel_rfl) (by kernel_rfl) ?_)
    have C72_ := same_c (.slice ao37_ ((imgL (sB s) ls).length) cap38_) (imgL (sB s) ls) (.slice ao62_ ((imgL (sB s) ls).length) cap63_) (imgL (sB s) ls) w47_ (Row.sl h59_) (Row.sl h44_)  (by first | omega | with_reducible assumption | (simp only [List.length_append, List.length_cons, List.length_nil, putB_length]; omega) | decide) (by first | omega | with_reducible assumption | (simp only [List.length_append, List.length_cons, List.length_nil, putB_length]; omega) | decide)
    refine Calls.mono C72_ ?_
    rintro e71_ w69_ ⟨rfl, F70_⟩
    have T73_ := Fr.tr T55_ F70_
    have h74_ := RowsAt.keep h56_ F70_ Dis.n0
    have h75_ := Rd.keep' h57_ F70_ Dis.n0
    have h76_ := Rd.keep' h58_ F70_ Dis.n0
    have h77_ := Row.keep h59_ F70_ Dis.n0
    have h78_ := Row.keep h44_ F70_ Dis.n0
    refine ⟨(.bool true), (by rw [decide_eq_true rfl]), ?_⟩
    refine at_pures 6 (by kernel_rfl) (by kernel_rfl) ?_
    refine at_as (.bool (((imgE s.size ls.length : Nat) : Int) == ((imgE s.size ls.length : Nat) : Int))) (.bool true) (by kernel_rfl) (by kernel_rfl) (congrArg Value.bool (beq_self_eq_true _)) ?_
    refine at_pures 11 (by kernel_rfl) (by kernel_rfl) ?_
    refine at_do (by kernel_rfl) (op_call 24 #[(.tmp 35), (.tmp 36)] #[(.string s), (.slice ao ls.length cap)] (by kernel_rfl) (by kernel_rfl) (by kernel_rfl) ?_)
    have C83_ := tagof_c s fp ao cap ls w69_ h74_ h76_  (by first | omega | with_reducible assumption | (simp only [List.length_append, List.length_cons, List.length_nil, putB_length]; omega) | decide) (by first | omega | with_reducible assumption)
    refine Calls.mono C83_ ?_
    rintro e82_ w80_ ⟨rfl, F81_⟩
    have T84_ := Fr.tr T73_ F81_
    have h85_ := RowsAt.keep h74_ F81_ Dis.n0
    have h86_ := Rd.keep' h75_ F81_ Dis.n0
    have h87_ := Rd.keep' h76_ F81_ Dis.n0
    have h88_ := Row.keep h77_ F81_ Dis.n0
    have h89_ := Row.keep h78_ F81_ Dis.n0
    refine ⟨_, rfl, ?_⟩
    refine at_pures 14 (by kernel_rfl) (by kernel_rfl) ?_
    refine at_do (by kernel_rfl) (op_call 25 #[(.tmp 38), (.tmp 39)] #[(.string s), (.slice ao ls.length cap)] (by kernel_rfl) (by kernel_rfl) (by kernel_rfl) ?_)
    have C94_ := rtagof_c s fp ao cap ls w80_ h85_ h86_  (by first | omega | with_reducible assumption | (simp only [List.length_append, List.length_cons, List.length_nil, putB_length]; omega) | decide) (by first | omega | with_reducible assumption)
    refine Calls.mono C94_ ?_
    rintro e93_ w91_ ⟨rfl, F92_⟩
    have T95_ := Fr.tr T84_ F92_
    have h96_ := RowsAt.keep h85_ F92_ Dis.n0
    have h97_ := Rd.keep' h86_ F92_ Dis.n0
    have h98_ := Rd.keep' h87_ F92_ Dis.n0
    have h99_ := Row.keep h88_ F92_ Dis.n0
    have h100_ := Row.keep h89_ F92_ Dis.n0
    refine ⟨_, rfl, ?_⟩
    refine at_run (.bool true) _ (by kernel_rfl) (run_eq_hash_self 25 (.tmp 37) (.tmp 40) (tagL (sB s) ls) (by kernel_rfl) (by kernel_rfl) (by kernel_rfl) (by kernel_rfl) (by kernel_rfl) (by kernel_rfl) (tagL_length _ _) (tagL_byt _ _)) ?_
    refine at_pures 18 (by kernel_rfl) (by kernel_rfl) ?_
    refine at_done (by kernel_rfl) ?_
    refine then_n ?_
    refine c_ret (by kernel_rfl) ?_
    refine fin_ret (.bool true) (by kernel_rfl) (by kernel_rfl) ?_
    exact ⟨rfl, T95_⟩

noncomputable def tagApart_c_R0 : Array Oper := rAt Tryd.prog 7 [0]
noncomputable def tagApart_c_R1 : Array Oper := rAt Tryd.prog 7 [1, 0, 0]
noncomputable def tagApart_c_R3 : Array Oper := rAt Tryd.prog 7 [1, 1, 0, 0]
noncomputable def tagApart_c_R4 : Array Oper := rAt Tryd.prog 7 [1, 1, 0, 1, 0, 0]
noncomputable def tagApart_c_R5 : Array Oper := rAt Tryd.prog 7 [1, 1, 1, 0]
noncomputable def tagApart_c_R6 : Array Oper := rAt Tryd.prog 7 [1, 1, 1, 1, 0]
noncomputable def tagApart_c_R7 : Array Oper := rAt Tryd.prog 7 [1, 1, 1, 1, 1, 0, 0]
noncomputable def tagApart_c_R8 : Array Oper := rAt Tryd.prog 7 [1, 1, 1, 1, 1, 0, 1, 0, 0]
noncomputable def tagApart_c_R9 : Array Oper := rAt Tryd.prog 7 [1, 1, 1, 1, 1, 1, 0]
noncomputable def tagApart_c_R10 : Array Oper := rAt Tryd.prog 7 [1, 1, 1, 1, 1, 1, 1, 0, 0]
noncomputable def tagApart_c_R11 : Array Oper := rAt Tryd.prog 7 [1, 1, 1, 1, 1, 1, 1, 0, 1, 0, 0, 0, 0]
noncomputable def tagApart_c_R13 : Array Oper := rAt Tryd.prog 7 [1, 1, 1, 1, 1, 1, 1, 0, 1, 0, 0, 1, 0, 0]
def tagApart_c_sk13 : Nat → Bool := fun i => decide (i ∈ [4, 5, 6, 7])
def tagApart_c_pl13 : List (Nat × PK) := [(0, .q false), (1, .q false), (2, .q false), (3, .q true), (4, .q false), (5, .q false), (6, .q false), (7, .q true), (8, .e), (9, .q false)]
noncomputable def tagApart_c_R12 : Array Oper := rAt Tryd.prog 7 [1, 1, 1, 1, 1, 1, 1, 0, 1, 0, 0, 1, 1]
noncomputable def tagApart_c_R14 : Array Oper := rAt Tryd.prog 7 [1, 1, 1, 1, 1, 1, 1, 1, 0]
set_option maxRecDepth 100000 in
theorem tagApart_c (s : ByteArray) (t : ByteArray) (fp : Nat → Prop) (ao : Option Addr) (cap : Nat) (ls : List BSl) (bo : Option Addr) (bcap : Nat) (ms : List BSl) (w : World) (h_ls : RowsAt fp w ao ls) (h_ms : RowsAt fp w bo ms) (h_ks0 : Rd w (some ⟨0, 0, none⟩) ((hw KL).toList)) (h_ks1 : Rd w (some ⟨1, 0, none⟩) ((hw KL).toList)) (hn : ls.length ≤ 9223372036854775807) (hn2 : ms.length ≤ 9223372036854775807) :
    Calls Tryd.prog 7 #[(.string s), (.string t), (.slice ao ls.length cap), (.slice bo ms.length bcap)] w fun e w' => e = .returned (.bool true) ∧ Fr w w' N0 := by
  by_cases hb1 : imgBad s.size ls.length <;> by_cases hb2 : imgBad t.size ms.length
  · -- (True, True)
    refine c_enter (mk 100 [(0, (.string s)), (1, (.string t)), (2, (.slice ao ls.length cap)), (3, (.slice bo ms.length bcap))] (fun _ => undef)) Tryd.func7 (by kernel_rfl) (by kernel_rfl) ?_
    refine c_seq [0] [1] (by kernel_rfl) ?_
    refine c_reg 0 tagApart_c_R0 (by kernel_rfl) ?_
    refine at_pures 1 (by kernel_rfl) (by kernel_rfl) ?_
    refine at_done (by kernel_rfl) ?_
    refine then_n ?_
    refine c_seq [1, 0] [1, 1] (by kernel_rfl) ?_
    refine c_seq [1, 0, 0] [1, 0, 1] (by kernel_rfl) ?_
    refine c_reg 1 tagApart_c_R1 (by kernel_rfl) ?_
    refine at_do (by kernel_rfl) (op_call 19 #[] #[] (by kernel_rfl) (by kernel_rfl) (by kernel_rfl) ?_)
    have C5_ := awake3_c  w h_ks0 h_ks1  
    refine Calls.mono C5_ ?_
    rintro e4_ w2_ ⟨rfl, F3_⟩
    have T6_ := Fr.tr (Fr.refl w N0) F3_
    have h7_ := RowsAt.keep h_ls F3_ Dis.n0
    have h8_ := RowsAt.keep h_ms F3_ Dis.n0
    have h9_ := Rd.keep' h_ks0 F3_ Dis.n0
    have h10_ := Rd.keep' h_ks1 F3_ Dis.n0
    refine ⟨_, rfl, ?_⟩
    refine at_pures 2 (by kernel_rfl) (by kernel_rfl) ?_
    refine at_done (by kernel_rfl) ?_
    refine then_n ?_
    refine c_else (.tmp 16) [1, 0, 1, 0] [1, 0, 1, 1] (by kernel_rfl) (by kernel_rfl) ?_
    refine c_skip (by kernel_rfl) ?_
    refine then_n ?_
    refine c_seq [1, 1, 0] [1, 1, 1] (by kernel_rfl) ?_
    refine c_seq [1, 1, 0, 0] [1, 1, 0, 1] (by kernel_rfl) ?_
    refine c_reg 3 tagApart_c_R3 (by kernel_rfl) ?_
    refine at_pures 2 (by kernel_rfl) (by kernel_rfl) ?_
    refine at_do (by kernel_rfl) (op_call 20 #[(.tmp 17), (.tmp 18)] #[(.string s), (.slice ao ls.length cap)] (by kernel_rfl) (by kernel_rfl) (by kernel_rfl) ?_)
    have C15_ := large3_c s fp ao cap ls w2_ h7_  (by first | omega | with_reducible assumption | (simp only [List.length_append, List.length_cons, List.length_nil, putB_length]; omega) | decide)
    refine Calls.mono C15_ ?_
    rintro e14_ w12_ ⟨rfl, F13_⟩
    have T16_ := Fr.tr T6_ F13_
    have h17_ := RowsAt.keep h7_ F13_ Dis.n0
    have h18_ := RowsAt.keep h8_ F13_ Dis.n0
    have h19_ := Rd.keep' h9_ F13_ Dis.n0
    have h20_ := Rd.keep' h10_ F13_ Dis.n0
    refine ⟨_, rfl, ?_⟩
    refine at_split ((largeR s.size ls)) (by kernel_rfl) (by kernel_rfl) (fun c21_ => ?_) (fun c21_ => ?_)
    · -- yes
      refine at_pures 8 (by kernel_rfl) (by kernel_rfl) ?_
      refine at_done (by kernel_rfl) ?_
      refine then_n ?_
      refine c_then (.tmp 24) [1, 1, 0, 1, 0] [1, 1, 0, 1, 1] (by kernel_rfl) (by kernel_rfl) ?_
      refine c_seq [1, 1, 0, 1, 0, 0] [1, 1, 0, 1, 0, 1] (by kernel_rfl) ?_
      refine c_reg 4 tagApart_c_R4 (by kernel_rfl) ?_
      refine at_pures 1 (by kernel_rfl) (by kernel_rfl) ?_
      refine at_done (by kernel_rfl) ?_
      refine then_n ?_
      refine c_ret (by kernel_rfl) ?_
      refine then_r ?_
      refine fin_ret (.bool true) (by kernel_rfl) (by kernel_rfl) ?_
      exact ⟨rfl, T16_⟩
    · -- no
      refine at_pures 6 (by kernel_rfl) (by kernel_rfl) ?_
      refine at_do (by kernel_rfl) (op_call 20 #[(.tmp 21), (.tmp 22)] #[(.string t), (.slice bo ms.length bcap)] (by kernel_rfl) (by kernel_rfl) (by kernel_rfl) ?_)
      have C26_ := large3_c t fp bo bcap ms w12_ h18_  (by first | omega | with_reducible assumption | (simp only [List.length_append, List.length_cons, List.length_nil, putB_length]; omega) | decide)
      refine Calls.mono C26_ ?_
      rintro e25_ w23_ ⟨rfl, F24_⟩
      have T27_ := Fr.tr T16_ F24_
      have h28_ := RowsAt.keep h17_ F24_ Dis.n0
      have h29_ := RowsAt.keep h18_ F24_ Dis.n0
      have h30_ := Rd.keep' h19_ F24_ Dis.n0
      have h31_ := Rd.keep' h20_ F24_ Dis.n0
      refine ⟨_, rfl, ?_⟩
      refine at_pures 8 (by kernel_rfl) (by kernel_rfl) ?_
      refine at_done (by kernel_rfl) ?_
      refine then_n ?_
      refine c_if (.tmp 24) ((largeR t.size ms)) [1, 1, 0, 1, 0] [1, 1, 0, 1, 1] (by kernel_rfl) (by kernel_rfl) (fun c32_ => ?_) (fun c32_ => ?_)
      · -- yes
        refine c_seq [1, 1, 0, 1, 0, 0] [1, 1, 0, 1, 0, 1] (by kernel_rfl) ?_
        refine c_reg 4 tagApart_c_R4 (by kernel_rfl) ?_
        refine at_pures 1 (by kernel_rfl) (by kernel_rfl) ?_
        refine at_done (by kernel_rfl) ?_
        refine then_n ?_
        refine c_ret (by kernel_rfl) ?_
        refine then_r ?_
        refine fin_ret (.bool true) (by kernel_rfl) (by kernel_rfl) ?_
        exact ⟨rfl, T27_⟩
      · -- no
        refine c_skip (by kernel_rfl) ?_
        refine then_n ?_
        refine c_seq [1, 1, 1, 0] [1, 1, 1, 1] (by kernel_rfl) ?_
        refine c_reg 5 tagApart_c_R5 (by kernel_rfl) ?_
        refine at_pures 2 (by kernel_rfl) (by kernel_rfl) ?_
        have hlg_a := largeR_spec (n := s.size) (ls := ls) (by assumption); have hls_a := hlg_a.2.2.2; have hil_a := imgL_le (sB s) ls
        refine at_do (by kernel_rfl) (op_call 21 #[(.tmp 26), (.tmp 27)] #[(.string s), (.slice ao ls.length cap)] (by kernel_rfl) (by kernel_rfl) (by kernel_rfl) ?_)
        have C40_ := image_c s fp ao cap ls w23_ h28_  (by first | omega | with_reducible assumption | (simp only [List.length_append, List.length_cons, List.length_nil, putB_length]; omega) | decide) (by first | omega | with_reducible assumption)
        refine Calls.mono C40_ ?_
        rintro e39_ w37_ ⟨vout33_, rfl, h34_, F38_, h36_⟩
        have d41_ : Dis (Own vout33_) fp := Dis.fresh h36_ (RowsAt.in h28_)
        have d42_ : Dis (Own vout33_) fp := Dis.fresh h36_ (RowsAt.in h29_)
        have d43_ : Dis (Own vout33_) (Ar (some ⟨0, 0, none⟩) ((hw KL).toList)) := Dis.fresh h36_ (Rd.in h30_)
        have d44_ : Dis (Own vout33_) (Ar (some ⟨1, 0, none⟩) ((hw KL).toList)) := Dis.fresh h36_ (Rd.in h31_)
        have T45_ := Fr.tr T27_ F38_
        have h46_ := RowsAt.keep h28_ F38_ Dis.n0
        have h47_ := RowsAt.keep h29_ F38_ Dis.n0
        have h48_ := Rd.keep' h30_ F38_ Dis.n0
        have h49_ := Rd.keep' h31_ F38_ Dis.n0
        have N51_ : New w N0 (Own vout33_) := New.later' h36_ (Fr.size T27_)
        obtain ⟨ao52_, cap53_, rfl, hc54_, hm55_, hR56_, ho57_⟩ := Row.read h34_
        refine ⟨(.tuple #[(.slice ao52_ ((imgL (sB s) ls).length) cap53_), (.int .i64 4)]), (by rw [show imgE s.size ls.length = 4 from if_pos hb1]; rfl), ?_⟩
        refine at_pures 8 (by kernel_rfl) (by kernel_rfl) ?_
        refine at_done (by kernel_rfl) ?_
        refine then_n ?_
        refine c_seq [1, 1, 1, 1, 0] [1, 1, 1, 1, 1] (by kernel_rfl) ?_
        refine c_reg 6 tagApart_c_R6 (by kernel_rfl) ?_
        refine at_pures 2 (by kernel_rfl) (by kernel_rfl) ?_
        have hlg_b := largeR_spec (n := t.size) (ls := ms) (by assumption); have hls_b := hlg_b.2.2.2; have hil_b := imgL_le (sB t) ms
        refine at_do (by kernel_rfl) (op_call 21 #[(.tmp 32), (.tmp 33)] #[(.string t), (.slice bo ms.length bcap)] (by kernel_rfl) (by kernel_rfl) (by kernel_rfl) ?_)
        have C65_ := image_c t fp bo bcap ms w37_ h47_  (by first | omega | with_reducible assumption | (simp only [List.length_append, List.length_cons, List.length_nil, putB_length]; omega) | decide) (by first | omega | with_reducible assumption)
        refine Calls.mono C65_ ?_
        rintro e64_ w62_ ⟨vout58_, rfl, h59_, F63_, h61_⟩
        have d66_ : Dis (Own vout58_) fp := Dis.fresh h61_ (RowsAt.in h46_)
        have d67_ : Dis (Own vout58_) fp := Dis.fresh h61_ (RowsAt.in h47_)
        have d68_ : Dis (Own vout58_) (Ar (some ⟨0, 0, none⟩) ((hw KL).toList)) := Dis.fresh h61_ (Rd.in h48_)
        have d69_ : Dis (Own vout58_) (Ar (some ⟨1, 0, none⟩) ((hw KL).toList)) := Dis.fresh h61_ (Rd.in h49_)
        have d70_ : Dis (Own vout58_) (Own (.slice ao52_ ((imgL (sB s) ls).length) cap53_)) := Dis.fresh h61_ (Row.in h34_)
        have T71_ := Fr.tr T45_ F63_
        have h72_ := RowsAt.keep h46_ F63_ Dis.n0
        have h73_ := RowsAt.keep h47_ F63_ Dis.n0
        have h74_ := Rd.keep' h48_ F63_ Dis.n0
        have h75_ := Rd.keep' h49_ F63_ Dis.n0
        have h76_ := Row.keep h34_ F63_ Dis.n0
        have N78_ : New w N0 (Own vout58_) := New.later' h61_ (Fr.size T45_)
        obtain ⟨ao79_, cap80_, rfl, hc81_, hm82_, hR83_, ho84_⟩ := Row.read h59_
        refine ⟨(.tuple #[(.slice ao79_ ((imgL (sB t) ms).length) cap80_), (.int .i64 4)]), (by rw [show imgE t.size ms.length = 4 from if_pos hb2]; rfl), ?_⟩
        refine at_pures 8 (by kernel_rfl) (by kernel_rfl) ?_
        refine at_done (by kernel_rfl) ?_
        refine then_n ?_
        refine c_seq [1, 1, 1, 1, 1, 0] [1, 1, 1, 1, 1, 1] (by kernel_rfl) ?_
        refine c_seq [1, 1, 1, 1, 1, 0, 0] [1, 1, 1, 1, 1, 0, 1] (by kernel_rfl) ?_
        refine c_reg 7 tagApart_c_R7 (by kernel_rfl) ?_
        refine at_pures 6 (by kernel_rfl) (by kernel_rfl) ?_
        refine at_done (by kernel_rfl) ?_
        refine then_n ?_
        refine c_then (.tmp 42) [1, 1, 1, 1, 1, 0, 1, 0] [1, 1, 1, 1, 1, 0, 1, 1] (by kernel_rfl) (by kernel_rfl) ?_
        refine c_seq [1, 1, 1, 1, 1, 0, 1, 0, 0] [1, 1, 1, 1, 1, 0, 1, 0, 1] (by kernel_rfl) ?_
        refine c_reg 8 tagApart_c_R8 (by kernel_rfl) ?_
        refine at_pures 5 (by kernel_rfl) (by kernel_rfl) ?_
        refine at_split (decide ((s.size : Int) > (255 : Int))) (by kernel_rfl) (by kernel_rfl) (fun c85_ => ?_) (fun c85_ => ?_)
        · -- yes
          replace c85_ : (s.size : Int) > (255 : Int) := of_decide_eq_true c85_
          refine at_pures 17 (by kernel_rfl) (by kernel_rfl) ?_
          refine at_split (decide ((t.size : Int) > (255 : Int))) (by kernel_rfl) (by kernel_rfl) (fun c86_ => ?_) (fun c86_ => ?_)
          · -- yes
            replace c86_ : (t.size : Int) > (255 : Int) := of_decide_eq_true c86_
            refine at_pures 25 (by kernel_rfl) (by kernel_rfl) ?_
            refine at_done (by kernel_rfl) ?_
            refine then_n ?_
            refine c_ret (by kernel_rfl) ?_
            refine then_r ?_
            refine fin_ret (.bool true) (by kernel_rfl) (by kernel_rfl) ?_
            exact ⟨rfl, T71_⟩
          · -- no
            replace c86_ : ¬ ((t.size : Int) > (255 : Int)) := of_decide_eq_false c86_
            refine at_pures 25 (by kernel_rfl) (by kernel_rfl) ?_
            refine at_done (by kernel_rfl) ?_
            refine then_n ?_
            refine c_ret (by kernel_rfl) ?_
            refine then_r ?_
            refine fin_ret (.bool (true == (decide ((ms.length : Int) > (255 : Int))))) (by kernel_rfl) (by kernel_rfl) ?_
            exact ⟨(by unfold imgBad at hb1 hb2; first | (exfalso; omega) | (exfalso; simp_all; omega) | (congr 2; simp; omega) | (simp_all; omega)), T71_⟩
        · -- no
          replace c85_ : ¬ ((s.size : Int) > (255 : Int)) := of_decide_eq_false c85_
          refine at_pures 11 (by kernel_rfl) (by kernel_rfl) ?_
          refine at_split (true == (decide ((ls.length : Int) > (255 : Int)))) (by kernel_rfl) (by kernel_rfl) (fun c87_ => ?_) (fun c87_ => ?_)
          · -- yes
            replace c87_ : true = (decide ((ls.length : Int) > (255 : Int))) := by simpa using c87_
            refine at_pures 17 (by kernel_rfl) (by kernel_rfl) ?_
            refine at_split (decide ((t.size : Int) > (255 : Int))) (by kernel_rfl) (by kernel_rfl) (fun c88_ => ?_) (fun c88_ => ?_)
            · -- yes
              replace c88_ : (t.size : Int) > (255 : Int) := of_decide_eq_true c88_
              refine at_pures 25 (by kernel_rfl) (by kernel_rfl) ?_
              refine at_done (by kernel_rfl) ?_
              refine then_n ?_
              refine c_ret (by kernel_rfl) ?_
              refine then_r ?_
              refine fin_ret (.bool true) (by kernel_rfl) (by kernel_rfl) ?_
              exact ⟨rfl, T71_⟩
            · -- no
              replace c88_ : ¬ ((t.size : Int) > (255 : Int)) := of_decide_eq_false c88_
              refine at_pures 25 (by kernel_rfl) (by kernel_rfl) ?_
              refine at_done (by kernel_rfl) ?_
              refine then_n ?_
              refine c_ret (by kernel_rfl) ?_
              refine then_r ?_
              refine fin_ret (.bool (true == (decide ((ms.length : Int) > (255 : Int))))) (by kernel_rfl) (by kernel_rfl) ?_
              exact ⟨(by unfold imgBad at hb1 hb2; first | (exfalso; omega) | (exfalso; simp_all; omega) | (congr 2; simp; omega) | (simp_all; omega)), T71_⟩
          · -- no
            replace c87_ : true ≠ (decide ((ls.length : Int) > (255 : Int))) := by simpa using c87_
            refine at_pures 25 (by kernel_rfl) (by kernel_rfl) ?_
            refine at_done (by kernel_rfl) ?_
            refine then_n ?_
            refine c_ret (by kernel_rfl) ?_
            refine then_r ?_
            refine fin_ret (.bool false) (by kernel_rfl) (by kernel_rfl) ?_
            exact ⟨(by unfold imgBad at hb1 hb2; first | (exfalso; omega) | (exfalso; simp_all; omega) | (congr 2; simp; omega) | (simp_all; omega)), T71_⟩
  · -- (True, False)
    refine c_enter (mk 100 [(0, (.string s)), (1, (.string t)), (2, (.slice ao ls.length cap)), (3, (.slice bo ms.length bcap))] (fun _ => undef)) Tryd.func7 (by kernel_rfl) (by kernel_rfl) ?_
    refine c_seq [0] [1] (by kernel_rfl) ?_
    refine c_reg 0 tagApart_c_R0 (by kernel_rfl) ?_
    refine at_pures 1 (by kernel_rfl) (by kernel_rfl) ?_
    refine at_done (by kernel_rfl) ?_
    refine then_n ?_
    refine c_seq [1, 0] [1, 1] (by kernel_rfl) ?_
    refine c_seq [1, 0, 0] [1, 0, 1] (by kernel_rfl) ?_
    refine c_reg 1 tagApart_c_R1 (by kernel_rfl) ?_
    refine at_do (by kernel_rfl) (op_call 19 #[] #[] (by kernel_rfl) (by kernel_rfl) (by kernel_rfl) ?_)
    have C93_ := awake3_c  w h_ks0 h_ks1  
    refine Calls.mono C93_ ?_
    rintro e92_ w90_ ⟨rfl, F91_⟩
    have T94_ := Fr.tr (Fr.refl w N0) F91_
    have h95_ := RowsAt.keep h_ls F91_ Dis.n0
    have h96_ := RowsAt.keep h_ms F91_ Dis.n0
    have h97_ := Rd.keep' h_ks0 F91_ Dis.n0
    have h98_ := Rd.keep' h_ks1 F91_ Dis.n0
    refine ⟨_, rfl, ?_⟩
    refine at_pures 2 (by kernel_rfl) (by kernel_rfl) ?_
    refine at_done (by kernel_rfl) ?_
    refine then_n ?_
    refine c_else (.tmp 16) [1, 0, 1, 0] [1, 0, 1, 1] (by kernel_rfl) (by kernel_rfl) ?_
    refine c_skip (by kernel_rfl) ?_
    refine then_n ?_
    refine c_seq [1, 1, 0] [1, 1, 1] (by kernel_rfl) ?_
    refine c_seq [1, 1, 0, 0] [1, 1, 0, 1] (by kernel_rfl) ?_
    refine c_reg 3 tagApart_c_R3 (by kernel_rfl) ?_
    refine at_pures 2 (by kernel_rfl) (by kernel_rfl) ?_
    refine at_do (by kernel_rfl) (op_call 20 #[(.tmp 17), (.tmp 18)] #[(.string s), (.slice ao ls.length cap)] (by kernel_rfl) (by kernel_rfl) (by kernel_rfl) ?_)
    have C103_ := large3_c s fp ao cap ls w90_ h95_  (by first | omega | with_reducible assumption | (simp only [List.length_append, List.length_cons, List.length_nil, putB_length]; omega) | decide)
    refine Calls.mono C103_ ?_
    rintro e102_ w100_ ⟨rfl, F101_⟩
    have T104_ := Fr.tr T94_ F101_
    have h105_ := RowsAt.keep h95_ F101_ Dis.n0
    have h106_ := RowsAt.keep h96_ F101_ Dis.n0
    have h107_ := Rd.keep' h97_ F101_ Dis.n0
    have h108_ := Rd.keep' h98_ F101_ Dis.n0
    refine ⟨_, rfl, ?_⟩
    refine at_split ((largeR s.size ls)) (by kernel_rfl) (by kernel_rfl) (fun c109_ => ?_) (fun c109_ => ?_)
    · -- yes
      refine at_pures 8 (by kernel_rfl) (by kernel_rfl) ?_
      refine at_done (by kernel_rfl) ?_
      refine then_n ?_
      refine c_then (.tmp 24) [1, 1, 0, 1, 0] [1, 1, 0, 1, 1] (by kernel_rfl) (by kernel_rfl) ?_
      refine c_seq [1, 1, 0, 1, 0, 0] [1, 1, 0, 1, 0, 1] (by kernel_rfl) ?_
      refine c_reg 4 tagApart_c_R4 (by kernel_rfl) ?_
      refine at_pures 1 (by kernel_rfl) (by kernel_rfl) ?_
      refine at_done (by kernel_rfl) ?_
      refine then_n ?_
      refine c_ret (by kernel_rfl) ?_
      refine then_r ?_
      refine fin_ret (.bool true) (by kernel_rfl) (by kernel_rfl) ?_
      exact ⟨rfl, T104_⟩
    · -- no
      refine at_pures 6 (by kernel_rfl) (by kernel_rfl) ?_
      refine at_do (by kernel_rfl) (op_call 20 #[(.tmp 21), (.tmp 22)] #[(.string t), (.slice bo ms.length bcap)] (by kernel_rfl) (by kernel_rfl) (by kernel_rfl) ?_)
      have C114_ := large3_c t fp bo bcap ms w100_ h106_  (by first | omega | with_reducible assumption | (simp only [List.length_append, List.length_cons, List.length_nil, putB_length]; omega) | decide)
      refine Calls.mono C114_ ?_
      rintro e113_ w111_ ⟨rfl, F112_⟩
      have T115_ := Fr.tr T104_ F112_
      have h116_ := RowsAt.keep h105_ F112_ Dis.n0
      have h117_ := RowsAt.keep h106_ F112_ Dis.n0
      have h118_ := Rd.keep' h107_ F112_ Dis.n0
      have h119_ := Rd.keep' h108_ F112_ Dis.n0
      refine ⟨_, rfl, ?_⟩
      refine at_pures 8 (by kernel_rfl) (by kernel_rfl) ?_
      refine at_done (by kernel_rfl) ?_
      refine then_n ?_
      refine c_if (.tmp 24) ((largeR t.size ms)) [1, 1, 0, 1, 0] [1, 1, 0, 1, 1] (by kernel_rfl) (by kernel_rfl) (fun c120_ => ?_) (fun c120_ => ?_)
      · -- yes
        refine c_seq [1, 1, 0, 1, 0, 0] [1, 1, 0, 1, 0, 1] (by kernel_rfl) ?_
        refine c_reg 4 tagApart_c_R4 (by kernel_rfl) ?_
        refine at_pures 1 (by kernel_rfl) (by kernel_rfl) ?_
        refine at_done (by kernel_rfl) ?_
        refine then_n ?_
        refine c_ret (by kernel_rfl) ?_
        refine then_r ?_
        refine fin_ret (.bool true) (by kernel_rfl) (by kernel_rfl) ?_
        exact ⟨rfl, T115_⟩
      · -- no
        refine c_skip (by kernel_rfl) ?_
        refine then_n ?_
        refine c_seq [1, 1, 1, 0] [1, 1, 1, 1] (by kernel_rfl) ?_
        refine c_reg 5 tagApart_c_R5 (by kernel_rfl) ?_
        refine at_pures 2 (by kernel_rfl) (by kernel_rfl) ?_
        have hlg_a := largeR_spec (n := s.size) (ls := ls) (by assumption); have hls_a := hlg_a.2.2.2; have hil_a := imgL_le (sB s) ls
        refine at_do (by kernel_rfl) (op_call 21 #[(.tmp 26), (.tmp 27)] #[(.string s), (.slice ao ls.length cap)] (by kernel_rfl) (by kernel_rfl) (by kernel_rfl) ?_)
        have C128_ := image_c s fp ao cap ls w111_ h116_  (by first | omega | with_reducible assumption | (simp only [List.length_append, List.length_cons, List.length_nil, putB_length]; omega) | decide) (by first | omega | with_reducible assumption)
        refine Calls.mono C128_ ?_
        rintro e127_ w125_ ⟨vout121_, rfl, h122_, F126_, h124_⟩
        have d129_ : Dis (Own vout121_) fp := Dis.fresh h124_ (RowsAt.in h116_)
        have d130_ : Dis (Own vout121_) fp := Dis.fresh h124_ (RowsAt.in h117_)
        have d131_ : Dis (Own vout121_) (Ar (some ⟨0, 0, none⟩) ((hw KL).toList)) := Dis.fresh h124_ (Rd.in h118_)
        have d132_ : Dis (Own vout121_) (Ar (some ⟨1, 0, none⟩) ((hw KL).toList)) := Dis.fresh h124_ (Rd.in h119_)
        have T133_ := Fr.tr T115_ F126_
        have h134_ := RowsAt.keep h116_ F126_ Dis.n0
        have h135_ := RowsAt.keep h117_ F126_ Dis.n0
        have h136_ := Rd.keep' h118_ F126_ Dis.n0
        have h137_ := Rd.keep' h119_ F126_ Dis.n0
        have N139_ : New w N0 (Own vout121_) := New.later' h124_ (Fr.size T115_)
        obtain ⟨ao140_, cap141_, rfl, hc142_, hm143_, hR144_, ho145_⟩ := Row.read h122_
        refine ⟨(.tuple #[(.slice ao140_ ((imgL (sB s) ls).length) cap141_), (.int .i64 4)]), (by rw [show imgE s.size ls.length = 4 from if_pos hb1]; rfl), ?_⟩
        refine at_pures 8 (by kernel_rfl) (by kernel_rfl) ?_
        refine at_done (by kernel_rfl) ?_
        refine then_n ?_
        refine c_seq [1, 1, 1, 1, 0] [1, 1, 1, 1, 1] (by kernel_rfl) ?_
        refine c_reg 6 tagApart_c_R6 (by kernel_rfl) ?_
        refine at_pures 2 (by kernel_rfl) (by kernel_rfl) ?_
        have hlg_b := largeR_spec (n := t.size) (ls := ms) (by assumption); have hls_b := hlg_b.2.2.2; have hil_b := imgL_le (sB t) ms
        refine at_do (by kernel_rfl) (op_call 21 #[(.tmp 32), (.tmp 33)] #[(.string t), (.slice bo ms.length bcap)] (by kernel_rfl) (by kernel_rfl) (by kernel_rfl) ?_)
        have C153_ := image_c t fp bo bcap ms w125_ h135_  (by first | omega | with_reducible assumption | (simp only [List.length_append, List.length_cons, List.length_nil, putB_length]; omega) | decide) (by first | omega | with_reducible assumption)
        refine Calls.mono C153_ ?_
        rintro e152_ w150_ ⟨vout146_, rfl, h147_, F151_, h149_⟩
        have d154_ : Dis (Own vout146_) fp := Dis.fresh h149_ (RowsAt.in h134_)
        have d155_ : Dis (Own vout146_) fp := Dis.fresh h149_ (RowsAt.in h135_)
        have d156_ : Dis (Own vout146_) (Ar (some ⟨0, 0, none⟩) ((hw KL).toList)) := Dis.fresh h149_ (Rd.in h136_)
        have d157_ : Dis (Own vout146_) (Ar (some ⟨1, 0, none⟩) ((hw KL).toList)) := Dis.fresh h149_ (Rd.in h137_)
        have d158_ : Dis (Own vout146_) (Own (.slice ao140_ ((imgL (sB s) ls).length) cap141_)) := Dis.fresh h149_ (Row.in h122_)
        have T159_ := Fr.tr T133_ F151_
        have h160_ := RowsAt.keep h134_ F151_ Dis.n0
        have h161_ := RowsAt.keep h135_ F151_ Dis.n0
        have h162_ := Rd.keep' h136_ F151_ Dis.n0
        have h163_ := Rd.keep' h137_ F151_ Dis.n0
        have h164_ := Row.keep h122_ F151_ Dis.n0
        have N166_ : New w N0 (Own vout146_) := New.later' h149_ (Fr.size T133_)
        obtain ⟨ao167_, cap168_, rfl, hc169_, hm170_, hR171_, ho172_⟩ := Row.read h147_
        refine ⟨(.tuple #[(.slice ao167_ ((imgL (sB t) ms).length) cap168_), (.int .i64 0)]), (by rw [show imgE t.size ms.length = 0 from if_neg hb2]; rfl), ?_⟩
        refine at_pures 8 (by kernel_rfl) (by kernel_rfl) ?_
        refine at_done (by kernel_rfl) ?_
        refine then_n ?_
        refine c_seq [1, 1, 1, 1, 1, 0] [1, 1, 1, 1, 1, 1] (by kernel_rfl) ?_
        refine c_seq [1, 1, 1, 1, 1, 0, 0] [1, 1, 1, 1, 1, 0, 1] (by kernel_rfl) ?_
        refine c_reg 7 tagApart_c_R7 (by kernel_rfl) ?_
        refine at_pures 6 (by kernel_rfl) (by kernel_rfl) ?_
        refine at_done (by kernel_rfl) ?_
        refine then_n ?_
        refine c_then (.tmp 42) [1, 1, 1, 1, 1, 0, 1, 0] [1, 1, 1, 1, 1, 0, 1, 1] (by kernel_rfl) (by kernel_rfl) ?_
        refine c_seq [1, 1, 1, 1, 1, 0, 1, 0, 0] [1, 1, 1, 1, 1, 0, 1, 0, 1] (by kernel_rfl) ?_
        refine c_reg 8 tagApart_c_R8 (by kernel_rfl) ?_
        refine at_pures 5 (by kernel_rfl) (by kernel_rfl) ?_
        refine at_split (decide ((s.size : Int) > (255 : Int))) (by kernel_rfl) (by kernel_rfl) (fun c173_ => ?_) (fun c173_ => ?_)
        · -- yes
          replace c173_ : (s.size : Int) > (255 : Int) := of_decide_eq_true c173_
          refine at_pures 17 (by kernel_rfl) (by kernel_rfl) ?_
          refine at_split (decide ((t.size : Int) > (255 : Int))) (by kernel_rfl) (by kernel_rfl) (fun c174_ => ?_) (fun c174_ => ?_)
          · -- yes
            replace c174_ : (t.size : Int) > (255 : Int) := of_decide_eq_true c174_
            refine at_pures 25 (by kernel_rfl) (by kernel_rfl) ?_
            refine at_done (by kernel_rfl) ?_
            refine then_n ?_
            refine c_ret (by kernel_rfl) ?_
            refine then_r ?_
            refine fin_ret (.bool false) (by kernel_rfl) (by kernel_rfl) ?_
            exact ⟨(by unfold imgBad at hb1 hb2; first | (exfalso; omega) | (exfalso; simp_all; omega) | (congr 2; simp; omega) | (simp_all; omega)), T159_⟩
          · -- no
            replace c174_ : ¬ ((t.size : Int) > (255 : Int)) := of_decide_eq_false c174_
            refine at_pures 25 (by kernel_rfl) (by kernel_rfl) ?_
            refine at_done (by kernel_rfl) ?_
            refine then_n ?_
            refine c_ret (by kernel_rfl) ?_
            refine then_r ?_
            refine fin_ret (.bool (false == (decide ((ms.length : Int) > (255 : Int))))) (by kernel_rfl) (by kernel_rfl) ?_
            exact ⟨(by unfold imgBad at hb1 hb2; first | (exfalso; omega) | (exfalso; simp_all; omega) | (congr 2; simp; omega) | (simp_all; omega)), T159_⟩
        · -- no
          replace c173_ : ¬ ((s.size : Int) > (255 : Int)) := of_decide_eq_false c173_
          refine at_pures 11 (by kernel_rfl) (by kernel_rfl) ?_
          refine at_split (true == (decide ((ls.length : Int) > (255 : Int)))) (by kernel_rfl) (by kernel_rfl) (fun c175_ => ?_) (fun c175_ => ?_)
          · -- yes
            replace c175_ : true = (decide ((ls.length : Int) > (255 : Int))) := by simpa using c175_
            refine at_pures 17 (by kernel_rfl) (by kernel_rfl) ?_
            refine at_split (decide ((t.size : Int) > (255 : Int))) (by kernel_rfl) (by kernel_rfl) (fun c176_ => ?_) (fun c176_ => ?_)
            · -- yes
              replace c176_ : (t.size : Int) > (255 : Int) := of_decide_eq_true c176_
              refine at_pures 25 (by kernel_rfl) (by kernel_rfl) ?_
              refine at_done (by kernel_rfl) ?_
              refine then_n ?_
              refine c_ret (by kernel_rfl) ?_
              refine then_r ?_
              refine fin_ret (.bool false) (by kernel_rfl) (by kernel_rfl) ?_
              exact ⟨(by unfold imgBad at hb1 hb2; first | (exfalso; omega) | (exfalso; simp_all; omega) | (congr 2; simp; omega) | (simp_all; omega)), T159_⟩
            · -- no
              replace c176_ : ¬ ((t.size : Int) > (255 : Int)) := of_decide_eq_false c176_
              refine at_pures 25 (by kernel_rfl) (by kernel_rfl) ?_
              refine at_done (by kernel_rfl) ?_
              refine then_n ?_
              refine c_ret (by kernel_rfl) ?_
              refine then_r ?_
              refine fin_ret (.bool (false == (decide ((ms.length : Int) > (255 : Int))))) (by kernel_rfl) (by kernel_rfl) ?_
              exact ⟨(by unfold imgBad at hb1 hb2; first | (exfalso; omega) | (exfalso; simp_all; omega) | (congr 2; simp; omega) | (simp_all; omega)), T159_⟩
          · -- no
            replace c175_ : true ≠ (decide ((ls.length : Int) > (255 : Int))) := by simpa using c175_
            refine at_pures 25 (by kernel_rfl) (by kernel_rfl) ?_
            refine at_done (by kernel_rfl) ?_
            refine then_n ?_
            refine c_ret (by kernel_rfl) ?_
            refine then_r ?_
            refine fin_ret (.bool false) (by kernel_rfl) (by kernel_rfl) ?_
            exact ⟨(by unfold imgBad at hb1 hb2; first | (exfalso; omega) | (exfalso; simp_all; omega) | (congr 2; simp; omega) | (simp_all; omega)), T159_⟩
  · -- (False, True)
    refine c_enter (mk 100 [(0, (.string s)), (1, (.string t)), (2, (.slice ao ls.length cap)), (3, (.slice bo ms.length bcap))] (fun _ => undef)) Tryd.func7 (by kernel_rfl) (by kernel_rfl) ?_
    refine c_seq [0] [1] (by kernel_rfl) ?_
    refine c_reg 0 tagApart_c_R0 (by kernel_rfl) ?_
    refine at_pures 1 (by kernel_rfl) (by kernel_rfl) ?_
    refine at_done (by kernel_rfl) ?_
    refine then_n ?_
    refine c_seq [1, 0] [1, 1] (by kernel_rfl) ?_
    refine c_seq [1, 0, 0] [1, 0, 1] (by kernel_rfl) ?_
    refine c_reg 1 tagApart_c_R1 (by kernel_rfl) ?_
    refine at_do (by kernel_rfl) (op_call 19 #[] #[] (by kernel_rfl) (by kernel_rfl) (by kernel_rfl) ?_)
    have C181_ := awake3_c  w h_ks0 h_ks1  
    refine Calls.mono C181_ ?_
    rintro e180_ w178_ ⟨rfl, F179_⟩
    have T182_ := Fr.tr (Fr.refl w N0) F179_
    have h183_ := RowsAt.keep h_ls F179_ Dis.n0
    have h184_ := RowsAt.keep h_ms F179_ Dis.n0
    have h185_ := Rd.keep' h_ks0 F179_ Dis.n0
    have h186_ := Rd.keep' h_ks1 F179_ Dis.n0
    refine ⟨_, rfl, ?_⟩
    refine at_pures 2 (by kernel_rfl) (by kernel_rfl) ?_
    refine at_done (by kernel_rfl) ?_
    refine then_n ?_
    refine c_else (.tmp 16) [1, 0, 1, 0] [1, 0, 1, 1] (by kernel_rfl) (by kernel_rfl) ?_
    refine c_skip (by kernel_rfl) ?_
    refine then_n ?_
    refine c_seq [1, 1, 0] [1, 1, 1] (by kernel_rfl) ?_
    refine c_seq [1, 1, 0, 0] [1, 1, 0, 1] (by kernel_rfl) ?_
    refine c_reg 3 tagApart_c_R3 (by kernel_rfl) ?_
    refine at_pures 2 (by kernel_rfl) (by kernel_rfl) ?_
    refine at_do (by kernel_rfl) (op_call 20 #[(.tmp 17), (.tmp 18)] #[(.string s), (.slice ao ls.length cap)] (by kernel_rfl) (by kernel_rfl) (by kernel_rfl) ?_)
    have C191_ := large3_c s fp ao cap ls w178_ h183_  (by first | omega | with_reducible assumption | (simp only [List.length_append, List.length_cons, List.length_nil, putB_length]; omega) | decide)
    refine Calls.mono C191_ ?_
    rintro e190_ w188_ ⟨rfl, F189_⟩
    have T192_ := Fr.tr T182_ F189_
    have h193_ := RowsAt.keep h183_ F189_ Dis.n0
    have h194_ := RowsAt.keep h184_ F189_ Dis.n0
    have h195_ := Rd.keep' h185_ F189_ Dis.n0
    have h196_ := Rd.keep' h186_ F189_ Dis.n0
    refine ⟨_, rfl, ?_⟩
    refine at_split ((largeR s.size ls)) (by kernel_rfl) (by kernel_rfl) (fun c197_ => ?_) (fun c197_ => ?_)
    · -- yes
      refine at_pures 8 (by kernel_rfl) (by kernel_rfl) ?_
      refine at_done (by kernel_rfl) ?_
      refine then_n ?_
      refine c_then (.tmp 24) [1, 1, 0, 1, 0] [1, 1, 0, 1, 1] (by kernel_rfl) (by kernel_rfl) ?_
      refine c_seq [1, 1, 0, 1, 0, 0] [1, 1, 0, 1, 0, 1] (by kernel_rfl) ?_
      refine c_reg 4 tagApart_c_R4 (by kernel_rfl) ?_
      refine at_pures 1 (by kernel_rfl) (by kernel_rfl) ?_
      refine at_done (by kernel_rfl) ?_
      refine then_n ?_
      refine c_ret (by kernel_rfl) ?_
      refine then_r ?_
      refine fin_ret (.bool true) (by kernel_rfl) (by kernel_rfl) ?_
      exact ⟨rfl, T192_⟩
    · -- no
      refine at_pures 6 (by kernel_rfl) (by kernel_rfl) ?_
      refine at_do (by kernel_rfl) (op_call 20 #[(.tmp 21), (.tmp 22)] #[(.string t), (.slice bo ms.length bcap)] (by kernel_rfl) (by kernel_rfl) (by kernel_rfl) ?_)
      have C202_ := large3_c t fp bo bcap ms w188_ h194_  (by first | omega | with_reducible assumption | (simp only [List.length_append, List.length_cons, List.length_nil, putB_length]; omega) | decide)
      refine Calls.mono C202_ ?_
      rintro e201_ w199_ ⟨rfl, F200_⟩
      have T203_ := Fr.tr T192_ F200_
      have h204_ := RowsAt.keep h193_ F200_ Dis.n0
      have h205_ := RowsAt.keep h194_ F200_ Dis.n0
      have h206_ := Rd.keep' h195_ F200_ Dis.n0
      have h207_ := Rd.keep' h196_ F200_ Dis.n0
      refine ⟨_, rfl, ?_⟩
      refine at_pures 8 (by kernel_rfl) (by kernel_rfl) ?_
      refine at_done (by kernel_rfl) ?_
      refine then_n ?_
      refine c_if (.tmp 24) ((largeR t.size ms)) [1, 1, 0, 1, 0] [1, 1, 0, 1, 1] (by kernel_rfl) (by kernel_rfl) (fun c208_ => ?_) (fun c208_ => ?_)
      · -- yes
        refine c_seq [1, 1, 0, 1, 0, 0] [1, 1, 0, 1, 0, 1] (by kernel_rfl) ?_
        refine c_reg 4 tagApart_c_R4 (by kernel_rfl) ?_
        refine at_pures 1 (by kernel_rfl) (by kernel_rfl) ?_
        refine at_done (by kernel_rfl) ?_
        refine then_n ?_
        refine c_ret (by kernel_rfl) ?_
        refine then_r ?_
        refine fin_ret (.bool true) (by kernel_rfl) (by kernel_rfl) ?_
        exact ⟨rfl, T203_⟩
      · -- no
        refine c_skip (by kernel_rfl) ?_
        refine then_n ?_
        refine c_seq [1, 1, 1, 0] [1, 1, 1, 1] (by kernel_rfl) ?_
        refine c_reg 5 tagApart_c_R5 (by kernel_rfl) ?_
        refine at_pures 2 (by kernel_rfl) (by kernel_rfl) ?_
        have hlg_a := largeR_spec (n := s.size) (ls := ls) (by assumption); have hls_a := hlg_a.2.2.2; have hil_a := imgL_le (sB s) ls
        refine at_do (by kernel_rfl) (op_call 21 #[(.tmp 26), (.tmp 27)] #[(.string s), (.slice ao ls.length cap)] (by kernel_rfl) (by kernel_rfl) (by kernel_rfl) ?_)
        have C216_ := image_c s fp ao cap ls w199_ h204_  (by first | omega | with_reducible assumption | (simp only [List.length_append, List.length_cons, List.length_nil, putB_length]; omega) | decide) (by first | omega | with_reducible assumption)
        refine Calls.mono C216_ ?_
        rintro e215_ w213_ ⟨vout209_, rfl, h210_, F214_, h212_⟩
        have d217_ : Dis (Own vout209_) fp := Dis.fresh h212_ (RowsAt.in h204_)
        have d218_ : Dis (Own vout209_) fp := Dis.fresh h212_ (RowsAt.in h205_)
        have d219_ : Dis (Own vout209_) (Ar (some ⟨0, 0, none⟩) ((hw KL).toList)) := Dis.fresh h212_ (Rd.in h206_)
        have d220_ : Dis (Own vout209_) (Ar (some ⟨1, 0, none⟩) ((hw KL).toList)) := Dis.fresh h212_ (Rd.in h207_)
        have T221_ := Fr.tr T203_ F214_
        have h222_ := RowsAt.keep h204_ F214_ Dis.n0
        have h223_ := RowsAt.keep h205_ F214_ Dis.n0
        have h224_ := Rd.keep' h206_ F214_ Dis.n0
        have h225_ := Rd.keep' h207_ F214_ Dis.n0
        have N227_ : New w N0 (Own vout209_) := New.later' h212_ (Fr.size T203_)
        obtain ⟨ao228_, cap229_, rfl, hc230_, hm231_, hR232_, ho233_⟩ := Row.read h210_
        refine ⟨(.tuple #[(.slice ao228_ ((imgL (sB s) ls).length) cap229_), (.int .i64 0)]), (by rw [show imgE s.size ls.length = 0 from if_neg hb1]; rfl), ?_⟩
        refine at_pures 8 (by kernel_rfl) (by kernel_rfl) ?_
        refine at_done (by kernel_rfl) ?_
        refine then_n ?_
        refine c_seq [1, 1, 1, 1, 0] [1, 1, 1, 1, 1] (by kernel_rfl) ?_
        refine c_reg 6 tagApart_c_R6 (by kernel_rfl) ?_
        refine at_pures 2 (by kernel_rfl) (by kernel_rfl) ?_
        have hlg_b := largeR_spec (n := t.size) (ls := ms) (by assumption); have hls_b := hlg_b.2.2.2; have hil_b := imgL_le (sB t) ms
        refine at_do (by kernel_rfl) (op_call 21 #[(.tmp 32), (.tmp 33)] #[(.string t), (.slice bo ms.length bcap)] (by kernel_rfl) (by kernel_rfl) (by kernel_rfl) ?_)
        have C241_ := image_c t fp bo bcap ms w213_ h223_  (by first | omega | with_reducible assumption | (simp only [List.length_append, List.length_cons, List.length_nil, putB_length]; omega) | decide) (by first | omega | with_reducible assumption)
        refine Calls.mono C241_ ?_
        rintro e240_ w238_ ⟨vout234_, rfl, h235_, F239_, h237_⟩
        have d242_ : Dis (Own vout234_) fp := Dis.fresh h237_ (RowsAt.in h222_)
        have d243_ : Dis (Own vout234_) fp := Dis.fresh h237_ (RowsAt.in h223_)
        have d244_ : Dis (Own vout234_) (Ar (some ⟨0, 0, none⟩) ((hw KL).toList)) := Dis.fresh h237_ (Rd.in h224_)
        have d245_ : Dis (Own vout234_) (Ar (some ⟨1, 0, none⟩) ((hw KL).toList)) := Dis.fresh h237_ (Rd.in h225_)
        have d246_ : Dis (Own vout234_) (Own (.slice ao228_ ((imgL (sB s) ls).length) cap229_)) := Dis.fresh h237_ (Row.in h210_)
        have T247_ := Fr.tr T221_ F239_
        have h248_ := RowsAt.keep h222_ F239_ Dis.n0
        have h249_ := RowsAt.keep h223_ F239_ Dis.n0
        have h250_ := Rd.keep' h224_ F239_ Dis.n0
        have h251_ := Rd.keep' h225_ F239_ Dis.n0
        have h252_ := Row.keep h210_ F239_ Dis.n0
        have N254_ : New w N0 (Own vout234_) := New.later' h237_ (Fr.size T221_)
        obtain ⟨ao255_, cap256_, rfl, hc257_, hm258_, hR259_, ho260_⟩ := Row.read h235_
        refine ⟨(.tuple #[(.slice ao255_ ((imgL (sB t) ms).length) cap256_), (.int .i64 4)]), (by rw [show imgE t.size ms.length = 4 from if_pos hb2]; rfl), ?_⟩
        refine at_pures 8 (by kernel_rfl) (by kernel_rfl) ?_
        refine at_done (by kernel_rfl) ?_
        refine then_n ?_
        refine c_seq [1, 1, 1, 1, 1, 0] [1, 1, 1, 1, 1, 1] (by kernel_rfl) ?_
        refine c_seq [1, 1, 1, 1, 1, 0, 0] [1, 1, 1, 1, 1, 0, 1] (by kernel_rfl) ?_
        refine c_reg 7 tagApart_c_R7 (by kernel_rfl) ?_
        refine at_pures 6 (by kernel_rfl) (by kernel_rfl) ?_
        refine at_done (by kernel_rfl) ?_
        refine then_n ?_
        refine c_then (.tmp 42) [1, 1, 1, 1, 1, 0, 1, 0] [1, 1, 1, 1, 1, 0, 1, 1] (by kernel_rfl) (by kernel_rfl) ?_
        refine c_seq [1, 1, 1, 1, 1, 0, 1, 0, 0] [1, 1, 1, 1, 1, 0, 1, 0, 1] (by kernel_rfl) ?_
        refine c_reg 8 tagApart_c_R8 (by kernel_rfl) ?_
        refine at_pures 5 (by kernel_rfl) (by kernel_rfl) ?_
        refine at_split (decide ((s.size : Int) > (255 : Int))) (by kernel_rfl) (by kernel_rfl) (fun c261_ => ?_) (fun c261_ => ?_)
        · -- yes
          replace c261_ : (s.size : Int) > (255 : Int) := of_decide_eq_true c261_
          refine at_pures 25 (by kernel_rfl) (by kernel_rfl) ?_
          refine at_done (by kernel_rfl) ?_
          refine then_n ?_
          refine c_ret (by kernel_rfl) ?_
          refine then_r ?_
          refine fin_ret (.bool false) (by kernel_rfl) (by kernel_rfl) ?_
          exact ⟨(by unfold imgBad at hb1 hb2; first | (exfalso; omega) | (exfalso; simp_all; omega) | (congr 2; simp; omega) | (simp_all; omega)), T247_⟩
        · -- no
          replace c261_ : ¬ ((s.size : Int) > (255 : Int)) := of_decide_eq_false c261_
          refine at_pures 11 (by kernel_rfl) (by kernel_rfl) ?_
          refine at_split (false == (decide ((ls.length : Int) > (255 : Int)))) (by kernel_rfl) (by kernel_rfl) (fun c262_ => ?_) (fun c262_ => ?_)
          · -- yes
            replace c262_ : false = (decide ((ls.length : Int) > (255 : Int))) := by simpa using c262_
            refine at_pures 17 (by kernel_rfl) (by kernel_rfl) ?_
            refine at_split (decide ((t.size : Int) > (255 : Int))) (by kernel_rfl) (by kernel_rfl) (fun c263_ => ?_) (fun c263_ => ?_)
            · -- yes
              replace c263_ : (t.size : Int) > (255 : Int) := of_decide_eq_true c263_
              refine at_pures 25 (by kernel_rfl) (by kernel_rfl) ?_
              refine at_done (by kernel_rfl) ?_
              refine then_n ?_
              refine c_ret (by kernel_rfl) ?_
              refine then_r ?_
              refine fin_ret (.bool true) (by kernel_rfl) (by kernel_rfl) ?_
              exact ⟨rfl, T247_⟩
            · -- no
              replace c263_ : ¬ ((t.size : Int) > (255 : Int)) := of_decide_eq_false c263_
              refine at_pures 25 (by kernel_rfl) (by kernel_rfl) ?_
              refine at_done (by kernel_rfl) ?_
              refine then_n ?_
              refine c_ret (by kernel_rfl) ?_
              refine then_r ?_
              refine fin_ret (.bool (true == (decide ((ms.length : Int) > (255 : Int))))) (by kernel_rfl) (by kernel_rfl) ?_
              exact ⟨(by unfold imgBad at hb1 hb2; first | (exfalso; omega) | (exfalso; simp_all; omega) | (congr 2; simp; omega) | (simp_all; omega)), T247_⟩
          · -- no
            replace c262_ : false ≠ (decide ((ls.length : Int) > (255 : Int))) := by simpa using c262_
            refine at_pures 25 (by kernel_rfl) (by kernel_rfl) ?_
            refine at_done (by kernel_rfl) ?_
            refine then_n ?_
            refine c_ret (by kernel_rfl) ?_
            refine then_r ?_
            refine fin_ret (.bool false) (by kernel_rfl) (by kernel_rfl) ?_
            exact ⟨(by unfold imgBad at hb1 hb2; first | (exfalso; omega) | (exfalso; simp_all; omega) | (congr 2; simp; omega) | (simp_all; omega)), T247_⟩
  · -- (False, False)
    refine c_enter (mk 100 [(0, (.string s)), (1, (.string t)), (2, (.slice ao ls.length cap)), (3, (.slice bo ms.length bcap))] (fun _ => undef)) Tryd.func7 (by kernel_rfl) (by kernel_rfl) ?_
    refine c_seq [0] [1] (by kernel_rfl) ?_
    refine c_reg 0 tagApart_c_R0 (by kernel_rfl) ?_
    refine at_pures 1 (by kernel_rfl) (by kernel_rfl) ?_
    refine at_done (by kernel_rfl) ?_
    refine then_n ?_
    refine c_seq [1, 0] [1, 1] (by kernel_rfl) ?_
    refine c_seq [1, 0, 0] [1, 0, 1] (by kernel_rfl) ?_
    refine c_reg 1 tagApart_c_R1 (by kernel_rfl) ?_
    refine at_do (by kernel_rfl) (op_call 19 #[] #[] (by kernel_rfl) (by kernel_rfl) (by kernel_rfl) ?_)
    have C268_ := awake3_c  w h_ks0 h_ks1  
    refine Calls.mono C268_ ?_
    rintro e267_ w265_ ⟨rfl, F266_⟩
    have T269_ := Fr.tr (Fr.refl w N0) F266_
    have h270_ := RowsAt.keep h_ls F266_ Dis.n0
    have h271_ := RowsAt.keep h_ms F266_ Dis.n0
    have h272_ := Rd.keep' h_ks0 F266_ Dis.n0
    have h273_ := Rd.keep' h_ks1 F266_ Dis.n0
    refine ⟨_, rfl, ?_⟩
    refine at_pures 2 (by kernel_rfl) (by kernel_rfl) ?_
    refine at_done (by kernel_rfl) ?_
    refine then_n ?_
    refine c_else (.tmp 16) [1, 0, 1, 0] [1, 0, 1, 1] (by kernel_rfl) (by kernel_rfl) ?_
    refine c_skip (by kernel_rfl) ?_
    refine then_n ?_
    refine c_seq [1, 1, 0] [1, 1, 1] (by kernel_rfl) ?_
    refine c_seq [1, 1, 0, 0] [1, 1, 0, 1] (by kernel_rfl) ?_
    refine c_reg 3 tagApart_c_R3 (by kernel_rfl) ?_
    refine at_pures 2 (by kernel_rfl) (by kernel_rfl) ?_
    refine at_do (by kernel_rfl) (op_call 20 #[(.tmp 17), (.tmp 18)] #[(.string s), (.slice ao ls.length cap)] (by kernel_rfl) (by kernel_rfl) (by kernel_rfl) ?_)
    have C278_ := large3_c s fp ao cap ls w265_ h270_  (by first | omega | with_reducible assumption | (simp only [List.length_append, List.length_cons, List.length_nil, putB_length]; omega) | decide)
    refine Calls.mono C278_ ?_
    rintro e277_ w275_ ⟨rfl, F276_⟩
    have T279_ := Fr.tr T269_ F276_
    have h280_ := RowsAt.keep h270_ F276_ Dis.n0
    have h281_ := RowsAt.keep h271_ F276_ Dis.n0
    have h282_ := Rd.keep' h272_ F276_ Dis.n0
    have h283_ := Rd.keep' h273_ F276_ Dis.n0
    refine ⟨_, rfl, ?_⟩
    refine at_split ((largeR s.size ls)) (by kernel_rfl) (by kernel_rfl) (fun c284_ => ?_) (fun c284_ => ?_)
    · -- yes
      refine at_pures 8 (by kernel_rfl) (by kernel_rfl) ?_
      refine at_done (by kernel_rfl) ?_
      refine then_n ?_
      refine c_then (.tmp 24) [1, 1, 0, 1, 0] [1, 1, 0, 1, 1] (by kernel_rfl) (by kernel_rfl) ?_
      refine c_seq [1, 1, 0, 1, 0, 0] [1, 1, 0, 1, 0, 1] (by kernel_rfl) ?_
      refine c_reg 4 tagApart_c_R4 (by kernel_rfl) ?_
      refine at_pures 1 (by kernel_rfl) (by kernel_rfl) ?_
      refine at_done (by kernel_rfl) ?_
      refine then_n ?_
      refine c_ret (by kernel_rfl) ?_
      refine then_r ?_
      refine fin_ret (.bool true) (by kernel_rfl) (by kernel_rfl) ?_
      exact ⟨rfl, T279_⟩
    · -- no
      refine at_pures 6 (by kernel_rfl) (by kernel_rfl) ?_
      refine at_do (by kernel_rfl) (op_call 20 #[(.tmp 21), (.tmp 22)] #[(.string t), (.slice bo ms.length bcap)] (by kernel_rfl) (by kernel_rfl) (by kernel_rfl) ?_)
      have C289_ := large3_c t fp bo bcap ms w275_ h281_  (by first | omega | with_reducible assumption | (simp only [List.length_append, List.length_cons, List.length_nil, putB_length]; omega) | decide)
      refine Calls.mono C289_ ?_
      rintro e288_ w286_ ⟨rfl, F287_⟩
      have T290_ := Fr.tr T279_ F287_
      have h291_ := RowsAt.keep h280_ F287_ Dis.n0
      have h292_ := RowsAt.keep h281_ F287_ Dis.n0
      have h293_ := Rd.keep' h282_ F287_ Dis.n0
      have h294_ := Rd.keep' h283_ F287_ Dis.n0
      refine ⟨_, rfl, ?_⟩
      refine at_pures 8 (by kernel_rfl) (by kernel_rfl) ?_
      refine at_done (by kernel_rfl) ?_
      refine then_n ?_
      refine c_if (.tmp 24) ((largeR t.size ms)) [1, 1, 0, 1, 0] [1, 1, 0, 1, 1] (by kernel_rfl) (by kernel_rfl) (fun c295_ => ?_) (fun c295_ => ?_)
      · -- yes
        refine c_seq [1, 1, 0, 1, 0, 0] [1, 1, 0, 1, 0, 1] (by kernel_rfl) ?_
        refine c_reg 4 tagApart_c_R4 (by kernel_rfl) ?_
        refine at_pures 1 (by kernel_rfl) (by kernel_rfl) ?_
        refine at_done (by kernel_rfl) ?_
        refine then_n ?_
        refine c_ret (by kernel_rfl) ?_
        refine then_r ?_
        refine fin_ret (.bool true) (by kernel_rfl) (by kernel_rfl) ?_
        exact ⟨rfl, T290_⟩
      · -- no
        refine c_skip (by kernel_rfl) ?_
        refine then_n ?_
        refine c_seq [1, 1, 1, 0] [1, 1, 1, 1] (by kernel_rfl) ?_
        refine c_reg 5 tagApart_c_R5 (by kernel_rfl) ?_
        refine at_pures 2 (by kernel_rfl) (by kernel_rfl) ?_
        have hlg_a := largeR_spec (n := s.size) (ls := ls) (by assumption); have hls_a := hlg_a.2.2.2; have hil_a := imgL_le (sB s) ls
        refine at_do (by kernel_rfl) (op_call 21 #[(.tmp 26), (.tmp 27)] #[(.string s), (.slice ao ls.length cap)] (by kernel_rfl) (by kernel_rfl) (by kernel_rfl) ?_)
        have C303_ := image_c s fp ao cap ls w286_ h291_  (by first | omega | with_reducible assumption | (simp only [List.length_append, List.length_cons, List.length_nil, putB_length]; omega) | decide) (by first | omega | with_reducible assumption)
        refine Calls.mono C303_ ?_
        rintro e302_ w300_ ⟨vout296_, rfl, h297_, F301_, h299_⟩
        have d304_ : Dis (Own vout296_) fp := Dis.fresh h299_ (RowsAt.in h291_)
        have d305_ : Dis (Own vout296_) fp := Dis.fresh h299_ (RowsAt.in h292_)
        have d306_ : Dis (Own vout296_) (Ar (some ⟨0, 0, none⟩) ((hw KL).toList)) := Dis.fresh h299_ (Rd.in h293_)
        have d307_ : Dis (Own vout296_) (Ar (some ⟨1, 0, none⟩) ((hw KL).toList)) := Dis.fresh h299_ (Rd.in h294_)
        have T308_ := Fr.tr T290_ F301_
        have h309_ := RowsAt.keep h291_ F301_ Dis.n0
        have h310_ := RowsAt.keep h292_ F301_ Dis.n0
        have h311_ := Rd.keep' h293_ F301_ Dis.n0
        have h312_ := Rd.keep' h294_ F301_ Dis.n0
        have N314_ : New w N0 (Own vout296_) := New.later' h299_ (Fr.size T290_)
        obtain ⟨ao315_, cap316_, rfl, hc317_, hm318_, hR319_, ho320_⟩ := Row.read h297_
        refine ⟨(.tuple #[(.slice ao315_ ((imgL (sB s) ls).length) cap316_), (.int .i64 0)]), (by rw [show imgE s.size ls.length = 0 from if_neg hb1]; rfl), ?_⟩
        refine at_pures 8 (by kernel_rfl) (by kernel_rfl) ?_
        refine at_done (by kernel_rfl) ?_
        refine then_n ?_
        refine c_seq [1, 1, 1, 1, 0] [1, 1, 1, 1, 1] (by kernel_rfl) ?_
        refine c_reg 6 tagApart_c_R6 (by kernel_rfl) ?_
        refine at_pures 2 (by kernel_rfl) (by kernel_rfl) ?_
        have hlg_b := largeR_spec (n := t.size) (ls := ms) (by assumption); have hls_b := hlg_b.2.2.2; have hil_b := imgL_le (sB t) ms
        refine at_do (by kernel_rfl) (op_call 21 #[(.tmp 32), (.tmp 33)] #[(.string t), (.slice bo ms.length bcap)] (by kernel_rfl) (by kernel_rfl) (by kernel_rfl) ?_)
        have C328_ := image_c t fp bo bcap ms w300_ h310_  (by first | omega | with_reducible assumption | (simp only [List.length_append, List.length_cons, List.length_nil, putB_length]; omega) | decide) (by first | omega | with_reducible assumption)
        refine Calls.mono C328_ ?_
        rintro e327_ w325_ ⟨vout321_, rfl, h322_, F326_, h324_⟩
        have d329_ : Dis (Own vout321_) fp := Dis.fresh h324_ (RowsAt.in h309_)
        have d330_ : Dis (Own vout321_) fp := Dis.fresh h324_ (RowsAt.in h310_)
        have d331_ : Dis (Own vout321_) (Ar (some ⟨0, 0, none⟩) ((hw KL).toList)) := Dis.fresh h324_ (Rd.in h311_)
        have d332_ : Dis (Own vout321_) (Ar (some ⟨1, 0, none⟩) ((hw KL).toList)) := Dis.fresh h324_ (Rd.in h312_)
        have d333_ : Dis (Own vout321_) (Own (.slice ao315_ ((imgL (sB s) ls).length) cap316_)) := Dis.fresh h324_ (Row.in h297_)
        have T334_ := Fr.tr T308_ F326_
        have h335_ := RowsAt.keep h309_ F326_ Dis.n0
        have h336_ := RowsAt.keep h310_ F326_ Dis.n0
        have h337_ := Rd.keep' h311_ F326_ Dis.n0
        have h338_ := Rd.keep' h312_ F326_ Dis.n0
        have h339_ := Row.keep h297_ F326_ Dis.n0
        have N341_ : New w N0 (Own vout321_) := New.later' h324_ (Fr.size T308_)
        obtain ⟨ao342_, cap343_, rfl, hc344_, hm345_, hR346_, ho347_⟩ := Row.read h322_
        refine ⟨(.tuple #[(.slice ao342_ ((imgL (sB t) ms).length) cap343_), (.int .i64 0)]), (by rw [show imgE t.size ms.length = 0 from if_neg hb2]; rfl), ?_⟩
        refine at_pures 8 (by kernel_rfl) (by kernel_rfl) ?_
        refine at_done (by kernel_rfl) ?_
        refine then_n ?_
        refine c_seq [1, 1, 1, 1, 1, 0] [1, 1, 1, 1, 1, 1] (by kernel_rfl) ?_
        refine c_seq [1, 1, 1, 1, 1, 0, 0] [1, 1, 1, 1, 1, 0, 1] (by kernel_rfl) ?_
        refine c_reg 7 tagApart_c_R7 (by kernel_rfl) ?_
        refine at_pures 6 (by kernel_rfl) (by kernel_rfl) ?_
        refine at_done (by kernel_rfl) ?_
        refine then_n ?_
        refine c_else (.tmp 42) [1, 1, 1, 1, 1, 0, 1, 0] [1, 1, 1, 1, 1, 0, 1, 1] (by kernel_rfl) (by kernel_rfl) ?_
        refine c_skip (by kernel_rfl) ?_
        refine then_n ?_
        refine c_seq [1, 1, 1, 1, 1, 1, 0] [1, 1, 1, 1, 1, 1, 1] (by kernel_rfl) ?_
        refine c_reg 9 tagApart_c_R9 (by kernel_rfl) ?_
        refine at_pures 2 (by kernel_rfl) (by kernel_rfl) ?_
        refine at_run (.bool (s == t)) _ (by kernel_rfl) (run_eq_str true 9 (.tmp 67) (.tmp 68) s t (by kernel_rfl) (by kernel_rfl) (by kernel_rfl)) ?_
        refine at_split (s == t) (by kernel_rfl) (by kernel_rfl) (fun c348_ => ?_) (fun c348_ => ?_)
        · -- yes
          replace c348_ : s = t := str_yes c348_
          refine at_pures 11 (by kernel_rfl) (by kernel_rfl) ?_
          refine at_done (by kernel_rfl) ?_
          refine then_n ?_
          refine c_seq [1, 1, 1, 1, 1, 1, 1, 0] [1, 1, 1, 1, 1, 1, 1, 1] (by kernel_rfl) ?_
          refine c_seq [1, 1, 1, 1, 1, 1, 1, 0, 0] [1, 1, 1, 1, 1, 1, 1, 0, 1] (by kernel_rfl) ?_
          refine c_reg 10 tagApart_c_R10 (by kernel_rfl) ?_
          refine at_pures 1 (by kernel_rfl) (by kernel_rfl) ?_
          refine at_done (by kernel_rfl) ?_
          refine then_n ?_
          refine c_block 0 [1, 1, 1, 1, 1, 1, 1, 0, 1, 0] (by kernel_rfl) ?_
          refine c_loop (fun a w' => ∃ (i : Nat), ∃ (sm : Bool), (∃ u, a = mk 100 [(0, (.string s)), (1, (.string t)), (2, (.slice ao ls.length cap)), (3, (.slice bo ms.length bcap)), (8, (.bool false)), (9, (.slice ao315_ ((imgL (sB s) ls).length) cap316_)), (10, (.int .i64 0)), (11, (.slice ao342_ ((imgL (sB t) ms).length) cap343_)), (12, (.int .i64 0)), (13, (.bool sm)), (14, (.int .i64 (i : Int))), (15, (.bool true)), (16, (.bool false)), (17, (.string s)), (18, (.slice ao ls.length cap)), (19, (.bool (largeR s.size ls))), (20, (.bool false)), (21, (.string t)), (22, (.slice bo ms.length bcap)), (23, (.bool (largeR t.size ms))), (24, (.bool (largeR t.size ms))), (25, (.tuple #[(.slice ao315_ ((imgL (sB s) ls).length) cap316_), (.int .i64 0)])), (26, (.string s)), (27, (.slice ao ls.length cap)), (28, (.tuple #[(.slice ao315_ ((imgL (sB s) ls).length) cap316_), (.int .i64 0)])), (29, (.slice ao315_ ((imgL (sB s) ls).length) cap316_)), (30, (.int .i64 0)), (31, (.tuple #[(.slice ao342_ ((imgL (sB t) ms).length) cap343_), (.int .i64 0)])), (32, (.string t)), (33, (.slice bo ms.length bcap)), (34, (.tuple #[(.slice ao342_ ((imgL (sB t) ms).length) cap343_), (.int .i64 0)])), (35, (.slice ao342_ ((imgL (sB t) ms).length) cap343_)), (36, (.int .i64 0)), (37, (.int .i64 0)), (38, (.bool false)), (39, (.bool false)), (40, (.int .i64 0)), (41, (.bool false)), (42, (.bool false)), (67, (.string s)), (68, (.string t)), (69, (.bool (s == t))), (70, (.bool true)), (71, (.slice ao ls.length cap)), (72, (.int .i64 (ls.length : Int))), (73, (.slice bo ms.length bcap)), (74, (.int .i64 (ms.length : Int))), (75, (.bool ((ls.length : Int) == (ms.length : Int)))), (76, (.bool ((ls.length : Int) == (ms.length : Int))))] u) ∧ (sm = true → s = t ∧ ls.length = ms.length ∧ i ≤ ls.length ∧ (ls.take i).map (·.b) = (ms.take i).map (·.b)) ∧ (sm = false → ¬ (s = t ∧ ls.map (·.b) = ms.map (·.b))) ∧ (i ≤ ls.length) ∧ (RowsAt fp w' ao ls) ∧ (RowsAt fp w' bo ms) ∧ (Rd w' (some ⟨0, 0, none⟩) ((hw KL).toList)) ∧ (Rd w' (some ⟨1, 0, none⟩) ((hw KL).toList)) ∧ (Row w' 5 1 (.slice ao315_ ((imgL (sB s) ls).length) cap316_) ((imgL (sB s) ls).length) (B (imgL (sB s) ls))) ∧ (Row w' 5 1 (.slice ao342_ ((imgL (sB t) ms).length) cap343_) ((imgL (sB t) ms).length) (B (imgL (sB t) ms))) ∧ (Fr w w' N0)) (fun a _ => cnt (ls.length) 14 a) [1, 1, 1, 1, 1, 1, 1, 0, 1, 0, 0] (by kernel_rfl) ⟨0, ((ls.length : Int) == (ms.length : Int)), is_mk (by kernel_rfl) (by kernel_rfl) (by kernel_rfl), ⟨fun h => ⟨by assumption, (by have h2 : (ls.length : Int) = (ms.length : Int) := (by simpa using h); omega), Nat.zero_le _, rfl⟩, (fun h e => (by have h2 : ¬ ((ls.length : Int) = (ms.length : Int)) := (by simpa using h); have h3 := congrArg List.length e.2; rw [List.length_map, List.length_map] at h3; omega)), Nat.zero_le _, h335_, h336_, h337_, h338_, h339_, h322_, T334_⟩⟩ ?_
          rintro a350_ w351_ ⟨i, sm, ⟨u352_, rfl⟩, ⟨hsm, hsf, hi, q_0L349_, q_1L349_, q_2L349_, q_3L349_, q_4L349_, q_5L349_, hFrL349_⟩⟩
          refine c_seq [1, 1, 1, 1, 1, 1, 1, 0, 1, 0, 0, 0] [1, 1, 1, 1, 1, 1, 1, 0, 1, 0, 0, 1] (by kernel_rfl) ?_
          refine c_seq [1, 1, 1, 1, 1, 1, 1, 0, 1, 0, 0, 0, 0] [1, 1, 1, 1, 1, 1, 1, 0, 1, 0, 0, 0, 1] (by kernel_rfl) ?_
          refine c_reg 11 tagApart_c_R11 (by kernel_rfl) ?_
          refine at_pures 1 (by kernel_rfl) (by kernel_rfl) ?_
          refine at_split (sm) (by kernel_rfl) (by kernel_rfl) (fun c353_ => ?_) (fun c353_ => ?_)
          · -- yes
            refine at_pures 7 (by kernel_rfl) (by kernel_rfl) ?_
            refine at_done (by kernel_rfl) ?_
            refine then_n ?_
            refine c_if (.tmp 83) (decide ((i : Int) < (ls.length : Int))) [1, 1, 1, 1, 1, 1, 1, 0, 1, 0, 0, 0, 1, 0] [1, 1, 1, 1, 1, 1, 1, 0, 1, 0, 0, 0, 1, 1] (by kernel_rfl) (by kernel_rfl) (fun c354_ => ?_) (fun c354_ => ?_)
            · -- yes
              replace c354_ : (i : Int) < (ls.length : Int) := of_decide_eq_true c354_
              refine c_skip (by kernel_rfl) ?_
              refine then_n ?_
              refine c_seq [1, 1, 1, 1, 1, 1, 1, 0, 1, 0, 0, 1, 0] [1, 1, 1, 1, 1, 1, 1, 0, 1, 0, 0, 1, 1] (by kernel_rfl) ?_
              refine c_block 1 [1, 1, 1, 1, 1, 1, 1, 0, 1, 0, 0, 1, 0, 0] (by kernel_rfl) ?_
              refine c_plan 13 tagApart_c_R13 (fun w' => RowsAt fp w' ao ls ∧ RowsAt fp w' bo ms ∧ True) tagApart_c_sk13 tagApart_c_pl13 (by kernel_rfl) (by kernel_rfl) (by kernel_rfl) (by kernel_rfl) (by kernel_rfl) (fun w355_ F356_ => ?_)
              have T357_ := Fr.tr hFrL349_ F356_
              have h359_ := RowsAt.keep q_0L349_ F356_ Dis.n0
              have h360_ := RowsAt.keep q_1L349_ F356_ Dis.n0
              have S358_ : RowsAt fp w355_ ao ls ∧ RowsAt fp w355_ bo ms ∧ True := ⟨h359_, h360_, trivial⟩
              refine pl_pures 2 (by kernel_rfl) (by kernel_rfl) (off (by kernel_rfl)) ?_
              obtain ⟨x, hx_x⟩ : ∃ x, ls[i]? = some x := ⟨_, List.getElem?_eq_getElem (by omega)⟩
              have hm_x := List.mem_of_getElem? hx_x; have ho_x := RowsAt.ok h359_ x hm_x; have hi_x := RowsAt.in2 h359_ x hm_x; have hB_x := ho_x.b; have hc_x := ho_x.cap
              have hxl_x := lensum_mem hm_x; have hlen2 := (hsm (by assumption)).2.1
              obtain ⟨ad361_, ha362_⟩ := (RowsAt.rd h359_).has (i * 1) (by rw [cellsR_length]; omega)
              refine pl_quiet 2 (.pointer (some (ad361_.add (i * 1)))) (by kernel_rfl) (by kernel_rfl) (fun w' => run_idx_o 29 (.tmp 86) (.tmp 87) 1 ao ad361_ ls.length cap .i64 i (by kernel_rfl) (by kernel_rfl) (by kernel_rfl) (by kernel_rfl) (by kernel_rfl) ha362_ (by omega)) (off (by kernel_rfl)) ?_
              refine pl_read 3 (.slice x.ao x.b.length x.cap) (by kernel_rfl) (by kernel_rfl) (fun w' hs => run_loadE1 22 (.tmp 88) ao ad361_ (i * 1) (cellsR ls) (.slice x.ao x.b.length x.cap) (by kernel_rfl) (by kernel_rfl) (by kernel_rfl) ha362_ (RowsAt.rd hs.1) (cellsR_get ls i x hx_x)) S358_ ?_
              refine pl_pures 6 (by kernel_rfl) (by kernel_rfl) (fun _ => S358_) ?_
              obtain ⟨y, hx_y⟩ : ∃ x, ms[i]? = some x := ⟨_, List.getElem?_eq_getElem (by omega)⟩
              have hm_y := List.mem_of_getElem? hx_y; have ho_y := RowsAt.ok h360_ y hm_y; have hi_y := RowsAt.in2 h360_ y hm_y; have hB_y := ho_y.b; have hc_y := ho_y.cap
              have hxl_y := lensum_mem hm_y
              obtain ⟨ad363_, ha364_⟩ := (RowsAt.rd h360_).has (i * 1) (by rw [cellsR_length]; omega)
              refine pl_quiet 6 (.pointer (some (ad363_.add (i * 1)))) (by kernel_rfl) (by kernel_rfl) (fun w' => run_idx_o 29 (.tmp 90) (.tmp 91) 1 bo ad363_ ms.length bcap .i64 i (by kernel_rfl) (by kernel_rfl) (by kernel_rfl) (by kernel_rfl) (by kernel_rfl) ha364_ (by omega)) (fun _ => S358_) ?_
              refine pl_read 7 (.slice y.ao y.b.length y.cap) (by kernel_rfl) (by kernel_rfl) (fun w' hs => run_loadE1 22 (.tmp 92) bo ad363_ (i * 1) (cellsR ms) (.slice y.ao y.b.length y.cap) (by kernel_rfl) (by kernel_rfl) (by kernel_rfl) ha364_ (RowsAt.rd hs.2.1) (cellsR_get ms i y hx_y)) S358_ ?_
              have h365_ := Rd.keep' q_2L349_ F356_ Dis.n0
              have h366_ := Rd.keep' q_3L349_ F356_ Dis.n0
              have h367_ := Row.keep q_4L349_ F356_ Dis.n0
              have h368_ := Row.keep q_5L349_ F356_ Dis.n0
              refine pl_do 8 (by kernel_rfl) (by kernel_rfl) (op_call 23 #[(.tmp 89), (.tmp 93)] #[(.slice x.ao x.b.length x.cap), (.slice y.ao y.b.length y.cap)] (by kernel_rfl) (by kernel_rfl) (by kernel_rfl) ?_)
              have C373_ := same_c (.slice x.ao x.b.length x.cap) x.b (.slice y.ao y.b.length y.cap) y.b w355_ ⟨_, _, rfl, (RowsAt.rdb h359_ x hm_x)⟩ ⟨_, _, rfl, (RowsAt.rdb h360_ y hm_y)⟩  (by first | omega | with_reducible assumption | (simp only [List.length_append, List.length_cons, List.length_nil, putB_length]; omega) | decide) (by first | omega | with_reducible assumption | (simp only [List.length_append, List.length_cons, List.length_nil, putB_length]; omega) | decide)
              refine Calls.mono C373_ ?_
              rintro e372_ w370_ ⟨rfl, F371_⟩
              have T374_ := Fr.tr T357_ F371_
              have h375_ := RowsAt.keep h359_ F371_ Dis.n0
              have h376_ := RowsAt.keep h360_ F371_ Dis.n0
              have h377_ := Rd.keep' h365_ F371_ Dis.n0
              have h378_ := Rd.keep' h366_ F371_ Dis.n0
              have h379_ := Row.keep h367_ F371_ Dis.n0
              have h380_ := Row.keep h368_ F371_ Dis.n0
              have h381_ := Rd.keep' (RowsAt.rdb h359_ x hm_x) F371_ Dis.n0
              have h382_ := Rd.keep' (RowsAt.rdb h360_ y hm_y) F371_ Dis.n0
              refine ⟨_, rfl, ?_⟩
              refine ⟨off (by kernel_rfl), ?_⟩
              refine pl_pures 10 (by kernel_rfl) (by kernel_rfl) (off (by kernel_rfl)) ?_
              refine pl_done (by kernel_rfl) ?_
              refine blk_n ?_
              refine then_n ?_
              refine c_reg 12 tagApart_c_R12 (by kernel_rfl) ?_
              refine at_pures 1 (by kernel_rfl) (by kernel_rfl) ?_
              refine at_int (kd := .i64) (IntKind.i64.wrap ((i : Int) + (1 : Int))) ((i : Int) + (1 : Int)) (by kernel_rfl) (by kernel_rfl) (wrapN_i64 (by omega) (by omega)) ?_
              refine at_pures 3 (by kernel_rfl) (by kernel_rfl) ?_
              refine at_done (by kernel_rfl) ?_
              refine then_n ?_
              exact ⟨⟨i + 1, (decide (x.b = y.b)), is_mk (by kernel_rfl) (by kernel_rfl) (by kernel_rfl), ⟨fun h => ⟨(hsm (by assumption)).1, (hsm (by assumption)).2.1, by omega, mt_step (hsm (by assumption)).2.2.2 hx_x hx_y (of_decide_eq_true h)⟩, fun h e => of_decide_eq_false h (mb_of e.2 hx_x hx_y), (by omega), h375_, h376_, h377_, h378_, h379_, h380_, T374_⟩⟩, cnt_lt (k := (i : Int)) (k' := ((i : Int) + (1 : Int))) (by kernel_rfl) (by kernel_rfl) (by omega) (by omega)⟩
            · -- no
              replace c354_ : ¬ ((i : Int) < (ls.length : Int)) := of_decide_eq_false c354_
              refine c_exit 0 (by kernel_rfl) ?_
              refine then_e ?_
              refine then_e ?_
              refine blk_hit ?_
              refine then_n ?_
              refine c_seq [1, 1, 1, 1, 1, 1, 1, 1, 0] [1, 1, 1, 1, 1, 1, 1, 1, 1] (by kernel_rfl) ?_
              refine c_reg 14 tagApart_c_R14 (by kernel_rfl) ?_
              refine at_pures 3 (by kernel_rfl) (by kernel_rfl) ?_
              refine at_do (by kernel_rfl) (op_call 23 #[(.tmp 96), (.tmp 97)] #[(.slice ao315_ ((imgL (sB s) ls).length) cap316_), (.slice ao342_ ((imgL (sB t) ms).length) cap343_)] (by kernel_rfl) (by kernel_rfl) (by kernel_rfl) ?_)
              have C387_ := same_c (.slice ao315_ ((imgL (sB s) ls).length) cap316_) (imgL (sB s) ls) (.slice ao342_ ((imgL (sB t) ms).length) cap343_) (imgL (sB t) ms) w351_ (Row.sl q_4L349_) (Row.sl q_5L349_)  (by first | omega | with_reducible assumption | (simp only [List.length_append, List.length_cons, List.length_nil, putB_length]; omega) | decide) (by first | omega | with_reducible assumption | (simp only [List.length_append, List.length_cons, List.length_nil, putB_length]; omega) | decide)
              refine Calls.mono C387_ ?_
              rintro e386_ w384_ ⟨rfl, F385_⟩
              have T388_ := Fr.tr hFrL349_ F385_
              have h389_ := RowsAt.keep q_0L349_ F385_ Dis.n0
              have h390_ := RowsAt.keep q_1L349_ F385_ Dis.n0
              have h391_ := Rd.keep' q_2L349_ F385_ Dis.n0
              have h392_ := Rd.keep' q_3L349_ F385_ Dis.n0
              have h393_ := Row.keep q_4L349_ F385_ Dis.n0
              have h394_ := Row.keep q_5L349_ F385_ Dis.n0
              refine ⟨_, rfl, ?_⟩
              refine at_pures 6 (by kernel_rfl) (by kernel_rfl) ?_
              refine at_done (by kernel_rfl) ?_
              refine then_n ?_
              refine c_ret (by kernel_rfl) ?_
              refine fin_ret (.bool (sm == (decide ((imgL (sB s) ls) = (imgL (sB t) ms))))) (by kernel_rfl) (by kernel_rfl) ?_
              exact ⟨(by rw [tagApart_end hb1 hb2 hlg_a.2.2.1 hlg_b.2.2.1 hsm hsf (fun h => by first | omega | (simp_all))]), T388_⟩
          · -- no
            refine at_pures 7 (by kernel_rfl) (by kernel_rfl) ?_
            refine at_done (by kernel_rfl) ?_
            refine then_n ?_
            refine c_else (.tmp 83) [1, 1, 1, 1, 1, 1, 1, 0, 1, 0, 0, 0, 1, 0] [1, 1, 1, 1, 1, 1, 1, 0, 1, 0, 0, 0, 1, 1] (by kernel_rfl) (by kernel_rfl) ?_
            refine c_exit 0 (by kernel_rfl) ?_
            refine then_e ?_
            refine then_e ?_
            refine blk_hit ?_
            refine then_n ?_
            refine c_seq [1, 1, 1, 1, 1, 1, 1, 1, 0] [1, 1, 1, 1, 1, 1, 1, 1, 1] (by kernel_rfl) ?_
            refine c_reg 14 tagApart_c_R14 (by kernel_rfl) ?_
            refine at_pures 3 (by kernel_rfl) (by kernel_rfl) ?_
            refine at_do (by kernel_rfl) (op_call 23 #[(.tmp 96), (.tmp 97)] #[(.slice ao315_ ((imgL (sB s) ls).length) cap316_), (.slice ao342_ ((imgL (sB t) ms).length) cap343_)] (by kernel_rfl) (by kernel_rfl) (by kernel_rfl) ?_)
            have C399_ := same_c (.slice ao315_ ((imgL (sB s) ls).length) cap316_) (imgL (sB s) ls) (.slice ao342_ ((imgL (sB t) ms).length) cap343_) (imgL (sB t) ms) w351_ (Row.sl q_4L349_) (Row.sl q_5L349_)  (by first | omega | with_reducible assumption | (simp only [List.length_append, List.length_cons, List.length_nil, putB_length]; omega) | decide) (by first | omega | with_reducible assumption | (simp only [List.length_append, List.length_cons, List.length_nil, putB_length]; omega) | decide)
            refine Calls.mono C399_ ?_
            rintro e398_ w396_ ⟨rfl, F397_⟩
            have T400_ := Fr.tr hFrL349_ F397_
            have h401_ := RowsAt.keep q_0L349_ F397_ Dis.n0
            have h402_ := RowsAt.keep q_1L349_ F397_ Dis.n0
            have h403_ := Rd.keep' q_2L349_ F397_ Dis.n0
            have h404_ := Rd.keep' q_3L349_ F397_ Dis.n0
            have h405_ := Row.keep q_4L349_ F397_ Dis.n0
            have h406_ := Row.keep q_5L349_ F397_ Dis.n0
            refine ⟨_, rfl, ?_⟩
            refine at_pures 6 (by kernel_rfl) (by kernel_rfl) ?_
            refine at_done (by kernel_rfl) ?_
            refine then_n ?_
            refine c_ret (by kernel_rfl) ?_
            refine fin_ret (.bool (sm == (decide ((imgL (sB s) ls) = (imgL (sB t) ms))))) (by kernel_rfl) (by kernel_rfl) ?_
            exact ⟨(by rw [tagApart_end hb1 hb2 hlg_a.2.2.1 hlg_b.2.2.1 hsm hsf (fun h => by first | omega | (simp_all))]), T400_⟩
        · -- no
          replace c348_ : s ≠ t := str_no c348_
          refine at_pures 11 (by kernel_rfl) (by kernel_rfl) ?_
          refine at_done (by kernel_rfl) ?_
          refine then_n ?_
          refine c_seq [1, 1, 1, 1, 1, 1, 1, 0] [1, 1, 1, 1, 1, 1, 1, 1] (by kernel_rfl) ?_
          refine c_seq [1, 1, 1, 1, 1, 1, 1, 0, 0] [1, 1, 1, 1, 1, 1, 1, 0, 1] (by kernel_rfl) ?_
          refine c_reg 10 tagApart_c_R10 (by kernel_rfl) ?_
          refine at_pures 1 (by kernel_rfl) (by kernel_rfl) ?_
          refine at_done (by kernel_rfl) ?_
          refine then_n ?_
          refine c_block 0 [1, 1, 1, 1, 1, 1, 1, 0, 1, 0] (by kernel_rfl) ?_
          refine c_loop (fun a w' => ∃ (i : Nat), ∃ (sm : Bool), (∃ u, a = mk 100 [(0, (.string s)), (1, (.string t)), (2, (.slice ao ls.length cap)), (3, (.slice bo ms.length bcap)), (8, (.bool false)), (9, (.slice ao315_ ((imgL (sB s) ls).length) cap316_)), (10, (.int .i64 0)), (11, (.slice ao342_ ((imgL (sB t) ms).length) cap343_)), (12, (.int .i64 0)), (13, (.bool sm)), (14, (.int .i64 (i : Int))), (15, (.bool true)), (16, (.bool false)), (17, (.string s)), (18, (.slice ao ls.length cap)), (19, (.bool (largeR s.size ls))), (20, (.bool false)), (21, (.string t)), (22, (.slice bo ms.length bcap)), (23, (.bool (largeR t.size ms))), (24, (.bool (largeR t.size ms))), (25, (.tuple #[(.slice ao315_ ((imgL (sB s) ls).length) cap316_), (.int .i64 0)])), (26, (.string s)), (27, (.slice ao ls.length cap)), (28, (.tuple #[(.slice ao315_ ((imgL (sB s) ls).length) cap316_), (.int .i64 0)])), (29, (.slice ao315_ ((imgL (sB s) ls).length) cap316_)), (30, (.int .i64 0)), (31, (.tuple #[(.slice ao342_ ((imgL (sB t) ms).length) cap343_), (.int .i64 0)])), (32, (.string t)), (33, (.slice bo ms.length bcap)), (34, (.tuple #[(.slice ao342_ ((imgL (sB t) ms).length) cap343_), (.int .i64 0)])), (35, (.slice ao342_ ((imgL (sB t) ms).length) cap343_)), (36, (.int .i64 0)), (37, (.int .i64 0)), (38, (.bool false)), (39, (.bool false)), (40, (.int .i64 0)), (41, (.bool false)), (42, (.bool false)), (67, (.string s)), (68, (.string t)), (69, (.bool (s == t))), (70, (.bool false)), (76, (.bool false))] u) ∧ (sm = true → s = t ∧ ls.length = ms.length ∧ i ≤ ls.length ∧ (ls.take i).map (·.b) = (ms.take i).map (·.b)) ∧ (sm = false → ¬ (s = t ∧ ls.map (·.b) = ms.map (·.b))) ∧ (i ≤ ls.length) ∧ (RowsAt fp w' ao ls) ∧ (RowsAt fp w' bo ms) ∧ (Rd w' (some ⟨0, 0, none⟩) ((hw KL).toList)) ∧ (Rd w' (some ⟨1, 0, none⟩) ((hw KL).toList)) ∧ (Row w' 5 1 (.slice ao315_ ((imgL (sB s) ls).length) cap316_) ((imgL (sB s) ls).length) (B (imgL (sB s) ls))) ∧ (Row w' 5 1 (.slice ao342_ ((imgL (sB t) ms).length) cap343_) ((imgL (sB t) ms).length) (B (imgL (sB t) ms))) ∧ (Fr w w' N0)) (fun a _ => cnt (ls.length) 14 a) [1, 1, 1, 1, 1, 1, 1, 0, 1, 0, 0] (by kernel_rfl) ⟨0, false, is_mk (by kernel_rfl) (by kernel_rfl) (by kernel_rfl), ⟨(fun h => (by cases h)), (fun _ e => absurd e.1 (by assumption)), Nat.zero_le _, h335_, h336_, h337_, h338_, h339_, h322_, T334_⟩⟩ ?_
          rintro a408_ w409_ ⟨i, sm, ⟨u410_, rfl⟩, ⟨hsm, hsf, hi, q_0L407_, q_1L407_, q_2L407_, q_3L407_, q_4L407_, q_5L407_, hFrL407_⟩⟩
          refine c_seq [1, 1, 1, 1, 1, 1, 1, 0, 1, 0, 0, 0] [1, 1, 1, 1, 1, 1, 1, 0, 1, 0, 0, 1] (by kernel_rfl) ?_
          refine c_seq [1, 1, 1, 1, 1, 1, 1, 0, 1, 0, 0, 0, 0] [1, 1, 1, 1, 1, 1, 1, 0, 1, 0, 0, 0, 1] (by kernel_rfl) ?_
          refine c_reg 11 tagApart_c_R11 (by kernel_rfl) ?_
          refine at_pures 1 (by kernel_rfl) (by kernel_rfl) ?_
          refine at_split (sm) (by kernel_rfl) (by kernel_rfl) (fun c411_ => ?_) (fun c411_ => ?_)
          · -- yes
            refine at_pures 7 (by kernel_rfl) (by kernel_rfl) ?_
            refine at_done (by kernel_rfl) ?_
            refine then_n ?_
            refine c_if (.tmp 83) (decide ((i : Int) < (ls.length : Int))) [1, 1, 1, 1, 1, 1, 1, 0, 1, 0, 0, 0, 1, 0] [1, 1, 1, 1, 1, 1, 1, 0, 1, 0, 0, 0, 1, 1] (by kernel_rfl) (by kernel_rfl) (fun c412_ => ?_) (fun c412_ => ?_)
            · -- yes
              replace c412_ : (i : Int) < (ls.length : Int) := of_decide_eq_true c412_
              refine c_skip (by kernel_rfl) ?_
              refine then_n ?_
              refine c_seq [1, 1, 1, 1, 1, 1, 1, 0, 1, 0, 0, 1, 0] [1, 1, 1, 1, 1, 1, 1, 0, 1, 0, 0, 1, 1] (by kernel_rfl) ?_
              refine c_block 1 [1, 1, 1, 1, 1, 1, 1, 0, 1, 0, 0, 1, 0, 0] (by kernel_rfl) ?_
              refine c_plan 13 tagApart_c_R13 (fun w' => RowsAt fp w' ao ls ∧ RowsAt fp w' bo ms ∧ True) tagApart_c_sk13 tagApart_c_pl13 (by kernel_rfl) (by kernel_rfl) (by kernel_rfl) (by kernel_rfl) (by kernel_rfl) (fun w413_ F414_ => ?_)
              have T415_ := Fr.tr hFrL407_ F414_
              have h417_ := RowsAt.keep q_0L407_ F414_ Dis.n0
              have h418_ := RowsAt.keep q_1L407_ F414_ Dis.n0
              have S416_ : RowsAt fp w413_ ao ls ∧ RowsAt fp w413_ bo ms ∧ True := ⟨h417_, h418_, trivial⟩
              refine pl_pures 2 (by kernel_rfl) (by kernel_rfl) (off (by kernel_rfl)) ?_
              obtain ⟨x, hx_x⟩ : ∃ x, ls[i]? = some x := ⟨_, List.getElem?_eq_getElem (by omega)⟩
              have hm_x := List.mem_of_getElem? hx_x; have ho_x := RowsAt.ok h417_ x hm_x; have hi_x := RowsAt.in2 h417_ x hm_x; have hB_x := ho_x.b; have hc_x := ho_x.cap
              have hxl_x := lensum_mem hm_x; have hlen2 := (hsm (by assumption)).2.1
              obtain ⟨ad419_, ha420_⟩ := (RowsAt.rd h417_).has (i * 1) (by rw [cellsR_length]; omega)
              refine pl_quiet 2 (.pointer (some (ad419_.add (i * 1)))) (by kernel_rfl) (by kernel_rfl) (fun w' => run_idx_o 29 (.tmp 86) (.tmp 87) 1 ao ad419_ ls.length cap .i64 i (by kernel_rfl) (by kernel_rfl) (by kernel_rfl) (by kernel_rfl) (by kernel_rfl) ha420_ (by omega)) (off (by kernel_rfl)) ?_
              refine pl_read 3 (.slice x.ao x.b.length x.cap) (by kernel_rfl) (by kernel_rfl) (fun w' hs => run_loadE1 22 (.tmp 88) ao ad419_ (i * 1) (cellsR ls) (.slice x.ao x.b.length x.cap) (by kernel_rfl) (by kernel_rfl) (by kernel_rfl) ha420_ (RowsAt.rd hs.1) (cellsR_get ls i x hx_x)) S416_ ?_
              refine pl_pures 6 (by kernel_rfl) (by kernel_rfl) (fun _ => S416_) ?_
              obtain ⟨y, hx_y⟩ : ∃ x, ms[i]? = some x := ⟨_, List.getElem?_eq_getElem (by omega)⟩
              have hm_y := List.mem_of_getElem? hx_y; have ho_y := RowsAt.ok h418_ y hm_y; have hi_y := RowsAt.in2 h418_ y hm_y; have hB_y := ho_y.b; have hc_y := ho_y.cap
              have hxl_y := lensum_mem hm_y
              obtain ⟨ad421_, ha422_⟩ := (RowsAt.rd h418_).has (i * 1) (by rw [cellsR_length]; omega)
              refine pl_quiet 6 (.pointer (some (ad421_.add (i * 1)))) (by kernel_rfl) (by kernel_rfl) (fun w' => run_idx_o 29 (.tmp 90) (.tmp 91) 1 bo ad421_ ms.length bcap .i64 i (by kernel_rfl) (by kernel_rfl) (by kernel_rfl) (by kernel_rfl) (by kernel_rfl) ha422_ (by omega)) (fun _ => S416_) ?_
              refine pl_read 7 (.slice y.ao y.b.length y.cap) (by kernel_rfl) (by kernel_rfl) (fun w' hs => run_loadE1 22 (.tmp 92) bo ad421_ (i * 1) (cellsR ms) (.slice y.ao y.b.length y.cap) (by kernel_rfl) (by kernel_rfl) (by kernel_rfl) ha422_ (RowsAt.rd hs.2.1) (cellsR_get ms i y hx_y)) S416_ ?_
              have h423_ := Rd.keep' q_2L407_ F414_ Dis.n0
              have h424_ := Rd.keep' q_3L407_ F414_ Dis.n0
              have h425_ := Row.keep q_4L407_ F414_ Dis.n0
              have h426_ := Row.keep q_5L407_ F414_ Dis.n0
              refine pl_do 8 (by kernel_rfl) (by kernel_rfl) (op_call 23 #[(.tmp 89), (.tmp 93)] #[(.slice x.ao x.b.length x.cap), (.slice y.ao y.b.length y.cap)] (by kernel_rfl) (by kernel_rfl) (by kernel_rfl) ?_)
              have C431_ := same_c (.slice x.ao x.b.length x.cap) x.b (.slice y.ao y.b.length y.cap) y.b w413_ ⟨_, _, rfl, (RowsAt.rdb h417_ x hm_x)⟩ ⟨_, _, rfl, (RowsAt.rdb h418_ y hm_y)⟩  (by first | omega | with_reducible assumption | (simp only [List.length_append, List.length_cons, List.length_nil, putB_length]; omega) | decide) (by first | omega | with_reducible assumption | (simp only [List.length_append, List.length_cons, List.length_nil, putB_length]; omega) | decide)
              refine Calls.mono C431_ ?_
              rintro e430_ w428_ ⟨rfl, F429_⟩
              have T432_ := Fr.tr T415_ F429_
              have h433_ := RowsAt.keep h417_ F429_ Dis.n0
              have h434_ := RowsAt.keep h418_ F429_ Dis.n0
              have h435_ := Rd.keep' h423_ F429_ Dis.n0
              have h436_ := Rd.keep' h424_ F429_ Dis.n0
              have h437_ := Row.keep h425_ F429_ Dis.n0
              have h438_ := Row.keep h426_ F429_ Dis.n0
              have h439_ := Rd.keep' (RowsAt.rdb h417_ x hm_x) F429_ Dis.n0
              have h440_ := Rd.keep' (RowsAt.rdb h418_ y hm_y) F429_ Dis.n0
              refine ⟨_, rfl, ?_⟩
              refine ⟨off (by kernel_rfl), ?_⟩
              refine pl_pures 10 (by kernel_rfl) (by kernel_rfl) (off (by kernel_rfl)) ?_
              refine pl_done (by kernel_rfl) ?_
              refine blk_n ?_
              refine then_n ?_
              refine c_reg 12 tagApart_c_R12 (by kernel_rfl) ?_
              refine at_pures 1 (by kernel_rfl) (by kernel_rfl) ?_
              refine at_int (kd := .i64) (IntKind.i64.wrap ((i : Int) + (1 : Int))) ((i : Int) + (1 : Int)) (by kernel_rfl) (by kernel_rfl) (wrapN_i64 (by omega) (by omega)) ?_
              refine at_pures 3 (by kernel_rfl) (by kernel_rfl) ?_
              refine at_done (by kernel_rfl) ?_
              refine then_n ?_
              exact ⟨⟨i + 1, (decide (x.b = y.b)), is_mk (by kernel_rfl) (by kernel_rfl) (by kernel_rfl), ⟨fun h => ⟨(hsm (by assumption)).1, (hsm (by assumption)).2.1, by omega, mt_step (hsm (by assumption)).2.2.2 hx_x hx_y (of_decide_eq_true h)⟩, fun h e => of_decide_eq_false h (mb_of e.2 hx_x hx_y), (by omega), h433_, h434_, h435_, h436_, h437_, h438_, T432_⟩⟩, cnt_lt (k := (i : Int)) (k' := ((i : Int) + (1 : Int))) (by kernel_rfl) (by kernel_rfl) (by omega) (by omega)⟩
            · -- no
              replace c412_ : ¬ ((i : Int) < (ls.length : Int)) := of_decide_eq_false c412_
              refine c_exit 0 (by kernel_rfl) ?_
              refine then_e ?_
              refine then_e ?_
              refine blk_hit ?_
              refine then_n ?_
              refine c_seq [1, 1, 1, 1, 1, 1, 1, 1, 0] [1, 1, 1, 1, 1, 1, 1, 1, 1] (by kernel_rfl) ?_
              refine c_reg 14 tagApart_c_R14 (by kernel_rfl) ?_
              refine at_pures 3 (by kernel_rfl) (by kernel_rfl) ?_
              refine at_do (by kernel_rfl) (op_call 23 #[(.tmp 96), (.tmp 97)] #[(.slice ao315_ ((imgL (sB s) ls).length) cap316_), (.slice ao342_ ((imgL (sB t) ms).length) cap343_)] (by kernel_rfl) (by kernel_rfl) (by kernel_rfl) ?_)
              have C445_ := same_c (.slice ao315_ ((imgL (sB s) ls).length) cap316_) (imgL (sB s) ls) (.slice ao342_ ((imgL (sB t) ms).length) cap343_) (imgL (sB t) ms) w409_ (Row.sl q_4L407_) (Row.sl q_5L407_)  (by first | omega | with_reducible assumption | (simp only [List.length_append, List.length_cons, List.length_nil, putB_length]; omega) | decide) (by first | omega | with_reducible assumption | (simp only [List.length_append, List.length_cons, List.length_nil, putB_length]; omega) | decide)
              refine Calls.mono C445_ ?_
              rintro e444_ w442_ ⟨rfl, F443_⟩
              have T446_ := Fr.tr hFrL407_ F443_
              have h447_ := RowsAt.keep q_0L407_ F443_ Dis.n0
              have h448_ := RowsAt.keep q_1L407_ F443_ Dis.n0
              have h449_ := Rd.keep' q_2L407_ F443_ Dis.n0
              have h450_ := Rd.keep' q_3L407_ F443_ Dis.n0
              have h451_ := Row.keep q_4L407_ F443_ Dis.n0
              have h452_ := Row.keep q_5L407_ F443_ Dis.n0
              refine ⟨_, rfl, ?_⟩
              refine at_pures 6 (by kernel_rfl) (by kernel_rfl) ?_
              refine at_done (by kernel_rfl) ?_
              refine then_n ?_
              refine c_ret (by kernel_rfl) ?_
              refine fin_ret (.bool (sm == (decide ((imgL (sB s) ls) = (imgL (sB t) ms))))) (by kernel_rfl) (by kernel_rfl) ?_
              exact ⟨(by rw [tagApart_end hb1 hb2 hlg_a.2.2.1 hlg_b.2.2.1 hsm hsf (fun h => by first | omega | (simp_all))]), T446_⟩
          · -- no
            refine at_pures 7 (by kernel_rfl) (by kernel_rfl) ?_
            refine at_done (by kernel_rfl) ?_
            refine then_n ?_
            refine c_else (.tmp 83) [1, 1, 1, 1, 1, 1, 1, 0, 1, 0, 0, 0, 1, 0] [1, 1, 1, 1, 1, 1, 1, 0, 1, 0, 0, 0, 1, 1] (by kernel_rfl) (by kernel_rfl) ?_
            refine c_exit 0 (by kernel_rfl) ?_
            refine then_e ?_
            refine then_e ?_
            refine blk_hit ?_
            refine then_n ?_
            refine c_seq [1, 1, 1, 1, 1, 1, 1, 1, 0] [1, 1, 1, 1, 1, 1, 1, 1, 1] (by kernel_rfl) ?_
            refine c_reg 14 tagApart_c_R14 (by kernel_rfl) ?_
            refine at_pures 3 (by kernel_rfl) (by kernel_rfl) ?_
            refine at_do (by kernel_rfl) (op_call 23 #[(.tmp 96), (.tmp 97)] #[(.slice ao315_ ((imgL (sB s) ls).length) cap316_), (.slice ao342_ ((imgL (sB t) ms).length) cap343_)] (by kernel_rfl) (by kernel_rfl) (by kernel_rfl) ?_)
            have C457_ := same_c (.slice ao315_ ((imgL (sB s) ls).length) cap316_) (imgL (sB s) ls) (.slice ao342_ ((imgL (sB t) ms).length) cap343_) (imgL (sB t) ms) w409_ (Row.sl q_4L407_) (Row.sl q_5L407_)  (by first | omega | with_reducible assumption | (simp only [List.length_append, List.length_cons, List.length_nil, putB_length]; omega) | decide) (by first | omega | with_reducible assumption | (simp only [List.length_append, List.length_cons, List.length_nil, putB_length]; omega) | decide)
            refine Calls.mono C457_ ?_
            rintro e456_ w454_ ⟨rfl, F455_⟩
            have T458_ := Fr.tr hFrL407_ F455_
            have h459_ := RowsAt.keep q_0L407_ F455_ Dis.n0
            have h460_ := RowsAt.keep q_1L407_ F455_ Dis.n0
            have h461_ := Rd.keep' q_2L407_ F455_ Dis.n0
            have h462_ := Rd.keep' q_3L407_ F455_ Dis.n0
            have h463_ := Row.keep q_4L407_ F455_ Dis.n0
            have h464_ := Row.keep q_5L407_ F455_ Dis.n0
            refine ⟨_, rfl, ?_⟩
            refine at_pures 6 (by kernel_rfl) (by kernel_rfl) ?_
            refine at_done (by kernel_rfl) ?_
            refine then_n ?_
            refine c_ret (by kernel_rfl) ?_
            refine fin_ret (.bool (sm == (decide ((imgL (sB s) ls) = (imgL (sB t) ms))))) (by kernel_rfl) (by kernel_rfl) ?_
            exact ⟨(by rw [tagApart_end hb1 hb2 hlg_a.2.2.1 hlg_b.2.2.1 hsm hsf (fun h => by first | omega | (simp_all))]), T458_⟩
end Go.Proofs.YtboggbknebepdaaDoor
