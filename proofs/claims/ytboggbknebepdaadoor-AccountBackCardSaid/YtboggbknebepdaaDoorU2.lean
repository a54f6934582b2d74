/- The walks of layer 14's laws. -/
import Derived.Test.YtboggbknebepdaaDoorU1
import Derived.Test.YtboggbknebepdaaDoorDeq
namespace Go.Proofs.YtboggbknebepdaaDoor
open Go Go.RowKit Go.Alm
noncomputable def awake14_c_R0 : Array Oper := rAt Tryd.prog 29 [0]
noncomputable def awake14_c_R1 : Array Oper := rAt Tryd.prog 29 [1, 0]
noncomputable def awake14_c_R2 : Array Oper := rAt Tryd.prog 29 [1, 1, 0]
noncomputable def awake14_c_R3 : Array Oper := rAt Tryd.prog 29 [1, 1, 1, 0]
noncomputable def awake14_c_R4 : Array Oper := rAt Tryd.prog 29 [1, 1, 1, 1, 0]
noncomputable def awake14_c_R5 : Array Oper := rAt Tryd.prog 29 [1, 1, 1, 1, 1, 0]
noncomputable def awake14_c_R6 : Array Oper := rAt Tryd.prog 29 [1, 1, 1, 1, 1, 1, 0]
def awake14_c_sk6 : Nat → Bool := fun i => decide (i ∈ [9, 22, 33, 34, 35, 36, 37])
def awake14_c_pl6 : List (Nat × PK) := [(0, .q false), (1, .e), (2, .e), (3, .q false), (4, .q false), (5, .q false), (6, .q false), (7, .q false), (8, .q true), (9, .q true), (10, .q false), (11, .q false), (12, .q false), (13, .q false), (14, .q false), (15, .q false), (16, .q false), (17, .q false), (18, .q false), (19, .q false), (20, .q false), (21, .q true), (22, .e), (23, .q false), (24, .q false), (25, .q false), (26, .q false), (27, .q false), (28, .q false), (29, .q false), (30, .q true), (31, .e), (32, .q false), (33, .q false), (34, .e), (35, .e), (36, .q false), (37, .q false), (38, .q false)]
set_option maxRecDepth 100000 in
set_option maxHeartbeats 1000000 in
theorem awake14_c (w : World) (h_ks0 : Rd w (some ⟨0, 0, none⟩) ((hw KL).toList)) (h_ks1 : Rd w (some ⟨1, 0, none⟩) ((hw KL).toList)) :
    Calls Tryd.prog 29 #[] w fun e w' => e = .returned (.bool true) ∧ Fr w w' N0 := by
  refine c_enter (mk 69 [] (fun _ => undef)) Tryd.func29 (by kernel_rfl) (by kernel_rfl) ?_
  refine c_seq [0] [1] (by kernel_rfl) ?_
  refine c_reg 0 awake14_c_R0 (by kernel_rfl) ?_
  refine at_pures 1 (by kernel_rfl) (by kernel_rfl) ?_
  refine at_done (by kernel_rfl) ?_
  refine then_n ?_
  refine c_seq [1, 0] [1, 1] (by kernel_rfl) ?_
  refine c_reg 1 awake14_c_R1 (by kernel_rfl) ?_
  refine at_pures 1 (by kernel_rfl) (by kernel_rfl) ?_
  refine at_do (by kernel_rfl) (op_new (.cells #[(.string (⟨#[]⟩ : ByteArray)), (.int .u64 0), (.int .u32 0)] 60) (fun N => (.pointer (some ⟨N, 0, none⟩))) (fun _ => by kernel_rfl) (fun w2_ b1_ h3_ q4_ F5_ => ?_))
  have d6_ : Dis (One b1_) (Ar (some ⟨0, 0, none⟩) ((hw KL).toList)) := Dis.fresh (New.one q4_) (Rd.in h_ks0)
  have d7_ : Dis (One b1_) (Ar (some ⟨1, 0, none⟩) ((hw KL).toList)) := Dis.fresh (New.one q4_) (Rd.in h_ks1)
  have N8_ : New w N0 (One b1_) := New.made q4_ (Fr.size (Fr.refl w N0))
  have T9_ := Fr.tr (Fr.refl w N0) F5_
  have h10_ := Rd.keep' h_ks0 F5_ Dis.n0
  have h11_ := Rd.keep' h_ks1 F5_ Dis.n0
  refine at_do (by kernel_rfl) (op_store 60 (.tmp 1) (.tmp 10) b1_ 0 (.agg #[(.string (⟨#[97, 98]⟩ : ByteArray)), (.int .u64 258), (.int .u32 3)]) _ _ #[(.string (⟨#[97, 98]⟩ : ByteArray)), (.int .u64 258), (.int .u32 3)] (by kernel_rfl) (by kernel_rfl) (by kernel_rfl) h3_ (by kernel_rfl) (by kernel_rfl) (by kernel_rfl) (by kernel_rfl) (fun w12_ h13_ z14_ F15_ => ?_))
  have T16_ := Fr.then T9_ F15_ N8_
  have h17_ := Rd.keep' h10_ F15_ (Dis.sym d6_)
  have h18_ := Rd.keep' h11_ F15_ (Dis.sym d7_)
  refine at_done (by kernel_rfl) ?_
  refine then_n ?_
  refine c_seq [1, 1, 0] [1, 1, 1] (by kernel_rfl) ?_
  refine c_reg 2 awake14_c_R2 (by kernel_rfl) ?_
  refine at_loadN 60 (.tmp 1) b1_ 0 3 _ _ _ #[(.string (⟨#[97, 98]⟩ : ByteArray)), (.int .u64 258), (.int .u32 3)] (by kernel_rfl) (by kernel_rfl) (by kernel_rfl) (by kernel_rfl) (by kernel_rfl) h13_ (by kernel_rfl) (by kernel_rfl) ?_
  refine at_do (by kernel_rfl) (op_call 30 #[(.tmp 12)] #[(.agg #[(.string (⟨#[97, 98]⟩ : ByteArray)), (.int .u64 258), (.int .u32 3)])] (by kernel_rfl) (by kernel_rfl) (by kernel_rfl) ?_)
  have C26_ := abytes_c (⟨#[97, 98]⟩ : ByteArray) 258 3 w12_   (by first | exact Nat.le_of_ble_eq_true (by kernel_rfl) | exact accB_byt _ _ _ | exact Byt.all (by kernel_rfl)) (by first | exact Nat.le_of_ble_eq_true (by kernel_rfl) | exact accB_byt _ _ _ | exact Byt.all (by kernel_rfl))
  refine Calls.mono C26_ ?_
  rintro e25_ w23_ ⟨vout19_, rfl, h20_, F24_, h22_⟩
  have d27_ : Dis (Own vout19_) (Ar (some ⟨0, 0, none⟩) ((hw KL).toList)) := Dis.fresh h22_ (Rd.in h17_)
  have d28_ : Dis (Own vout19_) (Ar (some ⟨1, 0, none⟩) ((hw KL).toList)) := Dis.fresh h22_ (Rd.in h18_)
  have d29_ : Dis (Own vout19_) (One b1_) := Dis.fresh h22_ (In.one h13_)
  have T30_ := Fr.tr T16_ F24_
  have h31_ := Rd.keep' h17_ F24_ Dis.n0
  have h32_ := Rd.keep' h18_ F24_ Dis.n0
  have h33_ := Fr.keep F24_ h13_ Dis.n0
  have N35_ : New w N0 (Own vout19_) := New.later' h22_ (Fr.size T16_)
  obtain ⟨ao36_, cap37_, rfl, hc38_, hm39_, hR40_, ho41_⟩ := Row.read h20_
  refine ⟨(.tuple #[(.slice ao36_ ((accB (⟨#[97, 98]⟩ : ByteArray) 258 3).length) cap37_), (.int .i64 0)]), (by kernel_rfl), ?_⟩
  refine at_pures 7 (by kernel_rfl) (by kernel_rfl) ?_
  refine at_done (by kernel_rfl) ?_
  refine then_n ?_
  refine c_seq [1, 1, 1, 0] [1, 1, 1, 1] (by kernel_rfl) ?_
  refine c_reg 3 awake14_c_R3 (by kernel_rfl) ?_
  refine at_pures 1 (by kernel_rfl) (by kernel_rfl) ?_
  refine at_do (by kernel_rfl) (op_call 34 #[(.tmp 17)] #[(.slice ao36_ ((accB (⟨#[97, 98]⟩ : ByteArray) 258 3).length) cap37_)] (by kernel_rfl) (by kernel_rfl) (by kernel_rfl) ?_)
  have C46_ := aread_c (.slice ao36_ ((accB (⟨#[97, 98]⟩ : ByteArray) 258 3).length) cap37_) (accB (⟨#[97, 98]⟩ : ByteArray) 258 3) w23_ (Row.sl h20_)  (by first | exact Nat.le_of_ble_eq_true (by kernel_rfl) | exact accB_byt _ _ _ | exact Byt.all (by kernel_rfl)) (by first | exact Nat.le_of_ble_eq_true (by kernel_rfl) | exact accB_byt _ _ _ | exact Byt.all (by kernel_rfl))
  refine Calls.mono C46_ ?_
  rintro e45_ w43_ ⟨rfl, F44_⟩
  have T47_ := Fr.tr T30_ F44_
  have h48_ := Rd.keep' h31_ F44_ Dis.n0
  have h49_ := Rd.keep' h32_ F44_ Dis.n0
  have h50_ := Fr.keep F44_ h33_ Dis.n0
  have h51_ := Row.keep h20_ F44_ Dis.n0
  refine ⟨(.tuple #[(.agg #[(.string (⟨#[97, 98]⟩ : ByteArray)), (.int .u64 258), (.int .u32 3)]), (.int .i64 0)]), (by kernel_rfl), ?_⟩
  refine at_pures 5 (by kernel_rfl) (by kernel_rfl) ?_
  refine at_do (by kernel_rfl) (op_new (.cells #[(.string (⟨#[]⟩ : ByteArray)), (.int .u64 0), (.int .u32 0)] 60) (fun N => (.pointer (some ⟨N, 0, none⟩))) (fun _ => by kernel_rfl) (fun w53_ b52_ h54_ q55_ F56_ => ?_))
  have d57_ : Dis (One b52_) (Ar (some ⟨0, 0, none⟩) ((hw KL).toList)) := Dis.fresh (New.one q55_) (Rd.in h48_)
  have d58_ : Dis (One b52_) (Ar (some ⟨1, 0, none⟩) ((hw KL).toList)) := Dis.fresh (New.one q55_) (Rd.in h49_)
  have d59_ : Dis (One b52_) (One b1_) := Dis.fresh (New.one q55_) (In.one h50_)
  have d60_ : Dis (One b52_) (Own (.slice ao36_ ((accB (⟨#[97, 98]⟩ : ByteArray) 258 3).length) cap37_)) := Dis.fresh (New.one q55_) (Row.in h51_)
  have N61_ : New w N0 (One b52_) := New.made q55_ (Fr.size T47_)
  have T62_ := Fr.tr T47_ F56_
  have h63_ := Rd.keep' h48_ F56_ Dis.n0
  have h64_ := Rd.keep' h49_ F56_ Dis.n0
  have h65_ := Fr.keep F56_ h50_ Dis.n0
  have h66_ := Row.keep h51_ F56_ Dis.n0
  refine at_do (by kernel_rfl) (op_store 60 (.tmp 4) (.tmp 19) b52_ 0 (.agg #[(.string (⟨#[97, 98]⟩ : ByteArray)), (.int .u64 258), (.int .u32 3)]) _ _ #[(.string (⟨#[97, 98]⟩ : ByteArray)), (.int .u64 258), (.int .u32 3)] (by kernel_rfl) (by kernel_rfl) (by kernel_rfl) h54_ (by kernel_rfl) (by kernel_rfl) (by kernel_rfl) (by kernel_rfl) (fun w67_ h68_ z69_ F70_ => ?_))
  have T71_ := Fr.then T62_ F70_ N61_
  have h72_ := Rd.keep' h63_ F70_ (Dis.sym d57_)
  have h73_ := Rd.keep' h64_ F70_ (Dis.sym d58_)
  have h74_ := Fr.keep F70_ h65_ (Dis.sym d59_)
  have h75_ := Row.keep h66_ F70_ (Dis.sym d60_)
  refine at_pures 8 (by kernel_rfl) (by kernel_rfl) ?_
  refine at_done (by kernel_rfl) ?_
  refine then_n ?_
  refine c_seq [1, 1, 1, 1, 0] [1, 1, 1, 1, 1] (by kernel_rfl) ?_
  refine c_reg 4 awake14_c_R4 (by kernel_rfl) ?_
  refine at_loadN 60 (.tmp 1) b1_ 0 3 _ _ _ #[(.string (⟨#[97, 98]⟩ : ByteArray)), (.int .u64 258), (.int .u32 3)] (by kernel_rfl) (by kernel_rfl) (by kernel_rfl) (by kernel_rfl) (by kernel_rfl) h74_ (by kernel_rfl) (by kernel_rfl) ?_
  refine at_do (by kernel_rfl) (op_call 32 #[(.tmp 22)] #[(.agg #[(.string (⟨#[97, 98]⟩ : ByteArray)), (.int .u64 258), (.int .u32 3)])] (by kernel_rfl) (by kernel_rfl) (by kernel_rfl) ?_)
  have C80_ := ahash_c (⟨#[97, 98]⟩ : ByteArray) 258 3 w67_ h73_  (by first | exact Nat.le_of_ble_eq_true (by kernel_rfl) | exact accB_byt _ _ _ | exact Byt.all (by kernel_rfl)) (by first | exact Nat.le_of_ble_eq_true (by kernel_rfl) | exact accB_byt _ _ _ | exact Byt.all (by kernel_rfl))
  refine Calls.mono C80_ ?_
  rintro e79_ w77_ ⟨rfl, F78_⟩
  have T81_ := Fr.tr T71_ F78_
  have h82_ := Rd.keep' h72_ F78_ Dis.n0
  have h83_ := Rd.keep' h73_ F78_ Dis.n0
  have h84_ := Fr.keep F78_ h74_ Dis.n0
  have h85_ := Row.keep h75_ F78_ Dis.n0
  have h86_ := Fr.keep F78_ h68_ Dis.n0
  refine ⟨(.tuple #[(.agg (hv (accH (⟨#[97, 98]⟩ : ByteArray) 258 3))), (.int .i64 0)]), (by kernel_rfl), ?_⟩
  refine at_pures 5 (by kernel_rfl) (by kernel_rfl) ?_
  refine at_do (by kernel_rfl) (op_new (.cells #[(.int .u8 0), (.int .u8 0), (.int .u8 0), (.int .u8 0), (.int .u8 0), (.int .u8 0), (.int .u8 0), (.int .u8 0), (.int .u8 0), (.int .u8 0), (.int .u8 0), (.int .u8 0), (.int .u8 0), (.int .u8 0), (.int .u8 0), (.int .u8 0), (.int .u8 0), (.int .u8 0), (.int .u8 0), (.int .u8 0), (.int .u8 0), (.int .u8 0), (.int .u8 0), (.int .u8 0), (.int .u8 0), (.int .u8 0), (.int .u8 0), (.int .u8 0), (.int .u8 0), (.int .u8 0), (.int .u8 0), (.int .u8 0)] 25) (fun N => (.pointer (some ⟨N, 0, none⟩))) (fun _ => by kernel_rfl) (fun w88_ b87_ h89_ q90_ F91_ => ?_))
  have d92_ : Dis (One b87_) (Ar (some ⟨0, 0, none⟩) ((hw KL).toList)) := Dis.fresh (New.one q90_) (Rd.in h82_)
  have d93_ : Dis (One b87_) (Ar (some ⟨1, 0, none⟩) ((hw KL).toList)) := Dis.fresh (New.one q90_) (Rd.in h83_)
  have d94_ : Dis (One b87_) (One b1_) := Dis.fresh (New.one q90_) (In.one h84_)
  have d95_ : Dis (One b87_) (Own (.slice ao36_ ((accB (⟨#[97, 98]⟩ : ByteArray) 258 3).length) cap37_)) := Dis.fresh (New.one q90_) (Row.in h85_)
  have d96_ : Dis (One b87_) (One b52_) := Dis.fresh (New.one q90_) (In.one h86_)
  have N97_ : New w N0 (One b87_) := New.made q90_ (Fr.size T81_)
  have T98_ := Fr.tr T81_ F91_
  have h99_ := Rd.keep' h82_ F91_ Dis.n0
  have h100_ := Rd.keep' h83_ F91_ Dis.n0
  have h101_ := Fr.keep F91_ h84_ Dis.n0
  have h102_ := Row.keep h85_ F91_ Dis.n0
  have h103_ := Fr.keep F91_ h86_ Dis.n0
  refine at_do (by kernel_rfl) (op_store 25 (.tmp 6) (.tmp 24) b87_ 0 (.agg (hv (accH (⟨#[97, 98]⟩ : ByteArray) 258 3))) _ _ (hv (accH (⟨#[97, 98]⟩ : ByteArray) 258 3)) (by kernel_rfl) (by kernel_rfl) (by kernel_rfl) h89_ (by kernel_rfl) (by kernel_rfl) (by kernel_rfl) (by kernel_rfl) (fun w104_ h105_ z106_ F107_ => ?_))
  have T108_ := Fr.then T98_ F107_ N97_
  have h109_ := Rd.keep' h99_ F107_ (Dis.sym d92_)
  have h110_ := Rd.keep' h100_ F107_ (Dis.sym d93_)
  have h111_ := Fr.keep F107_ h101_ (Dis.sym d94_)
  have h112_ := Row.keep h102_ F107_ (Dis.sym d95_)
  have h113_ := Fr.keep F107_ h103_ (Dis.sym d96_)
  refine at_pures 8 (by kernel_rfl) (by kernel_rfl) ?_
  refine at_done (by kernel_rfl) ?_
  refine then_n ?_
  refine c_seq [1, 1, 1, 1, 1, 0] [1, 1, 1, 1, 1, 1] (by kernel_rfl) ?_
  refine c_reg 5 awake14_c_R5 (by kernel_rfl) ?_
  refine at_pures 1 (by kernel_rfl) (by kernel_rfl) ?_
  refine at_do (by kernel_rfl) (op_call 30 #[(.tmp 27)] #[(.agg #[(.string (⟨#[]⟩ : ByteArray)), (.int .u64 0), (.int .u32 0)])] (by kernel_rfl) (by kernel_rfl) (by kernel_rfl) ?_)
  have C121_ := abytes_c (⟨#[]⟩ : ByteArray) 0 0 w104_   (by first | exact Nat.le_of_ble_eq_true (by kernel_rfl) | exact accB_byt _ _ _ | exact Byt.all (by kernel_rfl)) (by first | exact Nat.le_of_ble_eq_true (by kernel_rfl) | exact accB_byt _ _ _ | exact Byt.all (by kernel_rfl))
  refine Calls.mono C121_ ?_
  rintro e120_ w118_ ⟨vout114_, rfl, h115_, F119_, h117_⟩
  have d122_ : Dis (Own vout114_) (Ar (some ⟨0, 0, none⟩) ((hw KL).toList)) := Dis.fresh h117_ (Rd.in h109_)
  have d123_ : Dis (Own vout114_) (Ar (some ⟨1, 0, none⟩) ((hw KL).toList)) := Dis.fresh h117_ (Rd.in h110_)
  have d124_ : Dis (Own vout114_) (One b1_) := Dis.fresh h117_ (In.one h111_)
  have d125_ : Dis (Own vout114_) (Own (.slice ao36_ ((accB (⟨#[97, 98]⟩ : ByteArray) 258 3).length) cap37_)) := Dis.fresh h117_ (Row.in h112_)
  have d126_ : Dis (Own vout114_) (One b52_) := Dis.fresh h117_ (In.one h113_)
  have d127_ : Dis (Own vout114_) (One b87_) := Dis.fresh h117_ (In.one h105_)
  have T128_ := Fr.tr T108_ F119_
  have h129_ := Rd.keep' h109_ F119_ Dis.n0
  have h130_ := Rd.keep' h110_ F119_ Dis.n0
  have h131_ := Fr.keep F119_ h111_ Dis.n0
  have h132_ := Row.keep h112_ F119_ Dis.n0
  have h133_ := Fr.keep F119_ h113_ Dis.n0
  have h134_ := Fr.keep F119_ h105_ Dis.n0
  have N136_ : New w N0 (Own vout114_) := New.later' h117_ (Fr.size T108_)
  obtain ⟨ao137_, cap138_, rfl, hc139_, hm140_, hR141_, ho142_⟩ := Row.read h115_
  refine ⟨(.tuple #[(.slice ao137_ ((accB (⟨#[]⟩ : ByteArray) 0 0).length) cap138_), (.int .i64 1)]), (by kernel_rfl), ?_⟩
  refine at_pures 7 (by kernel_rfl) (by kernel_rfl) ?_
  refine at_done (by kernel_rfl) ?_
  refine then_n ?_
  refine c_seq [1, 1, 1, 1, 1, 1, 0] [1, 1, 1, 1, 1, 1, 1] (by kernel_rfl) ?_
  refine c_plan 6 awake14_c_R6 (fun w' => w'.heap[b52_]? = some (.cells #[(.string (⟨#[97, 98]⟩ : ByteArray)), (.int .u64 258), (.int .u32 3)] 60 (0, 0)) ∧ w'.heap[b1_]? = some (.cells #[(.string (⟨#[97, 98]⟩ : ByteArray)), (.int .u64 258), (.int .u32 3)] 60 (0, 0)) ∧ w'.heap[b87_]? = some (.cells (hv (accH (⟨#[97, 98]⟩ : ByteArray) 258 3)) 25 (0, 0)) ∧ True) awake14_c_sk6 awake14_c_pl6 (by kernel_rfl) (by kernel_rfl) (by kernel_rfl) (by kernel_rfl) (by kernel_rfl) (fun w143_ F144_ => ?_)
  have T145_ := Fr.tr T128_ F144_
  have h147_ := Fr.keep F144_ h133_ Dis.n0
  have h148_ := Fr.keep F144_ h131_ Dis.n0
  have h149_ := Fr.keep F144_ h134_ Dis.n0
  have S146_ : w143_.heap[b52_]? = some (.cells #[(.string (⟨#[97, 98]⟩ : ByteArray)), (.int .u64 258), (.int .u32 3)] 60 (0, 0)) ∧ w143_.heap[b1_]? = some (.cells #[(.string (⟨#[97, 98]⟩ : ByteArray)), (.int .u64 258), (.int .u32 3)] 60 (0, 0)) ∧ w143_.heap[b87_]? = some (.cells (hv (accH (⟨#[97, 98]⟩ : ByteArray) 258 3)) 25 (0, 0)) ∧ True := ⟨h147_, h148_, h149_, trivial⟩
  refine pl_pures 1 (by kernel_rfl) (by kernel_rfl) (off (by kernel_rfl)) ?_
  refine pl_do 1 (by kernel_rfl) (by kernel_rfl) (op_new (.cells #[(.int .u8 2), (.int .u8 97), (.int .u8 98), (.int .u8 0), (.int .u8 0), (.int .u8 0), (.int .u8 0), (.int .u8 0), (.int .u8 0), (.int .u8 1), (.int .u8 2), (.int .u8 0), (.int .u8 0), (.int .u8 0), (.int .u8 3)] 5) (fun N => (.slice (some ⟨N, 0, none⟩) 15 15)) (fun _ => by kernel_rfl) (fun w151_ b150_ h152_ q153_ F154_ => ?_))
  have h155_ := Rd.keep' h129_ F144_ Dis.n0
  have d156_ : Dis (One b150_) (Ar (some ⟨0, 0, none⟩) ((hw KL).toList)) := Dis.fresh (New.one q153_) (Rd.in h155_)
  have h157_ := Rd.keep' h130_ F144_ Dis.n0
  have d158_ : Dis (One b150_) (Ar (some ⟨1, 0, none⟩) ((hw KL).toList)) := Dis.fresh (New.one q153_) (Rd.in h157_)
  have d159_ : Dis (One b150_) (One b1_) := Dis.fresh (New.one q153_) (In.one h148_)
  have h160_ := Row.keep h132_ F144_ Dis.n0
  have d161_ : Dis (One b150_) (Own (.slice ao36_ ((accB (⟨#[97, 98]⟩ : ByteArray) 258 3).length) cap37_)) := Dis.fresh (New.one q153_) (Row.in h160_)
  have d162_ : Dis (One b150_) (One b52_) := Dis.fresh (New.one q153_) (In.one h147_)
  have d163_ : Dis (One b150_) (One b87_) := Dis.fresh (New.one q153_) (In.one h149_)
  have h164_ := Row.keep h115_ F144_ Dis.n0
  have d165_ : Dis (One b150_) (Own (.slice ao137_ ((accB (⟨#[]⟩ : ByteArray) 0 0).length) cap138_)) := Dis.fresh (New.one q153_) (Row.in h164_)
  have N166_ : New w N0 (One b150_) := New.made q153_ (Fr.size T145_)
  have T167_ := Fr.tr T145_ F154_
  refine ⟨off (by kernel_rfl), ?_⟩
  have h168_ := Fr.keep F154_ h147_ Dis.n0
  have h169_ := Fr.keep F154_ h148_ Dis.n0
  have h170_ := Fr.keep F154_ h149_ Dis.n0
  have S171_ : w151_.heap[b52_]? = some (.cells #[(.string (⟨#[97, 98]⟩ : ByteArray)), (.int .u64 258), (.int .u32 3)] 60 (0, 0)) ∧ w151_.heap[b1_]? = some (.cells #[(.string (⟨#[97, 98]⟩ : ByteArray)), (.int .u64 258), (.int .u32 3)] 60 (0, 0)) ∧ w151_.heap[b87_]? = some (.cells (hv (accH (⟨#[97, 98]⟩ : ByteArray) 258 3)) 25 (0, 0)) ∧ True := ⟨h168_, h169_, h170_, trivial⟩
  have h172_ := Rd.keep' h155_ F154_ Dis.n0
  have h173_ := Rd.keep' h157_ F154_ Dis.n0
  have h174_ := Row.keep h160_ F154_ Dis.n0
  have h175_ := Row.keep h164_ F154_ Dis.n0
  refine pl_do 2 (by kernel_rfl) (by kernel_rfl) (op_call 23 #[(.tmp 31), (.tmp 32)] #[(.slice ao36_ ((accB (⟨#[97, 98]⟩ : ByteArray) 258 3).length) cap37_), (.slice (some ⟨b150_, 0, none⟩) 15 15)] (by kernel_rfl) (by kernel_rfl) (by kernel_rfl) ?_)
  have C180_ := same_c (.slice ao36_ ((accB (⟨#[97, 98]⟩ : ByteArray) 258 3).length) cap37_) (accB (⟨#[97, 98]⟩ : ByteArray) 258 3) (.slice (some ⟨b150_, 0, none⟩) 15 15) [2, 97, 98, 0, 0, 0, 0, 0, 0, 1, 2, 0, 0, 0, 3] w151_ (Row.sl h174_) (SlV.of_blk (l := [2, 97, 98, 0, 0, 0, 0, 0, 0, 1, 2, 0, 0, 0, 3]) h152_ (by kernel_rfl))  (by first | exact Nat.le_of_ble_eq_true (by kernel_rfl) | exact accB_byt _ _ _ | exact Byt.all (by kernel_rfl)) (by first | exact Nat.le_of_ble_eq_true (by kernel_rfl) | exact accB_byt _ _ _ | exact Byt.all (by kernel_rfl))
  refine Calls.mono C180_ ?_
  rintro e179_ w177_ ⟨rfl, F178_⟩
  have T181_ := Fr.tr T167_ F178_
  have h182_ := Rd.keep' h172_ F178_ Dis.n0
  have h183_ := Rd.keep' h173_ F178_ Dis.n0
  have h184_ := Fr.keep F178_ h169_ Dis.n0
  have h185_ := Row.keep h174_ F178_ Dis.n0
  have h186_ := Fr.keep F178_ h168_ Dis.n0
  have h187_ := Fr.keep F178_ h170_ Dis.n0
  have h188_ := Row.keep h175_ F178_ Dis.n0
  have h189_ := Fr.keep F178_ h152_ Dis.n0
  refine ⟨(.bool true), (by kernel_rfl), ?_⟩
  refine ⟨off (by kernel_rfl), ?_⟩
  have S190_ : w177_.heap[b52_]? = some (.cells #[(.string (⟨#[97, 98]⟩ : ByteArray)), (.int .u64 258), (.int .u32 3)] 60 (0, 0)) ∧ w177_.heap[b1_]? = some (.cells #[(.string (⟨#[97, 98]⟩ : ByteArray)), (.int .u64 258), (.int .u32 3)] 60 (0, 0)) ∧ w177_.heap[b87_]? = some (.cells (hv (accH (⟨#[97, 98]⟩ : ByteArray) 258 3)) 25 (0, 0)) ∧ True := ⟨h186_, h184_, h187_, trivial⟩
  refine pl_pures 5 (by kernel_rfl) (by kernel_rfl) (off (by kernel_rfl)) ?_
  refine pl_as 5 (.bool true) (.bool true) (by kernel_rfl) (by kernel_rfl) ⟨by kernel_rfl, by kernel_rfl⟩ rfl (off (by kernel_rfl)) ?_
  refine pl_pures 8 (by kernel_rfl) (by kernel_rfl) (off (by kernel_rfl)) ?_
  refine pl_read 8 (.agg #[(.string (⟨#[97, 98]⟩ : ByteArray)), (.int .u64 258), (.int .u32 3)]) (by kernel_rfl) (by kernel_rfl) (fun w' hs => run_loadN 60 (.tmp 4) b52_ 0 3 _ _ _ #[(.string (⟨#[97, 98]⟩ : ByteArray)), (.int .u64 258), (.int .u32 3)] (by kernel_rfl) (by kernel_rfl) (by kernel_rfl) (by kernel_rfl) hs.1 (by kernel_rfl) (by kernel_rfl)) S190_ ?_
  refine pl_read 9 (.agg #[(.string (⟨#[97, 98]⟩ : ByteArray)), (.int .u64 258), (.int .u32 3)]) (by kernel_rfl) (by kernel_rfl) (fun w' hs => run_loadN 60 (.tmp 1) b1_ 0 3 _ _ _ #[(.string (⟨#[97, 98]⟩ : ByteArray)), (.int .u64 258), (.int .u32 3)] (by kernel_rfl) (by kernel_rfl) (by kernel_rfl) (by kernel_rfl) hs.2.1 (by kernel_rfl) (by kernel_rfl)) S190_ ?_
  refine pl_quiet 10 (.bool true) (by kernel_rfl) (by kernel_rfl) (fun w' => run_eqd_self true 9995 5 60 (.tmp 39) (.tmp 40) #[(.string (⟨#[97, 98]⟩ : ByteArray)), (.int .u64 258), (.int .u32 3)] rfl (by kernel_rfl) (by kernel_rfl) (by kernel_rfl) (by kernel_rfl) (by kernel_rfl) (by kernel_rfl) (by kernel_rfl) (by kernel_rfl) (WfA.lit ⟨Nat.le_of_ble_eq_true (by kernel_rfl), wf_n64 (n := 258) (by decide), wf_n32 (n := 3) (by decide), trivial⟩)) (off (by kernel_rfl)) ?_
  refine pl_pures 14 (by kernel_rfl) (by kernel_rfl) (off (by kernel_rfl)) ?_
  refine pl_as 14 (.bool true) (.bool true) (by kernel_rfl) (by kernel_rfl) ⟨by kernel_rfl, by kernel_rfl⟩ rfl (off (by kernel_rfl)) ?_
  refine pl_pures 18 (by kernel_rfl) (by kernel_rfl) (off (by kernel_rfl)) ?_
  refine pl_as 18 (.bool true) (.bool true) (by kernel_rfl) (by kernel_rfl) ⟨by kernel_rfl, by kernel_rfl⟩ rfl (off (by kernel_rfl)) ?_
  refine pl_pures 21 (by kernel_rfl) (by kernel_rfl) (off (by kernel_rfl)) ?_
  refine pl_read 21 (.agg (hv (accH (⟨#[97, 98]⟩ : ByteArray) 258 3))) (by kernel_rfl) (by kernel_rfl) (fun w' hs => run_loadN 25 (.tmp 6) b87_ 0 32 _ _ _ (hv (accH (⟨#[97, 98]⟩ : ByteArray) 258 3)) (by kernel_rfl) (by kernel_rfl) (by kernel_rfl) (by kernel_rfl) hs.2.2.1 (by kernel_rfl) (by kernel_rfl)) S190_ ?_
  refine pl_do 22 (by kernel_rfl) (by kernel_rfl) (op_call 42 #[] #[] (by kernel_rfl) (by kernel_rfl) (by kernel_rfl) ?_)
  have C195_ := anone_c  w177_ h183_  
  refine Calls.mono C195_ ?_
  rintro e194_ w192_ ⟨rfl, F193_⟩
  have T196_ := Fr.tr T181_ F193_
  have h197_ := Rd.keep' h182_ F193_ Dis.n0
  have h198_ := Rd.keep' h183_ F193_ Dis.n0
  have h199_ := Fr.keep F193_ h184_ Dis.n0
  have h200_ := Row.keep h185_ F193_ Dis.n0
  have h201_ := Fr.keep F193_ h186_ Dis.n0
  have h202_ := Fr.keep F193_ h187_ Dis.n0
  have h203_ := Row.keep h188_ F193_ Dis.n0
  have h204_ := Fr.keep F193_ h189_ Dis.n0
  refine ⟨_, rfl, ?_⟩
  have S205_ : w192_.heap[b52_]? = some (.cells #[(.string (⟨#[97, 98]⟩ : ByteArray)), (.int .u64 258), (.int .u32 3)] 60 (0, 0)) ∧ w192_.heap[b1_]? = some (.cells #[(.string (⟨#[97, 98]⟩ : ByteArray)), (.int .u64 258), (.int .u32 3)] 60 (0, 0)) ∧ w192_.heap[b87_]? = some (.cells (hv (accH (⟨#[97, 98]⟩ : ByteArray) 258 3)) 25 (0, 0)) ∧ True := ⟨h201_, h199_, h202_, trivial⟩
  refine ⟨fun _ => S205_, ?_⟩
  refine pl_quiet 23 (.bool true) (by kernel_rfl) (by kernel_rfl) (fun w' => (run_eq_hash false 25 (.tmp 52) (.tmp 53) (accH (⟨#[97, 98]⟩ : ByteArray) 258 3) accNone (by kernel_rfl) (by kernel_rfl) (by kernel_rfl) (by kernel_rfl) (by kernel_rfl) (by kernel_rfl) (accH_length _ _ _) accNone_length (accH_byt _ _ _) accNone_byt).trans (by kernel_rfl)) (off (by kernel_rfl)) ?_
  refine pl_pures 27 (by kernel_rfl) (by kernel_rfl) (off (by kernel_rfl)) ?_
  refine pl_as 27 (.bool true) (.bool true) (by kernel_rfl) (by kernel_rfl) ⟨by kernel_rfl, by kernel_rfl⟩ rfl (off (by kernel_rfl)) ?_
  refine pl_pures 30 (by kernel_rfl) (by kernel_rfl) (off (by kernel_rfl)) ?_
  refine pl_read 30 (.agg #[(.string (⟨#[97, 98]⟩ : ByteArray)), (.int .u64 258), (.int .u32 3)]) (by kernel_rfl) (by kernel_rfl) (fun w' hs => run_loadN 60 (.tmp 1) b1_ 0 3 _ _ _ #[(.string (⟨#[97, 98]⟩ : ByteArray)), (.int .u64 258), (.int .u32 3)] (by kernel_rfl) (by kernel_rfl) (by kernel_rfl) (by kernel_rfl) hs.2.1 (by kernel_rfl) (by kernel_rfl)) S205_ ?_
  refine pl_do 31 (by kernel_rfl) (by kernel_rfl) (op_call 36 #[(.tmp 61)] #[(.agg #[(.string (⟨#[97, 98]⟩ : ByteArray)), (.int .u64 258), (.int .u32 3)])] (by kernel_rfl) (by kernel_rfl) (by kernel_rfl) ?_)
  have C210_ := aright_c (⟨#[97, 98]⟩ : ByteArray) 258 3 w192_   
  refine Calls.mono C210_ ?_
  rintro e209_ w207_ ⟨rfl, F208_⟩
  have T211_ := Fr.tr T196_ F208_
  have h212_ := Rd.keep' h197_ F208_ Dis.n0
  have h213_ := Rd.keep' h198_ F208_ Dis.n0
  have h214_ := Fr.keep F208_ h199_ Dis.n0
  have h215_ := Row.keep h200_ F208_ Dis.n0
  have h216_ := Fr.keep F208_ h201_ Dis.n0
  have h217_ := Fr.keep F208_ h202_ Dis.n0
  have h218_ := Row.keep h203_ F208_ Dis.n0
  have h219_ := Fr.keep F208_ h204_ Dis.n0
  refine ⟨(.bool true), (by kernel_rfl), ?_⟩
  refine ⟨off (by kernel_rfl), ?_⟩
  have S220_ : w207_.heap[b52_]? = some (.cells #[(.string (⟨#[97, 98]⟩ : ByteArray)), (.int .u64 258), (.int .u32 3)] 60 (0, 0)) ∧ w207_.heap[b1_]? = some (.cells #[(.string (⟨#[97, 98]⟩ : ByteArray)), (.int .u64 258), (.int .u32 3)] 60 (0, 0)) ∧ w207_.heap[b87_]? = some (.cells (hv (accH (⟨#[97, 98]⟩ : ByteArray) 258 3)) 25 (0, 0)) ∧ True := ⟨h216_, h214_, h217_, trivial⟩
  refine pl_pures 34 (by kernel_rfl) (by kernel_rfl) (fun _ => S220_) ?_
  refine pl_do 34 (by kernel_rfl) (by kernel_rfl) (op_call 42 #[] #[] (by kernel_rfl) (by kernel_rfl) (by kernel_rfl) ?_)
  have C225_ := anone_c  w207_ h213_  
  refine Calls.mono C225_ ?_
  rintro e224_ w222_ ⟨rfl, F223_⟩
  have T226_ := Fr.tr T211_ F223_
  have h227_ := Rd.keep' h212_ F223_ Dis.n0
  have h228_ := Rd.keep' h213_ F223_ Dis.n0
  have h229_ := Fr.keep F223_ h214_ Dis.n0
  have h230_ := Row.keep h215_ F223_ Dis.n0
  have h231_ := Fr.keep F223_ h216_ Dis.n0
  have h232_ := Fr.keep F223_ h217_ Dis.n0
  have h233_ := Row.keep h218_ F223_ Dis.n0
  have h234_ := Fr.keep F223_ h219_ Dis.n0
  refine ⟨_, rfl, ?_⟩
  have S235_ : w222_.heap[b52_]? = some (.cells #[(.string (⟨#[97, 98]⟩ : ByteArray)), (.int .u64 258), (.int .u32 3)] 60 (0, 0)) ∧ w222_.heap[b1_]? = some (.cells #[(.string (⟨#[97, 98]⟩ : ByteArray)), (.int .u64 258), (.int .u32 3)] 60 (0, 0)) ∧ w222_.heap[b87_]? = some (.cells (hv (accH (⟨#[97, 98]⟩ : ByteArray) 258 3)) 25 (0, 0)) ∧ True := ⟨h231_, h229_, h232_, trivial⟩
  refine ⟨fun _ => S235_, ?_⟩
  refine pl_do 35 (by kernel_rfl) (by kernel_rfl) (op_call 43 #[] #[] (by kernel_rfl) (by kernel_rfl) (by kernel_rfl) ?_)
  have C240_ := ranone_c  w222_ h227_  
  refine Calls.mono C240_ ?_
  rintro e239_ w237_ ⟨rfl, F238_⟩
  have T241_ := Fr.tr T226_ F238_
  have h242_ := Rd.keep' h227_ F238_ Dis.n0
  have h243_ := Rd.keep' h228_ F238_ Dis.n0
  have h244_ := Fr.keep F238_ h229_ Dis.n0
  have h245_ := Row.keep h230_ F238_ Dis.n0
  have h246_ := Fr.keep F238_ h231_ Dis.n0
  have h247_ := Fr.keep F238_ h232_ Dis.n0
  have h248_ := Row.keep h233_ F238_ Dis.n0
  have h249_ := Fr.keep F238_ h234_ Dis.n0
  refine ⟨_, rfl, ?_⟩
  have S250_ : w237_.heap[b52_]? = some (.cells #[(.string (⟨#[97, 98]⟩ : ByteArray)), (.int .u64 258), (.int .u32 3)] 60 (0, 0)) ∧ w237_.heap[b1_]? = some (.cells #[(.string (⟨#[97, 98]⟩ : ByteArray)), (.int .u64 258), (.int .u32 3)] 60 (0, 0)) ∧ w237_.heap[b87_]? = some (.cells (hv (accH (⟨#[97, 98]⟩ : ByteArray) 258 3)) 25 (0, 0)) ∧ True := ⟨h246_, h244_, h247_, trivial⟩
  refine ⟨fun _ => S250_, ?_⟩
  refine pl_quiet 36 (.bool true) (by kernel_rfl) (by kernel_rfl) (fun w' => run_eq_hash_self 25 (.tmp 65) (.tmp 66) accNone (by kernel_rfl) (by kernel_rfl) (by kernel_rfl) (by kernel_rfl) (by kernel_rfl) (by kernel_rfl) accNone_length accNone_byt) (fun _ => S250_) ?_
  refine pl_pures 39 (by kernel_rfl) (by kernel_rfl) (fun _ => S250_) ?_
  refine pl_done (by kernel_rfl) ?_
  refine then_n ?_
  refine c_ret (by kernel_rfl) ?_
  refine fin_ret (.bool true) (by kernel_rfl) (by kernel_rfl) ?_
  exact ⟨rfl, T241_⟩

noncomputable def accountTells_c_R0 : Array Oper := rAt Tryd.prog 9 [0]
noncomputable def accountTells_c_R1 : Array Oper := rAt Tryd.prog 9 [1, 0, 0]
noncomputable def accountTells_c_R3 : Array Oper := rAt Tryd.prog 9 [1, 1, 0, 0]
noncomputable def accountTells_c_R4 : Array Oper := rAt Tryd.prog 9 [1, 1, 0, 1, 0, 0]
noncomputable def accountTells_c_R5 : Array Oper := rAt Tryd.prog 9 [1, 1, 1, 0]
noncomputable def accountTells_c_R6 : Array Oper := rAt Tryd.prog 9 [1, 1, 1, 1, 0]
noncomputable def accountTells_c_R7 : Array Oper := rAt Tryd.prog 9 [1, 1, 1, 1, 1, 0]
noncomputable def accountTells_c_R8 : Array Oper := rAt Tryd.prog 9 [1, 1, 1, 1, 1, 1, 0]
noncomputable def accountTells_c_R9 : Array Oper := rAt Tryd.prog 9 [1, 1, 1, 1, 1, 1, 1, 0]
noncomputable def accountTells_c_R10 : Array Oper := rAt Tryd.prog 9 [1, 1, 1, 1, 1, 1, 1, 1, 0]
noncomputable def accountTells_c_R11 : Array Oper := rAt Tryd.prog 9 [1, 1, 1, 1, 1, 1, 1, 1, 1, 0]
noncomputable def accountTells_c_R12 : Array Oper := rAt Tryd.prog 9 [1, 1, 1, 1, 1, 1, 1, 1, 1, 1, 0]
def accountTells_c_sk12 : Nat → Bool := fun i => decide (i ∈ [1, 2, 17, 27, 31, 32, 33, 34])
def accountTells_c_pl12 : List (Nat × PK) := [(0, .q true), (2, .q true), (1, .e), (3, .e), (4, .q false), (5, .q false), (6, .q false), (7, .q false), (8, .e), (9, .q false), (10, .q false), (11, .q false), (12, .q false), (13, .q false), (14, .q false), (15, .q false), (16, .q true), (17, .q true), (18, .q false), (19, .q false), (20, .q false), (21, .q false), (22, .q false), (23, .q false), (24, .q false), (25, .q false), (26, .q true), (27, .q true), (28, .q false), (29, .q false), (30, .q false), (31, .q false), (32, .q false), (33, .q false), (34, .q false), (35, .q false)]
set_option maxRecDepth 100000 in
theorem accountTells_c (s : ByteArray) (bal : Nat) (non : Nat) (bo : Option Addr) (bcap : Nat) (bl : List Nat) (w : World) (h_b : Rd w bo (B bl)) (h_ks0 : Rd w (some ⟨0, 0, none⟩) ((hw KL).toList)) (h_ks1 : Rd w (some ⟨1, 0, none⟩) ((hw KL).toList)) (hs : s.size ≤ maxLen) (hbal : bal < 18446744073709551616) (hnon : non < 4294967296) (hB : Byt bl) (hbc : bl.length ≤ bcap) :
    Calls Tryd.prog 9 #[(.agg #[(.string s), (.int .u64 (bal : Int)), (.int .u32 (non : Int))]), (.slice bo bl.length bcap)] w fun e w' => e = .returned (.bool true) ∧ Fr w w' N0 := by
  refine c_enter (mk 95 [(0, (.agg #[(.string s), (.int .u64 (bal : Int)), (.int .u32 (non : Int))])), (1, (.slice bo bl.length bcap))] (fun _ => undef)) Tryd.func9 (by kernel_rfl) (by kernel_rfl) ?_
  refine c_seq [0] [1] (by kernel_rfl) ?_
  refine c_reg 0 accountTells_c_R0 (by kernel_rfl) ?_
  refine at_do (by kernel_rfl) (op_new (.cells #[(.string s), (.int .u64 (bal : Int)), (.int .u32 (non : Int))] 60) (fun N => (.pointer (some ⟨N, 0, none⟩))) (fun _ => by kernel_rfl) (fun w2_ b1_ h3_ q4_ F5_ => ?_))
  have d6_ : Dis (One b1_) (Ar bo (B bl)) := Dis.fresh (New.one q4_) (Rd.in h_b)
  have d7_ : Dis (One b1_) (Ar (some ⟨0, 0, none⟩) ((hw KL).toList)) := Dis.fresh (New.one q4_) (Rd.in h_ks0)
  have d8_ : Dis (One b1_) (Ar (some ⟨1, 0, none⟩) ((hw KL).toList)) := Dis.fresh (New.one q4_) (Rd.in h_ks1)
  have N9_ : New w N0 (One b1_) := New.made q4_ (Fr.size (Fr.refl w N0))
  have T10_ := Fr.tr (Fr.refl w N0) F5_
  refine at_pures 2 (by kernel_rfl) (by kernel_rfl) ?_
  refine at_done (by kernel_rfl) ?_
  refine then_n ?_
  refine c_seq [1, 0] [1, 1] (by kernel_rfl) ?_
  refine c_seq [1, 0, 0] [1, 0, 1] (by kernel_rfl) ?_
  refine c_reg 1 accountTells_c_R1 (by kernel_rfl) ?_
  have h11_ := Rd.keep' h_b F5_ Dis.n0
  have h12_ := Rd.keep' h_ks0 F5_ Dis.n0
  have h13_ := Rd.keep' h_ks1 F5_ Dis.n0
  refine at_do (by kernel_rfl) (op_call 29 #[] #[] (by kernel_rfl) (by kernel_rfl) (by kernel_rfl) ?_)
  have C18_ := awake14_c  w2_ h12_ h13_  
  refine Calls.mono C18_ ?_
  rintro e17_ w15_ ⟨rfl, F16_⟩
  have T19_ := Fr.tr T10_ F16_
  have h20_ := Rd.keep' h11_ F16_ Dis.n0
  have h21_ := Rd.keep' h12_ F16_ Dis.n0
  have h22_ := Rd.keep' h13_ F16_ Dis.n0
  have h23_ := Fr.keep F16_ h3_ Dis.n0
  refine ⟨_, rfl, ?_⟩
  refine at_pures 2 (by kernel_rfl) (by kernel_rfl) ?_
  refine at_done (by kernel_rfl) ?_
  refine then_n ?_
  refine c_else (.tmp 19) [1, 0, 1, 0] [1, 0, 1, 1] (by kernel_rfl) (by kernel_rfl) ?_
  refine c_skip (by kernel_rfl) ?_
  refine then_n ?_
  refine c_seq [1, 1, 0] [1, 1, 1] (by kernel_rfl) ?_
  refine c_seq [1, 1, 0, 0] [1, 1, 0, 1] (by kernel_rfl) ?_
  refine c_reg 3 accountTells_c_R3 (by kernel_rfl) ?_
  refine at_pures 1 (by kernel_rfl) (by kernel_rfl) ?_
  refine at_load1 9 (.tmp 20) b1_ 0 _ _ _ (.string s) (by kernel_rfl) (by kernel_rfl) (by kernel_rfl) (by kernel_rfl) h23_ (by kernel_rfl) ?_
  refine at_pures 4 (by kernel_rfl) (by kernel_rfl) ?_
  refine at_split (decide ((s.size : Int) > (300 : Int))) (by kernel_rfl) (by kernel_rfl) (fun c24_ => ?_) (fun c24_ => ?_)
  · -- yes
    replace c24_ : (s.size : Int) > (300 : Int) := of_decide_eq_true c24_
    refine at_pures 9 (by kernel_rfl) (by kernel_rfl) ?_
    refine at_done (by kernel_rfl) ?_
    refine then_n ?_
    refine c_then (.tmp 28) [1, 1, 0, 1, 0] [1, 1, 0, 1, 1] (by kernel_rfl) (by kernel_rfl) ?_
    refine c_seq [1, 1, 0, 1, 0, 0] [1, 1, 0, 1, 0, 1] (by kernel_rfl) ?_
    refine c_reg 4 accountTells_c_R4 (by kernel_rfl) ?_
    refine at_pures 1 (by kernel_rfl) (by kernel_rfl) ?_
    refine at_done (by kernel_rfl) ?_
    refine then_n ?_
    refine c_ret (by kernel_rfl) ?_
    refine then_r ?_
    refine fin_ret (.bool true) (by kernel_rfl) (by kernel_rfl) ?_
    exact ⟨rfl, T19_⟩
  · -- no
    replace c24_ : ¬ ((s.size : Int) > (300 : Int)) := of_decide_eq_false c24_
    refine at_pures 9 (by kernel_rfl) (by kernel_rfl) ?_
    refine at_done (by kernel_rfl) ?_
    refine then_n ?_
    refine c_if (.tmp 28) (decide ((bl.length : Int) > (300 : Int))) [1, 1, 0, 1, 0] [1, 1, 0, 1, 1] (by kernel_rfl) (by kernel_rfl) (fun c25_ => ?_) (fun c25_ => ?_)
    · -- yes
      replace c25_ : (bl.length : Int) > (300 : Int) := of_decide_eq_true c25_
      refine c_seq [1, 1, 0, 1, 0, 0] [1, 1, 0, 1, 0, 1] (by kernel_rfl) ?_
      refine c_reg 4 accountTells_c_R4 (by kernel_rfl) ?_
      refine at_pures 1 (by kernel_rfl) (by kernel_rfl) ?_
      refine at_done (by kernel_rfl) ?_
      refine then_n ?_
      refine c_ret (by kernel_rfl) ?_
      refine then_r ?_
      refine fin_ret (.bool true) (by kernel_rfl) (by kernel_rfl) ?_
      exact ⟨rfl, T19_⟩
    · -- no
      replace c25_ : ¬ ((bl.length : Int) > (300 : Int)) := of_decide_eq_false c25_
      refine c_skip (by kernel_rfl) ?_
      refine then_n ?_
      refine c_seq [1, 1, 1, 0] [1, 1, 1, 1] (by kernel_rfl) ?_
      refine c_reg 5 accountTells_c_R5 (by kernel_rfl) ?_
      refine at_loadN 60 (.tmp 2) b1_ 0 3 _ _ _ #[(.string s), (.int .u64 (bal : Int)), (.int .u32 (non : Int))] (by kernel_rfl) (by kernel_rfl) (by kernel_rfl) (by kernel_rfl) (by kernel_rfl) h23_ (by kernel_rfl) (by kernel_rfl) ?_
      refine at_do (by kernel_rfl) (op_new (.cells #[(.string (⟨#[]⟩ : ByteArray)), (.int .u64 0), (.int .u32 0)] 61) (fun N => (.pointer (some ⟨N, 0, none⟩))) (fun _ => by kernel_rfl) (fun w27_ b26_ h28_ q29_ F30_ => ?_))
      have d31_ : Dis (One b26_) (Ar bo (B bl)) := Dis.fresh (New.one q29_) (Rd.in h20_)
      have d32_ : Dis (One b26_) (Ar (some ⟨0, 0, none⟩) ((hw KL).toList)) := Dis.fresh (New.one q29_) (Rd.in h21_)
      have d33_ : Dis (One b26_) (Ar (some ⟨1, 0, none⟩) ((hw KL).toList)) := Dis.fresh (New.one q29_) (Rd.in h22_)
      have d34_ : Dis (One b26_) (One b1_) := Dis.fresh (New.one q29_) (In.one h23_)
      have N35_ : New w N0 (One b26_) := New.made q29_ (Fr.size T19_)
      have T36_ := Fr.tr T19_ F30_
      have h37_ := Rd.keep' h20_ F30_ Dis.n0
      have h38_ := Rd.keep' h21_ F30_ Dis.n0
      have h39_ := Rd.keep' h22_ F30_ Dis.n0
      have h40_ := Fr.keep F30_ h23_ Dis.n0
      refine at_do (by kernel_rfl) (op_store 61 (.tmp 5) (.tmp 29) b26_ 0 (.agg #[(.string s), (.int .u64 (bal : Int)), (.int .u32 (non : Int))]) _ _ #[(.string s), (.int .u64 (bal : Int)), (.int .u32 (non : Int))] (by kernel_rfl) (by kernel_rfl) (by kernel_rfl) h28_ (by kernel_rfl) (by kernel_rfl) (by kernel_rfl) (by kernel_rfl) (fun w41_ h42_ z43_ F44_ => ?_))
      have T45_ := Fr.then T36_ F44_ N35_
      have h46_ := Rd.keep' h37_ F44_ (Dis.sym d31_)
      have h47_ := Rd.keep' h38_ F44_ (Dis.sym d32_)
      have h48_ := Rd.keep' h39_ F44_ (Dis.sym d33_)
      have h49_ := Fr.keep F44_ h40_ (Dis.sym d34_)
      refine at_done (by kernel_rfl) ?_
      refine then_n ?_
      refine c_seq [1, 1, 1, 1, 0] [1, 1, 1, 1, 1] (by kernel_rfl) ?_
      refine c_reg 6 accountTells_c_R6 (by kernel_rfl) ?_
      refine at_loadN 60 (.tmp 2) b1_ 0 3 _ _ _ #[(.string s), (.int .u64 (bal : Int)), (.int .u32 (non : Int))] (by kernel_rfl) (by kernel_rfl) (by kernel_rfl) (by kernel_rfl) (by kernel_rfl) h49_ (by kernel_rfl) (by kernel_rfl) ?_
      refine at_do (by kernel_rfl) (op_call 30 #[(.tmp 31)] #[(.agg #[(.string s), (.int .u64 (bal : Int)), (.int .u32 (non : Int))])] (by kernel_rfl) (by kernel_rfl) (by kernel_rfl) ?_)
      have C57_ := abytes_c s bal non w41_   (by first | with_reducible assumption | omega | exact accB_byt _ _ _ | exact (accB_byt _ _ _).take _ | exact (Byt.nil.cat (accB_byt _ _ _)).cat (Byt.all (by kernel_rfl)) | exact Nat.le_trans accB_len (by omega) | (simp only [List.length_append, List.length_nil, List.length_cons]; omega)) (by first | with_reducible assumption | omega | exact accB_byt _ _ _ | exact (accB_byt _ _ _).take _ | exact (Byt.nil.cat (accB_byt _ _ _)).cat (Byt.all (by kernel_rfl)) | exact Nat.le_trans accB_len (by omega) | (simp only [List.length_append, List.length_nil, List.length_cons]; omega))
      refine Calls.mono C57_ ?_
      rintro e56_ w54_ ⟨vout50_, rfl, h51_, F55_, h53_⟩
      have d58_ : Dis (Own vout50_) (Ar bo (B bl)) := Dis.fresh h53_ (Rd.in h46_)
      have d59_ : Dis (Own vout50_) (Ar (some ⟨0, 0, none⟩) ((hw KL).toList)) := Dis.fresh h53_ (Rd.in h47_)
      have d60_ : Dis (Own vout50_) (Ar (some ⟨1, 0, none⟩) ((hw KL).toList)) := Dis.fresh h53_ (Rd.in h48_)
      have d61_ : Dis (Own vout50_) (One b1_) := Dis.fresh h53_ (In.one h49_)
      have d62_ : Dis (Own vout50_) (One b26_) := Dis.fresh h53_ (In.one h42_)
      have T63_ := Fr.tr T45_ F55_
      have h64_ := Rd.keep' h46_ F55_ Dis.n0
      have h65_ := Rd.keep' h47_ F55_ Dis.n0
      have h66_ := Rd.keep' h48_ F55_ Dis.n0
      have h67_ := Fr.keep F55_ h49_ Dis.n0
      have h68_ := Fr.keep F55_ h42_ Dis.n0
      have N70_ : New w N0 (Own vout50_) := New.later' h53_ (Fr.size T45_)
      obtain ⟨ao71_, cap72_, rfl, hc73_, hm74_, hR75_, ho76_⟩ := Row.read h51_
      refine ⟨_, rfl, ?_⟩
      refine at_pures 7 (by kernel_rfl) (by kernel_rfl) ?_
      refine at_done (by kernel_rfl) ?_
      refine then_n ?_
      refine c_seq [1, 1, 1, 1, 1, 0] [1, 1, 1, 1, 1, 1] (by kernel_rfl) ?_
      refine c_reg 7 accountTells_c_R7 (by kernel_rfl) ?_
      refine at_loadN 61 (.tmp 5) b26_ 0 3 _ _ _ #[(.string s), (.int .u64 (bal : Int)), (.int .u32 (non : Int))] (by kernel_rfl) (by kernel_rfl) (by kernel_rfl) (by kernel_rfl) (by kernel_rfl) h68_ (by kernel_rfl) (by kernel_rfl) ?_
      refine at_do (by kernel_rfl) (op_call 31 #[(.tmp 36)] #[(.agg #[(.string s), (.int .u64 (bal : Int)), (.int .u32 (non : Int))])] (by kernel_rfl) (by kernel_rfl) (by kernel_rfl) ?_)
      have C84_ := rabytes_c s bal non w54_   (by first | with_reducible assumption | omega | exact accB_byt _ _ _ | exact (accB_byt _ _ _).take _ | exact (Byt.nil.cat (accB_byt _ _ _)).cat (Byt.all (by kernel_rfl)) | exact Nat.le_trans accB_len (by omega) | (simp only [List.length_append, List.length_nil, List.length_cons]; omega)) (by first | with_reducible assumption | omega | exact accB_byt _ _ _ | exact (accB_byt _ _ _).take _ | exact (Byt.nil.cat (accB_byt _ _ _)).cat (Byt.all (by kernel_rfl)) | exact Nat.le_trans accB_len (by omega) | (simp only [List.length_append, List.length_nil, List.length_cons]; omega))
      refine Calls.mono C84_ ?_
      rintro e83_ w81_ ⟨vout77_, rfl, h78_, F82_, h80_⟩
      have d85_ : Dis (Own vout77_) (Ar bo (B bl)) := Dis.fresh h80_ (Rd.in h64_)
      have d86_ : Dis (Own vout77_) (Ar (some ⟨0, 0, none⟩) ((hw KL).toList)) := Dis.fresh h80_ (Rd.in h65_)
      have d87_ : Dis (Own vout77_) (Ar (some ⟨1, 0, none⟩) ((hw KL).toList)) := Dis.fresh h80_ (Rd.in h66_)
      have d88_ : Dis (Own vout77_) (One b1_) := Dis.fresh h80_ (In.one h67_)
      have d89_ : Dis (Own vout77_) (One b26_) := Dis.fresh h80_ (In.one h68_)
      have d90_ : Dis (Own vout77_) (Own (.slice ao71_ ((accB s bal non).length) cap72_)) := Dis.fresh h80_ (Row.in h51_)
      have T91_ := Fr.tr T63_ F82_
      have h92_ := Rd.keep' h64_ F82_ Dis.n0
      have h93_ := Rd.keep' h65_ F82_ Dis.n0
      have h94_ := Rd.keep' h66_ F82_ Dis.n0
      have h95_ := Fr.keep F82_ h67_ Dis.n0
      have h96_ := Fr.keep F82_ h68_ Dis.n0
      have h97_ := Row.keep h51_ F82_ Dis.n0
      have N99_ : New w N0 (Own vout77_) := New.later' h80_ (Fr.size T63_)
      obtain ⟨ao100_, cap101_, rfl, hc102_, hm103_, hR104_, ho105_⟩ := Row.read h78_
      refine ⟨_, rfl, ?_⟩
      refine at_pures 7 (by kernel_rfl) (by kernel_rfl) ?_
      refine at_done (by kernel_rfl) ?_
      refine then_n ?_
      refine c_seq [1, 1, 1, 1, 1, 1, 0] [1, 1, 1, 1, 1, 1, 1] (by kernel_rfl) ?_
      refine c_reg 8 accountTells_c_R8 (by kernel_rfl) ?_
      refine at_loadN 60 (.tmp 2) b1_ 0 3 _ _ _ #[(.string s), (.int .u64 (bal : Int)), (.int .u32 (non : Int))] (by kernel_rfl) (by kernel_rfl) (by kernel_rfl) (by kernel_rfl) (by kernel_rfl) h95_ (by kernel_rfl) (by kernel_rfl) ?_
      refine at_do (by kernel_rfl) (op_call 32 #[(.tmp 41)] #[(.agg #[(.string s), (.int .u64 (bal : Int)), (.int .u32 (non : Int))])] (by kernel_rfl) (by kernel_rfl) (by kernel_rfl) ?_)
      have C110_ := ahash_c s bal non w81_ h94_  (by first | with_reducible assumption | omega | exact accB_byt _ _ _ | exact (accB_byt _ _ _).take _ | exact (Byt.nil.cat (accB_byt _ _ _)).cat (Byt.all (by kernel_rfl)) | exact Nat.le_trans accB_len (by omega) | (simp only [List.length_append, List.length_nil, List.length_cons]; omega)) (by first | with_reducible assumption | omega | exact accB_byt _ _ _ | exact (accB_byt _ _ _).take _ | exact (Byt.nil.cat (accB_byt _ _ _)).cat (Byt.all (by kernel_rfl)) | exact Nat.le_trans accB_len (by omega) | (simp only [List.length_append, List.length_nil, List.length_cons]; omega))
      refine Calls.mono C110_ ?_
      rintro e109_ w107_ ⟨rfl, F108_⟩
      have T111_ := Fr.tr T91_ F108_
      have h112_ := Rd.keep' h92_ F108_ Dis.n0
      have h113_ := Rd.keep' h93_ F108_ Dis.n0
      have h114_ := Rd.keep' h94_ F108_ Dis.n0
      have h115_ := Fr.keep F108_ h95_ Dis.n0
      have h116_ := Fr.keep F108_ h96_ Dis.n0
      have h117_ := Row.keep h97_ F108_ Dis.n0
      have h118_ := Row.keep h78_ F108_ Dis.n0
      refine ⟨_, rfl, ?_⟩
      refine at_pures 5 (by kernel_rfl) (by kernel_rfl) ?_
      refine at_do (by kernel_rfl) (op_new (.cells #[(.int .u8 0), (.int .u8 0), (.int .u8 0), (.int .u8 0), (.int .u8 0), (.int .u8 0), (.int .u8 0), (.int .u8 0), (.int .u8 0), (.int .u8 0), (.int .u8 0), (.int .u8 0), (.int .u8 0), (.int .u8 0), (.int .u8 0), (.int .u8 0), (.int .u8 0), (.int .u8 0), (.int .u8 0), (.int .u8 0), (.int .u8 0), (.int .u8 0), (.int .u8 0), (.int .u8 0), (.int .u8 0), (.int .u8 0), (.int .u8 0), (.int .u8 0), (.int .u8 0), (.int .u8 0), (.int .u8 0), (.int .u8 0)] 25) (fun N => (.pointer (some ⟨N, 0, none⟩))) (fun _ => by kernel_rfl) (fun w120_ b119_ h121_ q122_ F123_ => ?_))
      have d124_ : Dis (One b119_) (Ar bo (B bl)) := Dis.fresh (New.one q122_) (Rd.in h112_)
      have d125_ : Dis (One b119_) (Ar (some ⟨0, 0, none⟩) ((hw KL).toList)) := Dis.fresh (New.one q122_) (Rd.in h113_)
      have d126_ : Dis (One b119_) (Ar (some ⟨1, 0, none⟩) ((hw KL).toList)) := Dis.fresh (New.one q122_) (Rd.in h114_)
      have d127_ : Dis (One b119_) (One b1_) := Dis.fresh (New.one q122_) (In.one h115_)
      have d128_ : Dis (One b119_) (One b26_) := Dis.fresh (New.one q122_) (In.one h116_)
      have d129_ : Dis (One b119_) (Own (.slice ao71_ ((accB s bal non).length) cap72_)) := Dis.fresh (New.one q122_) (Row.in h117_)
      have d130_ : Dis (One b119_) (Own (.slice ao100_ ((accB s bal non).length) cap101_)) := Dis.fresh (New.one q122_) (Row.in h118_)
      have N131_ : New w N0 (One b119_) := New.made q122_ (Fr.size T111_)
      have T132_ := Fr.tr T111_ F123_
      have h133_ := Rd.keep' h112_ F123_ Dis.n0
      have h134_ := Rd.keep' h113_ F123_ Dis.n0
      have h135_ := Rd.keep' h114_ F123_ Dis.n0
      have h136_ := Fr.keep F123_ h115_ Dis.n0
      have h137_ := Fr.keep F123_ h116_ Dis.n0
      have h138_ := Row.keep h117_ F123_ Dis.n0
      have h139_ := Row.keep h118_ F123_ Dis.n0
      refine at_do (by kernel_rfl) (op_store 25 (.tmp 10) (.tmp 43) b119_ 0 (.agg (hv (accH s bal non))) _ _ (hv (accH s bal non)) (by kernel_rfl) (by kernel_rfl) (by kernel_rfl) h121_ (by kernel_rfl) (by kernel_rfl) (by kernel_rfl) (by kernel_rfl) (fun w140_ h141_ z142_ F143_ => ?_))
      have T144_ := Fr.then T132_ F143_ N131_
      have h145_ := Rd.keep' h133_ F143_ (Dis.sym d124_)
      have h146_ := Rd.keep' h134_ F143_ (Dis.sym d125_)
      have h147_ := Rd.keep' h135_ F143_ (Dis.sym d126_)
      have h148_ := Fr.keep F143_ h136_ (Dis.sym d127_)
      have h149_ := Fr.keep F143_ h137_ (Dis.sym d128_)
      have h150_ := Row.keep h138_ F143_ (Dis.sym d129_)
      have h151_ := Row.keep h139_ F143_ (Dis.sym d130_)
      refine at_pures 8 (by kernel_rfl) (by kernel_rfl) ?_
      refine at_done (by kernel_rfl) ?_
      refine then_n ?_
      refine c_seq [1, 1, 1, 1, 1, 1, 1, 0] [1, 1, 1, 1, 1, 1, 1, 1] (by kernel_rfl) ?_
      refine c_reg 9 accountTells_c_R9 (by kernel_rfl) ?_
      refine at_loadN 61 (.tmp 5) b26_ 0 3 _ _ _ #[(.string s), (.int .u64 (bal : Int)), (.int .u32 (non : Int))] (by kernel_rfl) (by kernel_rfl) (by kernel_rfl) (by kernel_rfl) (by kernel_rfl) h149_ (by kernel_rfl) (by kernel_rfl) ?_
      refine at_do (by kernel_rfl) (op_call 33 #[(.tmp 46)] #[(.agg #[(.string s), (.int .u64 (bal : Int)), (.int .u32 (non : Int))])] (by kernel_rfl) (by kernel_rfl) (by kernel_rfl) ?_)
      have C156_ := rahash_c s bal non w140_ h146_  (by first | with_reducible assumption | omega | exact accB_byt _ _ _ | exact (accB_byt _ _ _).take _ | exact (Byt.nil.cat (accB_byt _ _ _)).cat (Byt.all (by kernel_rfl)) | exact Nat.le_trans accB_len (by omega) | (simp only [List.length_append, List.length_nil, List.length_cons]; omega)) (by first | with_reducible assumption | omega | exact accB_byt _ _ _ | exact (accB_byt _ _ _).take _ | exact (Byt.nil.cat (accB_byt _ _ _)).cat (Byt.all (by kernel_rfl)) | exact Nat.le_trans accB_len (by omega) | (simp only [List.length_append, List.length_nil, List.length_cons]; omega))
      refine Calls.mono C156_ ?_
      rintro e155_ w153_ ⟨rfl, F154_⟩
      have T157_ := Fr.tr T144_ F154_
      have h158_ := Rd.keep' h145_ F154_ Dis.n0
      have h159_ := Rd.keep' h146_ F154_ Dis.n0
      have h160_ := Rd.keep' h147_ F154_ Dis.n0
      have h161_ := Fr.keep F154_ h148_ Dis.n0
      have h162_ := Fr.keep F154_ h149_ Dis.n0
      have h163_ := Row.keep h150_ F154_ Dis.n0
      have h164_ := Row.keep h151_ F154_ Dis.n0
      have h165_ := Fr.keep F154_ h141_ Dis.n0
      refine ⟨_, rfl, ?_⟩
      refine at_pures 5 (by kernel_rfl) (by kernel_rfl) ?_
      refine at_do (by kernel_rfl) (op_new (.cells #[(.int .u8 0), (.int .u8 0), (.int .u8 0), (.int .u8 0), (.int .u8 0), (.int .u8 0), (.int .u8 0), (.int .u8 0), (.int .u8 0), (.int .u8 0), (.int .u8 0), (.int .u8 0), (.int .u8 0), (.int .u8 0), (.int .u8 0), (.int .u8 0), (.int .u8 0), (.int .u8 0), (.int .u8 0), (.int .u8 0), (.int .u8 0), (.int .u8 0), (.int .u8 0), (.int .u8 0), (.int .u8 0), (.int .u8 0), (.int .u8 0), (.int .u8 0), (.int .u8 0), (.int .u8 0), (.int .u8 0), (.int .u8 0)] 25) (fun N => (.pointer (some ⟨N, 0, none⟩))) (fun _ => by kernel_rfl) (fun w167_ b166_ h168_ q169_ F170_ => ?_))
      have d171_ : Dis (One b166_) (Ar bo (B bl)) := Dis.fresh (New.one q169_) (Rd.in h158_)
      have d172_ : Dis (One b166_) (Ar (some ⟨0, 0, none⟩) ((hw KL).toList)) := Dis.fresh (New.one q169_) (Rd.in h159_)
      have d173_ : Dis (One b166_) (Ar (some ⟨1, 0, none⟩) ((hw KL).toList)) := Dis.fresh (New.one q169_) (Rd.in h160_)
      have d174_ : Dis (One b166_) (One b1_) := Dis.fresh (New.one q169_) (In.one h161_)
      have d175_ : Dis (One b166_) (One b26_) := Dis.fresh (New.one q169_) (In.one h162_)
      have d176_ : Dis (One b166_) (Own (.slice ao71_ ((accB s bal non).length) cap72_)) := Dis.fresh (New.one q169_) (Row.in h163_)
      have d177_ : Dis (One b166_) (Own (.slice ao100_ ((accB s bal non).length) cap101_)) := Dis.fresh (New.one q169_) (Row.in h164_)
      have d178_ : Dis (One b166_) (One b119_) := Dis.fresh (New.one q169_) (In.one h165_)
      have N179_ : New w N0 (One b166_) := New.made q169_ (Fr.size T157_)
      have T180_ := Fr.tr T157_ F170_
      have h181_ := Rd.keep' h158_ F170_ Dis.n0
      have h182_ := Rd.keep' h159_ F170_ Dis.n0
      have h183_ := Rd.keep' h160_ F170_ Dis.n0
      have h184_ := Fr.keep F170_ h161_ Dis.n0
      have h185_ := Fr.keep F170_ h162_ Dis.n0
      have h186_ := Row.keep h163_ F170_ Dis.n0
      have h187_ := Row.keep h164_ F170_ Dis.n0
      have h188_ := Fr.keep F170_ h165_ Dis.n0
      refine at_do (by kernel_rfl) (op_store 25 (.tmp 12) (.tmp 48) b166_ 0 (.agg (hv (accH s bal non))) _ _ (hv (accH s bal non)) (by kernel_rfl) (by kernel_rfl) (by kernel_rfl) h168_ (by kernel_rfl) (by kernel_rfl) (by kernel_rfl) (by kernel_rfl) (fun w189_ h190_ z191_ F192_ => ?_))
      have T193_ := Fr.then T180_ F192_ N179_
      have h194_ := Rd.keep' h181_ F192_ (Dis.sym d171_)
      have h195_ := Rd.keep' h182_ F192_ (Dis.sym d172_)
      have h196_ := Rd.keep' h183_ F192_ (Dis.sym d173_)
      have h197_ := Fr.keep F192_ h184_ (Dis.sym d174_)
      have h198_ := Fr.keep F192_ h185_ (Dis.sym d175_)
      have h199_ := Row.keep h186_ F192_ (Dis.sym d176_)
      have h200_ := Row.keep h187_ F192_ (Dis.sym d177_)
      have h201_ := Fr.keep F192_ h188_ (Dis.sym d178_)
      refine at_pures 8 (by kernel_rfl) (by kernel_rfl) ?_
      refine at_done (by kernel_rfl) ?_
      refine then_n ?_
      refine c_seq [1, 1, 1, 1, 1, 1, 1, 1, 0] [1, 1, 1, 1, 1, 1, 1, 1, 1] (by kernel_rfl) ?_
      refine c_reg 10 accountTells_c_R10 (by kernel_rfl) ?_
      refine at_pures 1 (by kernel_rfl) (by kernel_rfl) ?_
      refine at_do (by kernel_rfl) (op_call 34 #[(.tmp 51)] #[(.slice bo bl.length bcap)] (by kernel_rfl) (by kernel_rfl) (by kernel_rfl) ?_)
      have C206_ := aread_c (.slice bo bl.length bcap) bl w189_ ⟨_, _, rfl, h194_⟩  (by first | with_reducible assumption | omega | exact accB_byt _ _ _ | exact (accB_byt _ _ _).take _ | exact (Byt.nil.cat (accB_byt _ _ _)).cat (Byt.all (by kernel_rfl)) | exact Nat.le_trans accB_len (by omega) | (simp only [List.length_append, List.length_nil, List.length_cons]; omega)) (by first | with_reducible assumption | omega | exact accB_byt _ _ _ | exact (accB_byt _ _ _).take _ | exact (Byt.nil.cat (accB_byt _ _ _)).cat (Byt.all (by kernel_rfl)) | exact Nat.le_trans accB_len (by omega) | (simp only [List.length_append, List.length_nil, List.length_cons]; omega))
      refine Calls.mono C206_ ?_
      rintro e205_ w203_ ⟨rfl, F204_⟩
      have T207_ := Fr.tr T193_ F204_
      have h208_ := Rd.keep' h194_ F204_ Dis.n0
      have h209_ := Rd.keep' h195_ F204_ Dis.n0
      have h210_ := Rd.keep' h196_ F204_ Dis.n0
      have h211_ := Fr.keep F204_ h197_ Dis.n0
      have h212_ := Fr.keep F204_ h198_ Dis.n0
      have h213_ := Row.keep h199_ F204_ Dis.n0
      have h214_ := Row.keep h200_ F204_ Dis.n0
      have h215_ := Fr.keep F204_ h201_ Dis.n0
      have h216_ := Fr.keep F204_ h190_ Dis.n0
      refine ⟨_, rfl, ?_⟩
      refine at_pures 5 (by kernel_rfl) (by kernel_rfl) ?_
      refine at_do (by kernel_rfl) (op_new (.cells #[(.string (⟨#[]⟩ : ByteArray)), (.int .u64 0), (.int .u32 0)] 60) (fun N => (.pointer (some ⟨N, 0, none⟩))) (fun _ => by kernel_rfl) (fun w218_ b217_ h219_ q220_ F221_ => ?_))
      have d222_ : Dis (One b217_) (Ar bo (B bl)) := Dis.fresh (New.one q220_) (Rd.in h208_)
      have d223_ : Dis (One b217_) (Ar (some ⟨0, 0, none⟩) ((hw KL).toList)) := Dis.fresh (New.one q220_) (Rd.in h209_)
      have d224_ : Dis (One b217_) (Ar (some ⟨1, 0, none⟩) ((hw KL).toList)) := Dis.fresh (New.one q220_) (Rd.in h210_)
      have d225_ : Dis (One b217_) (One b1_) := Dis.fresh (New.one q220_) (In.one h211_)
      have d226_ : Dis (One b217_) (One b26_) := Dis.fresh (New.one q220_) (In.one h212_)
      have d227_ : Dis (One b217_) (Own (.slice ao71_ ((accB s bal non).length) cap72_)) := Dis.fresh (New.one q220_) (Row.in h213_)
      have d228_ : Dis (One b217_) (Own (.slice ao100_ ((accB s bal non).length) cap101_)) := Dis.fresh (New.one q220_) (Row.in h214_)
      have d229_ : Dis (One b217_) (One b119_) := Dis.fresh (New.one q220_) (In.one h215_)
      have d230_ : Dis (One b217_) (One b166_) := Dis.fresh (New.one q220_) (In.one h216_)
      have N231_ : New w N0 (One b217_) := New.made q220_ (Fr.size T207_)
      have T232_ := Fr.tr T207_ F221_
      have h233_ := Rd.keep' h208_ F221_ Dis.n0
      have h234_ := Rd.keep' h209_ F221_ Dis.n0
      have h235_ := Rd.keep' h210_ F221_ Dis.n0
      have h236_ := Fr.keep F221_ h211_ Dis.n0
      have h237_ := Fr.keep F221_ h212_ Dis.n0
      have h238_ := Row.keep h213_ F221_ Dis.n0
      have h239_ := Row.keep h214_ F221_ Dis.n0
      have h240_ := Fr.keep F221_ h215_ Dis.n0
      have h241_ := Fr.keep F221_ h216_ Dis.n0
      refine at_do (by kernel_rfl) (op_store 60 (.tmp 14) (.tmp 53) b217_ 0 (.agg #[(.string ((accRd bl).s)), (.int .u64 ((accRd bl).bal : Int)), (.int .u32 ((accRd bl).non : Int))]) _ _ #[(.string ((accRd bl).s)), (.int .u64 ((accRd bl).bal : Int)), (.int .u32 ((accRd bl).non : Int))] (by kernel_rfl) (by kernel_rfl) (by kernel_rfl) h219_ (by kernel_rfl) (by kernel_rfl) (by kernel_rfl) (by kernel_rfl) (fun w242_ h243_ z244_ F245_ => ?_))
      have T246_ := Fr.then T232_ F245_ N231_
      have h247_ := Rd.keep' h233_ F245_ (Dis.sym d222_)
      have h248_ := Rd.keep' h234_ F245_ (Dis.sym d223_)
      have h249_ := Rd.keep' h235_ F245_ (Dis.sym d224_)
      have h250_ := Fr.keep F245_ h236_ (Dis.sym d225_)
      have h251_ := Fr.keep F245_ h237_ (Dis.sym d226_)
      have h252_ := Row.keep h238_ F245_ (Dis.sym d227_)
      have h253_ := Row.keep h239_ F245_ (Dis.sym d228_)
      have h254_ := Fr.keep F245_ h240_ (Dis.sym d229_)
      have h255_ := Fr.keep F245_ h241_ (Dis.sym d230_)
      refine at_pures 8 (by kernel_rfl) (by kernel_rfl) ?_
      refine at_done (by kernel_rfl) ?_
      refine then_n ?_
      refine c_seq [1, 1, 1, 1, 1, 1, 1, 1, 1, 0] [1, 1, 1, 1, 1, 1, 1, 1, 1, 1] (by kernel_rfl) ?_
      refine c_reg 11 accountTells_c_R11 (by kernel_rfl) ?_
      refine at_pures 1 (by kernel_rfl) (by kernel_rfl) ?_
      refine at_do (by kernel_rfl) (op_call 35 #[(.tmp 56)] #[(.slice bo bl.length bcap)] (by kernel_rfl) (by kernel_rfl) (by kernel_rfl) ?_)
      have C260_ := raread_c bo bcap bl w242_ h247_  (by first | with_reducible assumption | omega | exact accB_byt _ _ _ | exact (accB_byt _ _ _).take _ | exact (Byt.nil.cat (accB_byt _ _ _)).cat (Byt.all (by kernel_rfl)) | exact Nat.le_trans accB_len (by omega) | (simp only [List.length_append, List.length_nil, List.length_cons]; omega)) (by first | with_reducible assumption | omega | exact accB_byt _ _ _ | exact (accB_byt _ _ _).take _ | exact (Byt.nil.cat (accB_byt _ _ _)).cat (Byt.all (by kernel_rfl)) | exact Nat.le_trans accB_len (by omega) | (simp only [List.length_append, List.length_nil, List.length_cons]; omega)) (by first | with_reducible assumption | omega | exact accB_byt _ _ _ | exact (accB_byt _ _ _).take _ | exact (Byt.nil.cat (accB_byt _ _ _)).cat (Byt.all (by kernel_rfl)) | exact Nat.le_trans accB_len (by omega) | (simp only [List.length_append, List.length_nil, List.length_cons]; omega))
      refine Calls.mono C260_ ?_
      rintro e259_ w257_ ⟨rfl, F258_⟩
      have T261_ := Fr.tr T246_ F258_
      have h262_ := Rd.keep' h247_ F258_ Dis.n0
      have h263_ := Rd.keep' h248_ F258_ Dis.n0
      have h264_ := Rd.keep' h249_ F258_ Dis.n0
      have h265_ := Fr.keep F258_ h250_ Dis.n0
      have h266_ := Fr.keep F258_ h251_ Dis.n0
      have h267_ := Row.keep h252_ F258_ Dis.n0
      have h268_ := Row.keep h253_ F258_ Dis.n0
      have h269_ := Fr.keep F258_ h254_ Dis.n0
      have h270_ := Fr.keep F258_ h255_ Dis.n0
      have h271_ := Fr.keep F258_ h243_ Dis.n0
      refine ⟨_, rfl, ?_⟩
      refine at_pures 5 (by kernel_rfl) (by kernel_rfl) ?_
      refine at_do (by kernel_rfl) (op_new (.cells #[(.string (⟨#[]⟩ : ByteArray)), (.int .u64 0), (.int .u32 0)] 61) (fun N => (.pointer (some ⟨N, 0, none⟩))) (fun _ => by kernel_rfl) (fun w273_ b272_ h274_ q275_ F276_ => ?_))
      have d277_ : Dis (One b272_) (Ar bo (B bl)) := Dis.fresh (New.one q275_) (Rd.in h262_)
      have d278_ : Dis (One b272_) (Ar (some ⟨0, 0, none⟩) ((hw KL).toList)) := Dis.fresh (New.one q275_) (Rd.in h263_)
      have d279_ : Dis (One b272_) (Ar (some ⟨1, 0, none⟩) ((hw KL).toList)) := Dis.fresh (New.one q275_) (Rd.in h264_)
      have d280_ : Dis (One b272_) (One b1_) := Dis.fresh (New.one q275_) (In.one h265_)
      have d281_ : Dis (One b272_) (One b26_) := Dis.fresh (New.one q275_) (In.one h266_)
      have d282_ : Dis (One b272_) (Own (.slice ao71_ ((accB s bal non).length) cap72_)) := Dis.fresh (New.one q275_) (Row.in h267_)
      have d283_ : Dis (One b272_) (Own (.slice ao100_ ((accB s bal non).length) cap101_)) := Dis.fresh (New.one q275_) (Row.in h268_)
      have d284_ : Dis (One b272_) (One b119_) := Dis.fresh (New.one q275_) (In.one h269_)
      have d285_ : Dis (One b272_) (One b166_) := Dis.fresh (New.one q275_) (In.one h270_)
      have d286_ : Dis (One b272_) (One b217_) := Dis.fresh (New.one q275_) (In.one h271_)
      have N287_ : New w N0 (One b272_) := New.made q275_ (Fr.size T261_)
      have T288_ := Fr.tr T261_ F276_
      have h289_ := Rd.keep' h262_ F276_ Dis.n0
      have h290_ := Rd.keep' h263_ F276_ Dis.n0
      have h291_ := Rd.keep' h264_ F276_ Dis.n0
      have h292_ := Fr.keep F276_ h265_ Dis.n0
      have h293_ := Fr.keep F276_ h266_ Dis.n0
      have h294_ := Row.keep h267_ F276_ Dis.n0
      have h295_ := Row.keep h268_ F276_ Dis.n0
      have h296_ := Fr.keep F276_ h269_ Dis.n0
      have h297_ := Fr.keep F276_ h270_ Dis.n0
      have h298_ := Fr.keep F276_ h271_ Dis.n0
      refine at_do (by kernel_rfl) (op_store 61 (.tmp 16) (.tmp 58) b272_ 0 (.agg #[(.string ((accRd bl).s)), (.int .u64 ((accRd bl).bal : Int)), (.int .u32 ((accRd bl).non : Int))]) _ _ #[(.string ((accRd bl).s)), (.int .u64 ((accRd bl).bal : Int)), (.int .u32 ((accRd bl).non : Int))] (by kernel_rfl) (by kernel_rfl) (by kernel_rfl) h274_ (by kernel_rfl) (by kernel_rfl) (by kernel_rfl) (by kernel_rfl) (fun w299_ h300_ z301_ F302_ => ?_))
      have T303_ := Fr.then T288_ F302_ N287_
      have h304_ := Rd.keep' h289_ F302_ (Dis.sym d277_)
      have h305_ := Rd.keep' h290_ F302_ (Dis.sym d278_)
      have h306_ := Rd.keep' h291_ F302_ (Dis.sym d279_)
      have h307_ := Fr.keep F302_ h292_ (Dis.sym d280_)
      have h308_ := Fr.keep F302_ h293_ (Dis.sym d281_)
      have h309_ := Row.keep h294_ F302_ (Dis.sym d282_)
      have h310_ := Row.keep h295_ F302_ (Dis.sym d283_)
      have h311_ := Fr.keep F302_ h296_ (Dis.sym d284_)
      have h312_ := Fr.keep F302_ h297_ (Dis.sym d285_)
      have h313_ := Fr.keep F302_ h298_ (Dis.sym d286_)
      refine at_pures 8 (by kernel_rfl) (by kernel_rfl) ?_
      refine at_done (by kernel_rfl) ?_
      refine then_n ?_
      refine c_seq [1, 1, 1, 1, 1, 1, 1, 1, 1, 1, 0] [1, 1, 1, 1, 1, 1, 1, 1, 1, 1, 1] (by kernel_rfl) ?_
      refine c_plan 12 accountTells_c_R12 (fun w' => w'.heap[b1_]? = some (.cells #[(.string s), (.int .u64 (bal : Int)), (.int .u32 (non : Int))] 60 (0, 0)) ∧ w'.heap[b26_]? = some (.cells #[(.string s), (.int .u64 (bal : Int)), (.int .u32 (non : Int))] 61 (0, 0)) ∧ w'.heap[b119_]? = some (.cells (hv (accH s bal non)) 25 (0, 0)) ∧ w'.heap[b166_]? = some (.cells (hv (accH s bal non)) 25 (0, 0)) ∧ w'.heap[b217_]? = some (.cells #[(.string ((accRd bl).s)), (.int .u64 ((accRd bl).bal : Int)), (.int .u32 ((accRd bl).non : Int))] 60 (0, 0)) ∧ w'.heap[b272_]? = some (.cells #[(.string ((accRd bl).s)), (.int .u64 ((accRd bl).bal : Int)), (.int .u32 ((accRd bl).non : Int))] 61 (0, 0)) ∧ True) accountTells_c_sk12 accountTells_c_pl12 (by kernel_rfl) (by kernel_rfl) (by kernel_rfl) (by kernel_rfl) (by kernel_rfl) (fun w314_ F315_ => ?_)
      have T316_ := Fr.tr T303_ F315_
      have h318_ := Fr.keep F315_ h307_ Dis.n0
      have h319_ := Fr.keep F315_ h308_ Dis.n0
      have h320_ := Fr.keep F315_ h311_ Dis.n0
      have h321_ := Fr.keep F315_ h312_ Dis.n0
      have h322_ := Fr.keep F315_ h313_ Dis.n0
      have h323_ := Fr.keep F315_ h300_ Dis.n0
      have S317_ : w314_.heap[b1_]? = some (.cells #[(.string s), (.int .u64 (bal : Int)), (.int .u32 (non : Int))] 60 (0, 0)) ∧ w314_.heap[b26_]? = some (.cells #[(.string s), (.int .u64 (bal : Int)), (.int .u32 (non : Int))] 61 (0, 0)) ∧ w314_.heap[b119_]? = some (.cells (hv (accH s bal non)) 25 (0, 0)) ∧ w314_.heap[b166_]? = some (.cells (hv (accH s bal non)) 25 (0, 0)) ∧ w314_.heap[b217_]? = some (.cells #[(.string ((accRd bl).s)), (.int .u64 ((accRd bl).bal : Int)), (.int .u32 ((accRd bl).non : Int))] 60 (0, 0)) ∧ w314_.heap[b272_]? = some (.cells #[(.string ((accRd bl).s)), (.int .u64 ((accRd bl).bal : Int)), (.int .u32 ((accRd bl).non : Int))] 61 (0, 0)) ∧ True := ⟨h318_, h319_, h320_, h321_, h322_, h323_, trivial⟩
      refine pl_read 0 (.agg #[(.string s), (.int .u64 (bal : Int)), (.int .u32 (non : Int))]) (by kernel_rfl) (by kernel_rfl) (fun w' hs => run_loadN 60 (.tmp 2) b1_ 0 3 _ _ _ #[(.string s), (.int .u64 (bal : Int)), (.int .u32 (non : Int))] (by kernel_rfl) (by kernel_rfl) (by kernel_rfl) (by kernel_rfl) hs.1 (by kernel_rfl) (by kernel_rfl)) S317_ ?_
      refine pl_read 2 (.agg #[(.string s), (.int .u64 (bal : Int)), (.int .u32 (non : Int))]) (by kernel_rfl) (by kernel_rfl) (fun w' hs => run_loadN 61 (.tmp 5) b26_ 0 3 _ _ _ #[(.string s), (.int .u64 (bal : Int)), (.int .u32 (non : Int))] (by kernel_rfl) (by kernel_rfl) (by kernel_rfl) (by kernel_rfl) hs.2.1 (by kernel_rfl) (by kernel_rfl)) S317_ ?_
      have h324_ := Rd.keep' h304_ F315_ Dis.n0
      have h325_ := Rd.keep' h305_ F315_ Dis.n0
      have h326_ := Rd.keep' h306_ F315_ Dis.n0
      have h327_ := Row.keep h309_ F315_ Dis.n0
      have h328_ := Row.keep h310_ F315_ Dis.n0
      refine pl_do 1 (by kernel_rfl) (by kernel_rfl) (op_call 36 #[(.tmp 60)] #[(.agg #[(.string s), (.int .u64 (bal : Int)), (.int .u32 (non : Int))])] (by kernel_rfl) (by kernel_rfl) (by kernel_rfl) ?_)
      have C333_ := aright_c s bal non w314_   
      refine Calls.mono C333_ ?_
      rintro e332_ w330_ ⟨rfl, F331_⟩
      have T334_ := Fr.tr T316_ F331_
      have h335_ := Rd.keep' h324_ F331_ Dis.n0
      have h336_ := Rd.keep' h325_ F331_ Dis.n0
      have h337_ := Rd.keep' h326_ F331_ Dis.n0
      have h338_ := Fr.keep F331_ h318_ Dis.n0
      have h339_ := Fr.keep F331_ h319_ Dis.n0
      have h340_ := Row.keep h327_ F331_ Dis.n0
      have h341_ := Row.keep h328_ F331_ Dis.n0
      have h342_ := Fr.keep F331_ h320_ Dis.n0
      have h343_ := Fr.keep F331_ h321_ Dis.n0
      have h344_ := Fr.keep F331_ h322_ Dis.n0
      have h345_ := Fr.keep F331_ h323_ Dis.n0
      refine ⟨_, rfl, ?_⟩
      have S346_ : w330_.heap[b1_]? = some (.cells #[(.string s), (.int .u64 (bal : Int)), (.int .u32 (non : Int))] 60 (0, 0)) ∧ w330_.heap[b26_]? = some (.cells #[(.string s), (.int .u64 (bal : Int)), (.int .u32 (non : Int))] 61 (0, 0)) ∧ w330_.heap[b119_]? = some (.cells (hv (accH s bal non)) 25 (0, 0)) ∧ w330_.heap[b166_]? = some (.cells (hv (accH s bal non)) 25 (0, 0)) ∧ w330_.heap[b217_]? = some (.cells #[(.string ((accRd bl).s)), (.int .u64 ((accRd bl).bal : Int)), (.int .u32 ((accRd bl).non : Int))] 60 (0, 0)) ∧ w330_.heap[b272_]? = some (.cells #[(.string ((accRd bl).s)), (.int .u64 ((accRd bl).bal : Int)), (.int .u32 ((accRd bl).non : Int))] 61 (0, 0)) ∧ True := ⟨h338_, h339_, h342_, h343_, h344_, h345_, trivial⟩
      refine ⟨fun _ => S346_, ?_⟩
      refine pl_do 3 (by kernel_rfl) (by kernel_rfl) (op_call 37 #[(.tmp 62)] #[(.agg #[(.string s), (.int .u64 (bal : Int)), (.int .u32 (non : Int))])] (by kernel_rfl) (by kernel_rfl) (by kernel_rfl) ?_)
      have C351_ := raright_c s bal non w330_   
      refine Calls.mono C351_ ?_
      rintro e350_ w348_ ⟨rfl, F349_⟩
      have T352_ := Fr.tr T334_ F349_
      have h353_ := Rd.keep' h335_ F349_ Dis.n0
      have h354_ := Rd.keep' h336_ F349_ Dis.n0
      have h355_ := Rd.keep' h337_ F349_ Dis.n0
      have h356_ := Fr.keep F349_ h338_ Dis.n0
      have h357_ := Fr.keep F349_ h339_ Dis.n0
      have h358_ := Row.keep h340_ F349_ Dis.n0
      have h359_ := Row.keep h341_ F349_ Dis.n0
      have h360_ := Fr.keep F349_ h342_ Dis.n0
      have h361_ := Fr.keep F349_ h343_ Dis.n0
      have h362_ := Fr.keep F349_ h344_ Dis.n0
      have h363_ := Fr.keep F349_ h345_ Dis.n0
      refine ⟨_, rfl, ?_⟩
      refine ⟨off (by kernel_rfl), ?_⟩
      have S364_ : w348_.heap[b1_]? = some (.cells #[(.string s), (.int .u64 (bal : Int)), (.int .u32 (non : Int))] 60 (0, 0)) ∧ w348_.heap[b26_]? = some (.cells #[(.string s), (.int .u64 (bal : Int)), (.int .u32 (non : Int))] 61 (0, 0)) ∧ w348_.heap[b119_]? = some (.cells (hv (accH s bal non)) 25 (0, 0)) ∧ w348_.heap[b166_]? = some (.cells (hv (accH s bal non)) 25 (0, 0)) ∧ w348_.heap[b217_]? = some (.cells #[(.string ((accRd bl).s)), (.int .u64 ((accRd bl).bal : Int)), (.int .u32 ((accRd bl).non : Int))] 60 (0, 0)) ∧ w348_.heap[b272_]? = some (.cells #[(.string ((accRd bl).s)), (.int .u64 ((accRd bl).bal : Int)), (.int .u32 ((accRd bl).non : Int))] 61 (0, 0)) ∧ True := ⟨h356_, h357_, h360_, h361_, h362_, h363_, trivial⟩
      refine pl_as 4 (.bool ((rightS s) == (rightS s))) (.bool true) (by kernel_rfl) (by kernel_rfl) ⟨by kernel_rfl, by kernel_rfl⟩ (congrArg Value.bool (beq_self_eq_true _)) (off (by kernel_rfl)) ?_
      refine pl_pures 8 (by kernel_rfl) (by kernel_rfl) (off (by kernel_rfl)) ?_
      refine pl_do 8 (by kernel_rfl) (by kernel_rfl) (op_call 23 #[(.tmp 66), (.tmp 67)] #[(.slice ao71_ ((accB s bal non).length) cap72_), (.slice ao100_ ((accB s bal non).length) cap101_)] (by kernel_rfl) (by kernel_rfl) (by kernel_rfl) ?_)
      have C369_ := same_c (.slice ao71_ ((accB s bal non).length) cap72_) (accB s bal non) (.slice ao100_ ((accB s bal non).length) cap101_) (accB s bal non) w348_ (Row.sl h358_) (Row.sl h359_)  (by first | with_reducible assumption | omega | exact accB_byt _ _ _ | exact (accB_byt _ _ _).take _ | exact (Byt.nil.cat (accB_byt _ _ _)).cat (Byt.all (by kernel_rfl)) | exact Nat.le_trans accB_len (by omega) | (simp only [List.length_append, List.length_nil, List.length_cons]; omega)) (by first | with_reducible assumption | omega | exact accB_byt _ _ _ | exact (accB_byt _ _ _).take _ | exact (Byt.nil.cat (accB_byt _ _ _)).cat (Byt.all (by kernel_rfl)) | exact Nat.le_trans accB_len (by omega) | (simp only [List.length_append, List.length_nil, List.length_cons]; omega))
      refine Calls.mono C369_ ?_
      rintro e368_ w366_ ⟨rfl, F367_⟩
      have T370_ := Fr.tr T352_ F367_
      have h371_ := Rd.keep' h353_ F367_ Dis.n0
      have h372_ := Rd.keep' h354_ F367_ Dis.n0
      have h373_ := Rd.keep' h355_ F367_ Dis.n0
      have h374_ := Fr.keep F367_ h356_ Dis.n0
      have h375_ := Fr.keep F367_ h357_ Dis.n0
      have h376_ := Row.keep h358_ F367_ Dis.n0
      have h377_ := Row.keep h359_ F367_ Dis.n0
      have h378_ := Fr.keep F367_ h360_ Dis.n0
      have h379_ := Fr.keep F367_ h361_ Dis.n0
      have h380_ := Fr.keep F367_ h362_ Dis.n0
      have h381_ := Fr.keep F367_ h363_ Dis.n0
      refine ⟨(.bool true), (by rw [decide_eq_true rfl]), ?_⟩
      refine ⟨off (by kernel_rfl), ?_⟩
      have S382_ : w366_.heap[b1_]? = some (.cells #[(.string s), (.int .u64 (bal : Int)), (.int .u32 (non : Int))] 60 (0, 0)) ∧ w366_.heap[b26_]? = some (.cells #[(.string s), (.int .u64 (bal : Int)), (.int .u32 (non : Int))] 61 (0, 0)) ∧ w366_.heap[b119_]? = some (.cells (hv (accH s bal non)) 25 (0, 0)) ∧ w366_.heap[b166_]? = some (.cells (hv (accH s bal non)) 25 (0, 0)) ∧ w366_.heap[b217_]? = some (.cells #[(.string ((accRd bl).s)), (.int .u64 ((accRd bl).bal : Int)), (.int .u32 ((accRd bl).non : Int))] 60 (0, 0)) ∧ w366_.heap[b272_]? = some (.cells #[(.string ((accRd bl).s)), (.int .u64 ((accRd bl).bal : Int)), (.int .u32 ((accRd bl).non : Int))] 61 (0, 0)) ∧ True := ⟨h374_, h375_, h378_, h379_, h380_, h381_, trivial⟩
      refine pl_pures 13 (by kernel_rfl) (by kernel_rfl) (off (by kernel_rfl)) ?_
      refine pl_as 13 (.bool (((accE s : Nat) : Int) == ((accE s : Nat) : Int))) (.bool true) (by kernel_rfl) (by kernel_rfl) ⟨by kernel_rfl, by kernel_rfl⟩ (congrArg Value.bool (beq_self_eq_true _)) (off (by kernel_rfl)) ?_
      refine pl_pures 16 (by kernel_rfl) (by kernel_rfl) (off (by kernel_rfl)) ?_
      refine pl_read 16 (.agg (hv (accH s bal non))) (by kernel_rfl) (by kernel_rfl) (fun w' hs => run_loadN 25 (.tmp 10) b119_ 0 32 _ _ _ (hv (accH s bal non)) (by kernel_rfl) (by kernel_rfl) (by kernel_rfl) (by kernel_rfl) hs.2.2.1 (by kernel_rfl) (by kernel_rfl)) S382_ ?_
      refine pl_read 17 (.agg (hv (accH s bal non))) (by kernel_rfl) (by kernel_rfl) (fun w' hs => run_loadN 25 (.tmp 12) b166_ 0 32 _ _ _ (hv (accH s bal non)) (by kernel_rfl) (by kernel_rfl) (by kernel_rfl) (by kernel_rfl) hs.2.2.2.1 (by kernel_rfl) (by kernel_rfl)) S382_ ?_
      refine pl_quiet 18 (.bool true) (by kernel_rfl) (by kernel_rfl) (fun w' => run_eq_hash_self 25 (.tmp 76) (.tmp 77) (accH s bal non) (by kernel_rfl) (by kernel_rfl) (by kernel_rfl) (by kernel_rfl) (by kernel_rfl) (by kernel_rfl) (accH_length _ _ _) (accH_byt _ _ _)) (off (by kernel_rfl)) ?_
      refine pl_pures 23 (by kernel_rfl) (by kernel_rfl) (off (by kernel_rfl)) ?_
      refine pl_as 23 (.bool (((accE s : Nat) : Int) == ((accE s : Nat) : Int))) (.bool true) (by kernel_rfl) (by kernel_rfl) ⟨by kernel_rfl, by kernel_rfl⟩ (congrArg Value.bool (beq_self_eq_true _)) (off (by kernel_rfl)) ?_
      refine pl_pures 26 (by kernel_rfl) (by kernel_rfl) (off (by kernel_rfl)) ?_
      refine pl_read 26 (.agg #[(.string ((accRd bl).s)), (.int .u64 ((accRd bl).bal : Int)), (.int .u32 ((accRd bl).non : Int))]) (by kernel_rfl) (by kernel_rfl) (fun w' hs => run_loadN 60 (.tmp 14) b217_ 0 3 _ _ _ #[(.string ((accRd bl).s)), (.int .u64 ((accRd bl).bal : Int)), (.int .u32 ((accRd bl).non : Int))] (by kernel_rfl) (by kernel_rfl) (by kernel_rfl) (by kernel_rfl) hs.2.2.2.2.1 (by kernel_rfl) (by kernel_rfl)) S382_ ?_
      refine pl_read 27 (.agg #[(.string ((accRd bl).s)), (.int .u64 ((accRd bl).bal : Int)), (.int .u32 ((accRd bl).non : Int))]) (by kernel_rfl) (by kernel_rfl) (fun w' hs => run_loadN 61 (.tmp 16) b272_ 0 3 _ _ _ #[(.string ((accRd bl).s)), (.int .u64 ((accRd bl).bal : Int)), (.int .u32 ((accRd bl).non : Int))] (by kernel_rfl) (by kernel_rfl) (by kernel_rfl) (by kernel_rfl) hs.2.2.2.2.2.1 (by kernel_rfl) (by kernel_rfl)) S382_ ?_
      refine pl_quiet 28 (.bool true) (by kernel_rfl) (by kernel_rfl) (fun w' => run_eqd_self true 9995 5 61 (.tmp 86) (.tmp 87) #[(.string ((accRd bl).s)), (.int .u64 ((accRd bl).bal : Int)), (.int .u32 ((accRd bl).non : Int))] rfl (by kernel_rfl) (by kernel_rfl) (by kernel_rfl) (by kernel_rfl) (by kernel_rfl) (by kernel_rfl) (by kernel_rfl) (by kernel_rfl) (Acct.wf (accRd_ok hB))) (off (by kernel_rfl)) ?_
      refine pl_pures 33 (by kernel_rfl) (by kernel_rfl) (fun _ => S382_) ?_
      refine pl_as 33 (.bool ((accF bl : Int) == (accF bl : Int))) (.bool true) (by kernel_rfl) (by kernel_rfl) ⟨by kernel_rfl, by kernel_rfl⟩ (congrArg Value.bool (beq_self_eq_true _)) (fun _ => S382_) ?_
      refine pl_pures 36 (by kernel_rfl) (by kernel_rfl) (fun _ => S382_) ?_
      refine pl_done (by kernel_rfl) ?_
      refine then_n ?_
      refine c_ret (by kernel_rfl) ?_
      refine fin_ret (.bool true) (by kernel_rfl) (by kernel_rfl) ?_
      exact ⟨rfl, T370_⟩

noncomputable def accountBack_c_R0 : Array Oper := rAt Tryd.prog 10 [0]
noncomputable def accountBack_c_R1 : Array Oper := rAt Tryd.prog 10 [1, 0, 0]
noncomputable def accountBack_c_R3 : Array Oper := rAt Tryd.prog 10 [1, 1, 0, 0]
noncomputable def accountBack_c_R4 : Array Oper := rAt Tryd.prog 10 [1, 1, 0, 1, 0, 0]
noncomputable def accountBack_c_R5 : Array Oper := rAt Tryd.prog 10 [1, 1, 1, 0, 0]
noncomputable def accountBack_c_R6 : Array Oper := rAt Tryd.prog 10 [1, 1, 1, 0, 1, 0]
noncomputable def accountBack_c_R7 : Array Oper := rAt Tryd.prog 10 [1, 1, 1, 0, 1, 1, 0, 0]
noncomputable def accountBack_c_R8 : Array Oper := rAt Tryd.prog 10 [1, 1, 1, 0, 1, 1, 0, 1, 0]
noncomputable def accountBack_c_R10 : Array Oper := rAt Tryd.prog 10 [1, 1, 1, 1, 0]
noncomputable def accountBack_c_R11 : Array Oper := rAt Tryd.prog 10 [1, 1, 1, 1, 1, 0]
noncomputable def accountBack_c_R12 : Array Oper := rAt Tryd.prog 10 [1, 1, 1, 1, 1, 1, 0, 0]
noncomputable def accountBack_c_R13 : Array Oper := rAt Tryd.prog 10 [1, 1, 1, 1, 1, 1, 0, 1, 0, 0]
noncomputable def accountBack_c_R14 : Array Oper := rAt Tryd.prog 10 [1, 1, 1, 1, 1, 1, 1, 0]
noncomputable def accountBack_c_R15 : Array Oper := rAt Tryd.prog 10 [1, 1, 1, 1, 1, 1, 1, 1, 0]
noncomputable def accountBack_c_R16 : Array Oper := rAt Tryd.prog 10 [1, 1, 1, 1, 1, 1, 1, 1, 1, 0]
noncomputable def accountBack_c_R17 : Array Oper := rAt Tryd.prog 10 [1, 1, 1, 1, 1, 1, 1, 1, 1, 1, 0]
def accountBack_c_sk17 : Nat → Bool := fun i => decide (i ∈ [2, 4, 9])
def accountBack_c_pl17 : List (Nat × PK) := [(0, .q false), (1, .q false), (3, .q true), (4, .q true), (5, .q false), (2, .e), (6, .q false), (7, .q false), (8, .q true), (9, .q true), (10, .q false), (11, .q false), (12, .q false), (13, .q false), (14, .q false), (15, .q false), (16, .q false), (17, .q false), (18, .q false), (19, .q false), (20, .q false), (21, .q false), (22, .q false), (23, .q false), (24, .q false)]
set_option maxRecDepth 100000 in
theorem accountBack_c (s : ByteArray) (bal : Nat) (non : Nat) (t : ByteArray) (bam : Nat) (nom : Nat) (bo : Option Addr) (bcap : Nat) (bl : List Nat) (w : World) (h_b : Rd w bo (B bl)) (h_ks0 : Rd w (some ⟨0, 0, none⟩) ((hw KL).toList)) (h_ks1 : Rd w (some ⟨1, 0, none⟩) ((hw KL).toList)) (hs : s.size ≤ maxLen) (hbal : bal < 18446744073709551616) (hnon : non < 4294967296) (ht : t.size ≤ maxLen) (hbam : bam < 18446744073709551616) (hnom : nom < 4294967296) (hB : Byt bl) (hbc : bl.length ≤ bcap) :
    Calls Tryd.prog 10 #[(.agg #[(.string s), (.int .u64 (bal : Int)), (.int .u32 (non : Int))]), (.agg #[(.string t), (.int .u64 (bam : Int)), (.int .u32 (nom : Int))]), (.slice bo bl.length bcap)] w fun e w' => e = .returned (.bool true) ∧ Fr w w' N0 := by
  have hRo := accRd_ok (l := bl) hB; have hRb := hRo.bal; have hRn := hRo.non; have hXl := accB_len (s := s) (bal := bal) (non := non)
  refine c_enter (mk 133 [(0, (.agg #[(.string s), (.int .u64 (bal : Int)), (.int .u32 (non : Int))])), (1, (.agg #[(.string t), (.int .u64 (bam : Int)), (.int .u32 (nom : Int))])), (2, (.slice bo bl.length bcap))] (fun _ => undef)) Tryd.func10 (by kernel_rfl) (by kernel_rfl) ?_
  refine c_seq [0] [1] (by kernel_rfl) ?_
  refine c_reg 0 accountBack_c_R0 (by kernel_rfl) ?_
  refine at_do (by kernel_rfl) (op_new (.cells #[(.string s), (.int .u64 (bal : Int)), (.int .u32 (non : Int))] 60) (fun N => (.pointer (some ⟨N, 0, none⟩))) (fun _ => by kernel_rfl) (fun w2_ b1_ h3_ q4_ F5_ => ?_))
  have d6_ : Dis (One b1_) (Ar bo (B bl)) := Dis.fresh (New.one q4_) (Rd.in h_b)
  have d7_ : Dis (One b1_) (Ar (some ⟨0, 0, none⟩) ((hw KL).toList)) := Dis.fresh (New.one q4_) (Rd.in h_ks0)
  have d8_ : Dis (One b1_) (Ar (some ⟨1, 0, none⟩) ((hw KL).toList)) := Dis.fresh (New.one q4_) (Rd.in h_ks1)
  have N9_ : New w N0 (One b1_) := New.made q4_ (Fr.size (Fr.refl w N0))
  have T10_ := Fr.tr (Fr.refl w N0) F5_
  refine at_do (by kernel_rfl) (op_new (.cells #[(.string t), (.int .u64 (bam : Int)), (.int .u32 (nom : Int))] 60) (fun N => (.pointer (some ⟨N, 0, none⟩))) (fun _ => by kernel_rfl) (fun w12_ b11_ h13_ q14_ F15_ => ?_))
  have h16_ := Rd.keep' h_b F5_ Dis.n0
  have d17_ : Dis (One b11_) (Ar bo (B bl)) := Dis.fresh (New.one q14_) (Rd.in h16_)
  have h18_ := Rd.keep' h_ks0 F5_ Dis.n0
  have d19_ : Dis (One b11_) (Ar (some ⟨0, 0, none⟩) ((hw KL).toList)) := Dis.fresh (New.one q14_) (Rd.in h18_)
  have h20_ := Rd.keep' h_ks1 F5_ Dis.n0
  have d21_ : Dis (One b11_) (Ar (some ⟨1, 0, none⟩) ((hw KL).toList)) := Dis.fresh (New.one q14_) (Rd.in h20_)
  have d22_ : Dis (One b11_) (One b1_) := Dis.fresh (New.one q14_) (In.one h3_)
  have N23_ : New w N0 (One b11_) := New.made q14_ (Fr.size T10_)
  have T24_ := Fr.tr T10_ F15_
  refine at_pures 3 (by kernel_rfl) (by kernel_rfl) ?_
  refine at_done (by kernel_rfl) ?_
  refine then_n ?_
  refine c_seq [1, 0] [1, 1] (by kernel_rfl) ?_
  refine c_seq [1, 0, 0] [1, 0, 1] (by kernel_rfl) ?_
  refine c_reg 1 accountBack_c_R1 (by kernel_rfl) ?_
  have h25_ := Rd.keep' h16_ F15_ Dis.n0
  have h26_ := Rd.keep' h18_ F15_ Dis.n0
  have h27_ := Rd.keep' h20_ F15_ Dis.n0
  have h28_ := Fr.keep F15_ h3_ Dis.n0
  refine at_do (by kernel_rfl) (op_call 29 #[] #[] (by kernel_rfl) (by kernel_rfl) (by kernel_rfl) ?_)
  have C33_ := awake14_c  w12_ h26_ h27_  
  refine Calls.mono C33_ ?_
  rintro e32_ w30_ ⟨rfl, F31_⟩
  have T34_ := Fr.tr T24_ F31_
  have h35_ := Rd.keep' h25_ F31_ Dis.n0
  have h36_ := Rd.keep' h26_ F31_ Dis.n0
  have h37_ := Rd.keep' h27_ F31_ Dis.n0
  have h38_ := Fr.keep F31_ h28_ Dis.n0
  have h39_ := Fr.keep F31_ h13_ Dis.n0
  refine ⟨_, rfl, ?_⟩
  refine at_pures 2 (by kernel_rfl) (by kernel_rfl) ?_
  refine at_done (by kernel_rfl) ?_
  refine then_n ?_
  refine c_else (.tmp 22) [1, 0, 1, 0] [1, 0, 1, 1] (by kernel_rfl) (by kernel_rfl) ?_
  refine c_skip (by kernel_rfl) ?_
  refine then_n ?_
  refine c_seq [1, 1, 0] [1, 1, 1] (by kernel_rfl) ?_
  refine c_seq [1, 1, 0, 0] [1, 1, 0, 1] (by kernel_rfl) ?_
  refine c_reg 3 accountBack_c_R3 (by kernel_rfl) ?_
  refine at_pures 1 (by kernel_rfl) (by kernel_rfl) ?_
  refine at_load1 9 (.tmp 23) b1_ 0 _ _ _ (.string s) (by kernel_rfl) (by kernel_rfl) (by kernel_rfl) (by kernel_rfl) h38_ (by kernel_rfl) ?_
  refine at_pures 4 (by kernel_rfl) (by kernel_rfl) ?_
  refine at_split (decide ((s.size : Int) > (300 : Int))) (by kernel_rfl) (by kernel_rfl) (fun c40_ => ?_) (fun c40_ => ?_)
  · -- yes
    replace c40_ : (s.size : Int) > (300 : Int) := of_decide_eq_true c40_
    refine at_pures 15 (by kernel_rfl) (by kernel_rfl) ?_
    refine at_done (by kernel_rfl) ?_
    refine then_n ?_
    refine c_then (.tmp 37) [1, 1, 0, 1, 0] [1, 1, 0, 1, 1] (by kernel_rfl) (by kernel_rfl) ?_
    refine c_seq [1, 1, 0, 1, 0, 0] [1, 1, 0, 1, 0, 1] (by kernel_rfl) ?_
    refine c_reg 4 accountBack_c_R4 (by kernel_rfl) ?_
    refine at_pures 1 (by kernel_rfl) (by kernel_rfl) ?_
    refine at_done (by kernel_rfl) ?_
    refine then_n ?_
    refine c_ret (by kernel_rfl) ?_
    refine then_r ?_
    refine fin_ret (.bool true) (by kernel_rfl) (by kernel_rfl) ?_
    exact ⟨rfl, T34_⟩
  · -- no
    replace c40_ : ¬ ((s.size : Int) > (300 : Int)) := of_decide_eq_false c40_
    refine at_pures 6 (by kernel_rfl) (by kernel_rfl) ?_
    refine at_load1 9 (.tmp 28) b11_ 0 _ _ _ (.string t) (by kernel_rfl) (by kernel_rfl) (by kernel_rfl) (by kernel_rfl) h39_ (by kernel_rfl) ?_
    refine at_pures 10 (by kernel_rfl) (by kernel_rfl) ?_
    refine at_split (decide ((t.size : Int) > (300 : Int))) (by kernel_rfl) (by kernel_rfl) (fun c41_ => ?_) (fun c41_ => ?_)
    · -- yes
      replace c41_ : (t.size : Int) > (300 : Int) := of_decide_eq_true c41_
      refine at_pures 15 (by kernel_rfl) (by kernel_rfl) ?_
      refine at_done (by kernel_rfl) ?_
      refine then_n ?_
      refine c_then (.tmp 37) [1, 1, 0, 1, 0] [1, 1, 0, 1, 1] (by kernel_rfl) (by kernel_rfl) ?_
      refine c_seq [1, 1, 0, 1, 0, 0] [1, 1, 0, 1, 0, 1] (by kernel_rfl) ?_
      refine c_reg 4 accountBack_c_R4 (by kernel_rfl) ?_
      refine at_pures 1 (by kernel_rfl) (by kernel_rfl) ?_
      refine at_done (by kernel_rfl) ?_
      refine then_n ?_
      refine c_ret (by kernel_rfl) ?_
      refine then_r ?_
      refine fin_ret (.bool true) (by kernel_rfl) (by kernel_rfl) ?_
      exact ⟨rfl, T34_⟩
    · -- no
      replace c41_ : ¬ ((t.size : Int) > (300 : Int)) := of_decide_eq_false c41_
      refine at_pures 15 (by kernel_rfl) (by kernel_rfl) ?_
      refine at_done (by kernel_rfl) ?_
      refine then_n ?_
      refine c_if (.tmp 37) (decide ((bl.length : Int) > (300 : Int))) [1, 1, 0, 1, 0] [1, 1, 0, 1, 1] (by kernel_rfl) (by kernel_rfl) (fun c42_ => ?_) (fun c42_ => ?_)
      · -- yes
        replace c42_ : (bl.length : Int) > (300 : Int) := of_decide_eq_true c42_
        refine c_seq [1, 1, 0, 1, 0, 0] [1, 1, 0, 1, 0, 1] (by kernel_rfl) ?_
        refine c_reg 4 accountBack_c_R4 (by kernel_rfl) ?_
        refine at_pures 1 (by kernel_rfl) (by kernel_rfl) ?_
        refine at_done (by kernel_rfl) ?_
        refine then_n ?_
        refine c_ret (by kernel_rfl) ?_
        refine then_r ?_
        refine fin_ret (.bool true) (by kernel_rfl) (by kernel_rfl) ?_
        exact ⟨rfl, T34_⟩
      · -- no
        replace c42_ : ¬ ((bl.length : Int) > (300 : Int)) := of_decide_eq_false c42_
        refine c_skip (by kernel_rfl) ?_
        refine then_n ?_
        refine c_seq [1, 1, 1, 0] [1, 1, 1, 1] (by kernel_rfl) ?_
        refine c_seq [1, 1, 1, 0, 0] [1, 1, 1, 0, 1] (by kernel_rfl) ?_
        refine c_reg 5 accountBack_c_R5 (by kernel_rfl) ?_
        refine at_pures 1 (by kernel_rfl) (by kernel_rfl) ?_
        refine at_do (by kernel_rfl) (op_call 34 #[(.tmp 39)] #[(.slice bo bl.length bcap)] (by kernel_rfl) (by kernel_rfl) (by kernel_rfl) ?_)
        have C47_ := aread_c (.slice bo bl.length bcap) bl w30_ ⟨_, _, rfl, h35_⟩  (by first | with_reducible assumption | omega | exact accB_byt _ _ _ | exact (accB_byt _ _ _).take _ | exact (Byt.nil.cat (accB_byt _ _ _)).cat (Byt.all (by kernel_rfl)) | exact Nat.le_trans accB_len (by omega) | (simp only [List.length_append, List.length_nil, List.length_cons]; omega)) (by first | with_reducible assumption | omega | exact accB_byt _ _ _ | exact (accB_byt _ _ _).take _ | exact (Byt.nil.cat (accB_byt _ _ _)).cat (Byt.all (by kernel_rfl)) | exact Nat.le_trans accB_len (by omega) | (simp only [List.length_append, List.length_nil, List.length_cons]; omega))
        refine Calls.mono C47_ ?_
        rintro e46_ w44_ ⟨rfl, F45_⟩
        have T48_ := Fr.tr T34_ F45_
        have h49_ := Rd.keep' h35_ F45_ Dis.n0
        have h50_ := Rd.keep' h36_ F45_ Dis.n0
        have h51_ := Rd.keep' h37_ F45_ Dis.n0
        have h52_ := Fr.keep F45_ h38_ Dis.n0
        have h53_ := Fr.keep F45_ h39_ Dis.n0
        refine ⟨_, rfl, ?_⟩
        refine at_pures 5 (by kernel_rfl) (by kernel_rfl) ?_
        refine at_do (by kernel_rfl) (op_new (.cells #[(.string (⟨#[]⟩ : ByteArray)), (.int .u64 0), (.int .u32 0)] 60) (fun N => (.pointer (some ⟨N, 0, none⟩))) (fun _ => by kernel_rfl) (fun w55_ b54_ h56_ q57_ F58_ => ?_))
        have d59_ : Dis (One b54_) (Ar bo (B bl)) := Dis.fresh (New.one q57_) (Rd.in h49_)
        have d60_ : Dis (One b54_) (Ar (some ⟨0, 0, none⟩) ((hw KL).toList)) := Dis.fresh (New.one q57_) (Rd.in h50_)
        have d61_ : Dis (One b54_) (Ar (some ⟨1, 0, none⟩) ((hw KL).toList)) := Dis.fresh (New.one q57_) (Rd.in h51_)
        have d62_ : Dis (One b54_) (One b1_) := Dis.fresh (New.one q57_) (In.one h52_)
        have d63_ : Dis (One b54_) (One b11_) := Dis.fresh (New.one q57_) (In.one h53_)
        have N64_ : New w N0 (One b54_) := New.made q57_ (Fr.size T48_)
        have T65_ := Fr.tr T48_ F58_
        have h66_ := Rd.keep' h49_ F58_ Dis.n0
        have h67_ := Rd.keep' h50_ F58_ Dis.n0
        have h68_ := Rd.keep' h51_ F58_ Dis.n0
        have h69_ := Fr.keep F58_ h52_ Dis.n0
        have h70_ := Fr.keep F58_ h53_ Dis.n0
        refine at_do (by kernel_rfl) (op_store 60 (.tmp 7) (.tmp 41) b54_ 0 (.agg #[(.string ((accRd bl).s)), (.int .u64 ((accRd bl).bal : Int)), (.int .u32 ((accRd bl).non : Int))]) _ _ #[(.string ((accRd bl).s)), (.int .u64 ((accRd bl).bal : Int)), (.int .u32 ((accRd bl).non : Int))] (by kernel_rfl) (by kernel_rfl) (by kernel_rfl) h56_ (by kernel_rfl) (by kernel_rfl) (by kernel_rfl) (by kernel_rfl) (fun w71_ h72_ z73_ F74_ => ?_))
        have T75_ := Fr.then T65_ F74_ N64_
        have h76_ := Rd.keep' h66_ F74_ (Dis.sym d59_)
        have h77_ := Rd.keep' h67_ F74_ (Dis.sym d60_)
        have h78_ := Rd.keep' h68_ F74_ (Dis.sym d61_)
        have h79_ := Fr.keep F74_ h69_ (Dis.sym d62_)
        have h80_ := Fr.keep F74_ h70_ (Dis.sym d63_)
        refine at_pures 8 (by kernel_rfl) (by kernel_rfl) ?_
        refine at_done (by kernel_rfl) ?_
        refine then_n ?_
        refine c_seq [1, 1, 1, 0, 1, 0] [1, 1, 1, 0, 1, 1] (by kernel_rfl) ?_
        refine c_reg 6 accountBack_c_R6 (by kernel_rfl) ?_
        refine at_pures 2 (by kernel_rfl) (by kernel_rfl) ?_
        refine at_done (by kernel_rfl) ?_
        refine then_n ?_
        refine c_if (.tmp 44) ((accF bl : Int) == (0 : Int)) [1, 1, 1, 0, 1, 1, 0] [1, 1, 1, 0, 1, 1, 1] (by kernel_rfl) (by kernel_rfl) (fun c81_ => ?_) (fun c81_ => ?_)
        · -- yes
          replace c81_ : (accF bl : Int) = (0 : Int) := by simpa using c81_
          refine c_seq [1, 1, 1, 0, 1, 1, 0, 0] [1, 1, 1, 0, 1, 1, 0, 1] (by kernel_rfl) ?_
          refine c_reg 7 accountBack_c_R7 (by kernel_rfl) ?_
          refine at_loadN 60 (.tmp 7) b54_ 0 3 _ _ _ #[(.string ((accRd bl).s)), (.int .u64 ((accRd bl).bal : Int)), (.int .u32 ((accRd bl).non : Int))] (by kernel_rfl) (by kernel_rfl) (by kernel_rfl) (by kernel_rfl) (by kernel_rfl) h72_ (by kernel_rfl) (by kernel_rfl) ?_
          refine at_do (by kernel_rfl) (op_call 30 #[(.tmp 46)] #[(.agg #[(.string ((accRd bl).s)), (.int .u64 ((accRd bl).bal : Int)), (.int .u32 ((accRd bl).non : Int))])] (by kernel_rfl) (by kernel_rfl) (by kernel_rfl) ?_)
          have C89_ := abytes_c ((accRd bl).s) ((accRd bl).bal) ((accRd bl).non) w71_   (by first | with_reducible assumption | omega | exact accB_byt _ _ _ | exact (accB_byt _ _ _).take _ | exact (Byt.nil.cat (accB_byt _ _ _)).cat (Byt.all (by kernel_rfl)) | exact Nat.le_trans accB_len (by omega) | (simp only [List.length_append, List.length_nil, List.length_cons]; omega)) (by first | with_reducible assumption | omega | exact accB_byt _ _ _ | exact (accB_byt _ _ _).take _ | exact (Byt.nil.cat (accB_byt _ _ _)).cat (Byt.all (by kernel_rfl)) | exact Nat.le_trans accB_len (by omega) | (simp only [List.length_append, List.length_nil, List.length_cons]; omega))
          refine Calls.mono C89_ ?_
          rintro e88_ w86_ ⟨vout82_, rfl, h83_, F87_, h85_⟩
          have d90_ : Dis (Own vout82_) (Ar bo (B bl)) := Dis.fresh h85_ (Rd.in h76_)
          have d91_ : Dis (Own vout82_) (Ar (some ⟨0, 0, none⟩) ((hw KL).toList)) := Dis.fresh h85_ (Rd.in h77_)
          have d92_ : Dis (Own vout82_) (Ar (some ⟨1, 0, none⟩) ((hw KL).toList)) := Dis.fresh h85_ (Rd.in h78_)
          have d93_ : Dis (Own vout82_) (One b1_) := Dis.fresh h85_ (In.one h79_)
          have d94_ : Dis (Own vout82_) (One b11_) := Dis.fresh h85_ (In.one h80_)
          have d95_ : Dis (Own vout82_) (One b54_) := Dis.fresh h85_ (In.one h72_)
          have T96_ := Fr.tr T75_ F87_
          have h97_ := Rd.keep' h76_ F87_ Dis.n0
          have h98_ := Rd.keep' h77_ F87_ Dis.n0
          have h99_ := Rd.keep' h78_ F87_ Dis.n0
          have h100_ := Fr.keep F87_ h79_ Dis.n0
          have h101_ := Fr.keep F87_ h80_ Dis.n0
          have h102_ := Fr.keep F87_ h72_ Dis.n0
          have N104_ : New w N0 (Own vout82_) := New.later' h85_ (Fr.size T75_)
          obtain ⟨ao105_, cap106_, rfl, hc107_, hm108_, hR109_, ho110_⟩ := Row.read h83_
          refine ⟨(.tuple #[(.slice ao105_ ((accB ((accRd bl).s) ((accRd bl).bal) ((accRd bl).non)).length) cap106_), (.int .i64 0)]), (by rw [accE_yes (acc_back hB (by omega)).1]; rfl), ?_⟩
          refine at_pures 7 (by kernel_rfl) (by kernel_rfl) ?_
          refine at_done (by kernel_rfl) ?_
          refine then_n ?_
          refine c_seq [1, 1, 1, 0, 1, 1, 0, 1, 0] [1, 1, 1, 0, 1, 1, 0, 1, 1] (by kernel_rfl) ?_
          refine c_reg 8 accountBack_c_R8 (by kernel_rfl) ?_
          refine at_pures 5 (by kernel_rfl) (by kernel_rfl) ?_
          refine at_do (by kernel_rfl) (op_call 23 #[(.tmp 53), (.tmp 54)] #[(.slice ao105_ ((accB ((accRd bl).s) ((accRd bl).bal) ((accRd bl).non)).length) cap106_), (.slice bo bl.length bcap)] (by kernel_rfl) (by kernel_rfl) (by kernel_rfl) ?_)
          have C115_ := same_c (.slice ao105_ ((accB ((accRd bl).s) ((accRd bl).bal) ((accRd bl).non)).length) cap106_) (accB ((accRd bl).s) ((accRd bl).bal) ((accRd bl).non)) (.slice bo bl.length bcap) bl w86_ (Row.sl h83_) ⟨_, _, rfl, h97_⟩  (by first | with_reducible assumption | omega | exact accB_byt _ _ _ | exact (accB_byt _ _ _).take _ | exact (Byt.nil.cat (accB_byt _ _ _)).cat (Byt.all (by kernel_rfl)) | exact Nat.le_trans accB_len (by omega) | (simp only [List.length_append, List.length_nil, List.length_cons]; omega)) (by first | with_reducible assumption | omega | exact accB_byt _ _ _ | exact (accB_byt _ _ _).take _ | exact (Byt.nil.cat (accB_byt _ _ _)).cat (Byt.all (by kernel_rfl)) | exact Nat.le_trans accB_len (by omega) | (simp only [List.length_append, List.length_nil, List.length_cons]; omega))
          refine Calls.mono C115_ ?_
          rintro e114_ w112_ ⟨rfl, F113_⟩
          have T116_ := Fr.tr T96_ F113_
          have h117_ := Rd.keep' h97_ F113_ Dis.n0
          have h118_ := Rd.keep' h98_ F113_ Dis.n0
          have h119_ := Rd.keep' h99_ F113_ Dis.n0
          have h120_ := Fr.keep F113_ h100_ Dis.n0
          have h121_ := Fr.keep F113_ h101_ Dis.n0
          have h122_ := Fr.keep F113_ h102_ Dis.n0
          have h123_ := Row.keep h83_ F113_ Dis.n0
          refine ⟨(.bool true), (by rw [decide_eq_true (acc_back hB (by omega)).2]), ?_⟩
          refine at_pures 8 (by kernel_rfl) (by kernel_rfl) ?_
          refine at_done (by kernel_rfl) ?_
          refine then_n ?_
          refine c_else (.tmp 57) [1, 1, 1, 0, 1, 1, 0, 1, 1, 0] [1, 1, 1, 0, 1, 1, 0, 1, 1, 1] (by kernel_rfl) (by kernel_rfl) ?_
          refine c_skip (by kernel_rfl) ?_
          refine then_n ?_
          refine c_seq [1, 1, 1, 1, 0] [1, 1, 1, 1, 1] (by kernel_rfl) ?_
          refine c_reg 10 accountBack_c_R10 (by kernel_rfl) ?_
          refine at_loadN 60 (.tmp 3) b1_ 0 3 _ _ _ #[(.string s), (.int .u64 (bal : Int)), (.int .u32 (non : Int))] (by kernel_rfl) (by kernel_rfl) (by kernel_rfl) (by kernel_rfl) (by kernel_rfl) h120_ (by kernel_rfl) (by kernel_rfl) ?_
          refine at_do (by kernel_rfl) (op_call 30 #[(.tmp 59)] #[(.agg #[(.string s), (.int .u64 (bal : Int)), (.int .u32 (non : Int))])] (by kernel_rfl) (by kernel_rfl) (by kernel_rfl) ?_)
          have C131_ := abytes_c s bal non w112_   (by first | with_reducible assumption | omega | exact accB_byt _ _ _ | exact (accB_byt _ _ _).take _ | exact (Byt.nil.cat (accB_byt _ _ _)).cat (Byt.all (by kernel_rfl)) | exact Nat.le_trans accB_len (by omega) | (simp only [List.length_append, List.length_nil, List.length_cons]; omega)) (by first | with_reducible assumption | omega | exact accB_byt _ _ _ | exact (accB_byt _ _ _).take _ | exact (Byt.nil.cat (accB_byt _ _ _)).cat (Byt.all (by kernel_rfl)) | exact Nat.le_trans accB_len (by omega) | (simp only [List.length_append, List.length_nil, List.length_cons]; omega))
          refine Calls.mono C131_ ?_
          rintro e130_ w128_ ⟨vout124_, rfl, h125_, F129_, h127_⟩
          have d132_ : Dis (Own vout124_) (Ar bo (B bl)) := Dis.fresh h127_ (Rd.in h117_)
          have d133_ : Dis (Own vout124_) (Ar (some ⟨0, 0, none⟩) ((hw KL).toList)) := Dis.fresh h127_ (Rd.in h118_)
          have d134_ : Dis (Own vout124_) (Ar (some ⟨1, 0, none⟩) ((hw KL).toList)) := Dis.fresh h127_ (Rd.in h119_)
          have d135_ : Dis (Own vout124_) (One b1_) := Dis.fresh h127_ (In.one h120_)
          have d136_ : Dis (Own vout124_) (One b11_) := Dis.fresh h127_ (In.one h121_)
          have d137_ : Dis (Own vout124_) (One b54_) := Dis.fresh h127_ (In.one h122_)
          have d138_ : Dis (Own vout124_) (Own (.slice ao105_ ((accB ((accRd bl).s) ((accRd bl).bal) ((accRd bl).non)).length) cap106_)) := Dis.fresh h127_ (Row.in h123_)
          have T139_ := Fr.tr T116_ F129_
          have h140_ := Rd.keep' h117_ F129_ Dis.n0
          have h141_ := Rd.keep' h118_ F129_ Dis.n0
          have h142_ := Rd.keep' h119_ F129_ Dis.n0
          have h143_ := Fr.keep F129_ h120_ Dis.n0
          have h144_ := Fr.keep F129_ h121_ Dis.n0
          have h145_ := Fr.keep F129_ h122_ Dis.n0
          have h146_ := Row.keep h123_ F129_ Dis.n0
          have N148_ : New w N0 (Own vout124_) := New.later' h127_ (Fr.size T116_)
          obtain ⟨ao149_, cap150_, rfl, hc151_, hm152_, hR153_, ho154_⟩ := Row.read h125_
          refine ⟨_, rfl, ?_⟩
          refine at_pures 7 (by kernel_rfl) (by kernel_rfl) ?_
          refine at_done (by kernel_rfl) ?_
          refine then_n ?_
          refine c_seq [1, 1, 1, 1, 1, 0] [1, 1, 1, 1, 1, 1] (by kernel_rfl) ?_
          refine c_reg 11 accountBack_c_R11 (by kernel_rfl) ?_
          refine at_loadN 60 (.tmp 4) b11_ 0 3 _ _ _ #[(.string t), (.int .u64 (bam : Int)), (.int .u32 (nom : Int))] (by kernel_rfl) (by kernel_rfl) (by kernel_rfl) (by kernel_rfl) (by kernel_rfl) h144_ (by kernel_rfl) (by kernel_rfl) ?_
          refine at_do (by kernel_rfl) (op_call 30 #[(.tmp 64)] #[(.agg #[(.string t), (.int .u64 (bam : Int)), (.int .u32 (nom : Int))])] (by kernel_rfl) (by kernel_rfl) (by kernel_rfl) ?_)
          have C162_ := abytes_c t bam nom w128_   (by first | with_reducible assumption | omega | exact accB_byt _ _ _ | exact (accB_byt _ _ _).take _ | exact (Byt.nil.cat (accB_byt _ _ _)).cat (Byt.all (by kernel_rfl)) | exact Nat.le_trans accB_len (by omega) | (simp only [List.length_append, List.length_nil, List.length_cons]; omega)) (by first | with_reducible assumption | omega | exact accB_byt _ _ _ | exact (accB_byt _ _ _).take _ | exact (Byt.nil.cat (accB_byt _ _ _)).cat (Byt.all (by kernel_rfl)) | exact Nat.le_trans accB_len (by omega) | (simp only [List.length_append, List.length_nil, List.length_cons]; omega))
          refine Calls.mono C162_ ?_
          rintro e161_ w159_ ⟨vout155_, rfl, h156_, F160_, h158_⟩
          have d163_ : Dis (Own vout155_) (Ar bo (B bl)) := Dis.fresh h158_ (Rd.in h140_)
          have d164_ : Dis (Own vout155_) (Ar (some ⟨0, 0, none⟩) ((hw KL).toList)) := Dis.fresh h158_ (Rd.in h141_)
          have d165_ : Dis (Own vout155_) (Ar (some ⟨1, 0, none⟩) ((hw KL).toList)) := Dis.fresh h158_ (Rd.in h142_)
          have d166_ : Dis (Own vout155_) (One b1_) := Dis.fresh h158_ (In.one h143_)
          have d167_ : Dis (Own vout155_) (One b11_) := Dis.fresh h158_ (In.one h144_)
          have d168_ : Dis (Own vout155_) (One b54_) := Dis.fresh h158_ (In.one h145_)
          have d169_ : Dis (Own vout155_) (Own (.slice ao105_ ((accB ((accRd bl).s) ((accRd bl).bal) ((accRd bl).non)).length) cap106_)) := Dis.fresh h158_ (Row.in h146_)
          have d170_ : Dis (Own vout155_) (Own (.slice ao149_ ((accB s bal non).length) cap150_)) := Dis.fresh h158_ (Row.in h125_)
          have T171_ := Fr.tr T139_ F160_
          have h172_ := Rd.keep' h140_ F160_ Dis.n0
          have h173_ := Rd.keep' h141_ F160_ Dis.n0
          have h174_ := Rd.keep' h142_ F160_ Dis.n0
          have h175_ := Fr.keep F160_ h143_ Dis.n0
          have h176_ := Fr.keep F160_ h144_ Dis.n0
          have h177_ := Fr.keep F160_ h145_ Dis.n0
          have h178_ := Row.keep h146_ F160_ Dis.n0
          have h179_ := Row.keep h125_ F160_ Dis.n0
          have N181_ : New w N0 (Own vout155_) := New.later' h158_ (Fr.size T139_)
          obtain ⟨ao182_, cap183_, rfl, hc184_, hm185_, hR186_, ho187_⟩ := Row.read h156_
          refine ⟨_, rfl, ?_⟩
          refine at_pures 7 (by kernel_rfl) (by kernel_rfl) ?_
          refine at_done (by kernel_rfl) ?_
          refine then_n ?_
          refine c_seq [1, 1, 1, 1, 1, 1, 0] [1, 1, 1, 1, 1, 1, 1] (by kernel_rfl) ?_
          refine c_seq [1, 1, 1, 1, 1, 1, 0, 0] [1, 1, 1, 1, 1, 1, 0, 1] (by kernel_rfl) ?_
          refine c_reg 12 accountBack_c_R12 (by kernel_rfl) ?_
          refine at_pures 2 (by kernel_rfl) (by kernel_rfl) ?_
          refine at_split (((accE s : Nat) : Int) != (0 : Int)) (by kernel_rfl) (by kernel_rfl) (fun c188_ => ?_) (fun c188_ => ?_)
          · -- yes
            replace c188_ : ((accE s : Nat) : Int) ≠ (0 : Int) := by simpa using c188_
            refine at_pures 6 (by kernel_rfl) (by kernel_rfl) ?_
            refine at_done (by kernel_rfl) ?_
            refine then_n ?_
            refine c_then (.tmp 73) [1, 1, 1, 1, 1, 1, 0, 1, 0] [1, 1, 1, 1, 1, 1, 0, 1, 1] (by kernel_rfl) (by kernel_rfl) ?_
            refine c_seq [1, 1, 1, 1, 1, 1, 0, 1, 0, 0] [1, 1, 1, 1, 1, 1, 0, 1, 0, 1] (by kernel_rfl) ?_
            refine c_reg 13 accountBack_c_R13 (by kernel_rfl) ?_
            refine at_pures 2 (by kernel_rfl) (by kernel_rfl) ?_
            refine at_loadN 60 (.tmp 3) b1_ 0 3 _ _ _ #[(.string s), (.int .u64 (bal : Int)), (.int .u32 (non : Int))] (by kernel_rfl) (by kernel_rfl) (by kernel_rfl) (by kernel_rfl) (by kernel_rfl) h175_ (by kernel_rfl) (by kernel_rfl) ?_
            refine at_do (by kernel_rfl) (op_call 36 #[(.tmp 76)] #[(.agg #[(.string s), (.int .u64 (bal : Int)), (.int .u32 (non : Int))])] (by kernel_rfl) (by kernel_rfl) (by kernel_rfl) ?_)
            have C193_ := aright_c s bal non w159_   
            refine Calls.mono C193_ ?_
            rintro e192_ w190_ ⟨rfl, F191_⟩
            have T194_ := Fr.tr T171_ F191_
            have h195_ := Rd.keep' h172_ F191_ Dis.n0
            have h196_ := Rd.keep' h173_ F191_ Dis.n0
            have h197_ := Rd.keep' h174_ F191_ Dis.n0
            have h198_ := Fr.keep F191_ h175_ Dis.n0
            have h199_ := Fr.keep F191_ h176_ Dis.n0
            have h200_ := Fr.keep F191_ h177_ Dis.n0
            have h201_ := Row.keep h178_ F191_ Dis.n0
            have h202_ := Row.keep h179_ F191_ Dis.n0
            have h203_ := Row.keep h156_ F191_ Dis.n0
            refine ⟨_, rfl, ?_⟩
            refine at_as (.bool ((((accE s : Nat) : Int) == (0 : Int)) == (rightS s))) (.bool true) (by kernel_rfl) (by kernel_rfl) (congrArg Value.bool (acc_iff _)) ?_
            refine at_pures 8 (by kernel_rfl) (by kernel_rfl) ?_
            refine at_loadN 60 (.tmp 4) b11_ 0 3 _ _ _ #[(.string t), (.int .u64 (bam : Int)), (.int .u32 (nom : Int))] (by kernel_rfl) (by kernel_rfl) (by kernel_rfl) (by kernel_rfl) (by kernel_rfl) h199_ (by kernel_rfl) (by kernel_rfl) ?_
            refine at_do (by kernel_rfl) (op_call 36 #[(.tmp 82)] #[(.agg #[(.string t), (.int .u64 (bam : Int)), (.int .u32 (nom : Int))])] (by kernel_rfl) (by kernel_rfl) (by kernel_rfl) ?_)
            have C208_ := aright_c t bam nom w190_   
            refine Calls.mono C208_ ?_
            rintro e207_ w205_ ⟨rfl, F206_⟩
            have T209_ := Fr.tr T194_ F206_
            have h210_ := Rd.keep' h195_ F206_ Dis.n0
            have h211_ := Rd.keep' h196_ F206_ Dis.n0
            have h212_ := Rd.keep' h197_ F206_ Dis.n0
            have h213_ := Fr.keep F206_ h198_ Dis.n0
            have h214_ := Fr.keep F206_ h199_ Dis.n0
            have h215_ := Fr.keep F206_ h200_ Dis.n0
            have h216_ := Row.keep h201_ F206_ Dis.n0
            have h217_ := Row.keep h202_ F206_ Dis.n0
            have h218_ := Row.keep h203_ F206_ Dis.n0
            refine ⟨_, rfl, ?_⟩
            refine at_as (.bool ((((accE t : Nat) : Int) == (0 : Int)) == (rightS t))) (.bool true) (by kernel_rfl) (by kernel_rfl) (congrArg Value.bool (acc_iff _)) ?_
            refine at_pures 13 (by kernel_rfl) (by kernel_rfl) ?_
            refine at_done (by kernel_rfl) ?_
            refine then_n ?_
            refine c_ret (by kernel_rfl) ?_
            refine then_r ?_
            refine fin_ret (.bool true) (by kernel_rfl) (by kernel_rfl) ?_
            exact ⟨rfl, T209_⟩
          · -- no
            replace c188_ : ((accE s : Nat) : Int) = (0 : Int) := by simpa using c188_
            refine at_pures 6 (by kernel_rfl) (by kernel_rfl) ?_
            refine at_done (by kernel_rfl) ?_
            refine then_n ?_
            refine c_if (.tmp 73) (((accE t : Nat) : Int) != (0 : Int)) [1, 1, 1, 1, 1, 1, 0, 1, 0] [1, 1, 1, 1, 1, 1, 0, 1, 1] (by kernel_rfl) (by kernel_rfl) (fun c219_ => ?_) (fun c219_ => ?_)
            · -- yes
              replace c219_ : ((accE t : Nat) : Int) ≠ (0 : Int) := by simpa using c219_
              refine c_seq [1, 1, 1, 1, 1, 1, 0, 1, 0, 0] [1, 1, 1, 1, 1, 1, 0, 1, 0, 1] (by kernel_rfl) ?_
              refine c_reg 13 accountBack_c_R13 (by kernel_rfl) ?_
              refine at_pures 2 (by kernel_rfl) (by kernel_rfl) ?_
              refine at_loadN 60 (.tmp 3) b1_ 0 3 _ _ _ #[(.string s), (.int .u64 (bal : Int)), (.int .u32 (non : Int))] (by kernel_rfl) (by kernel_rfl) (by kernel_rfl) (by kernel_rfl) (by kernel_rfl) h175_ (by kernel_rfl) (by kernel_rfl) ?_
              refine at_do (by kernel_rfl) (op_call 36 #[(.tmp 76)] #[(.agg #[(.string s), (.int .u64 (bal : Int)), (.int .u32 (non : Int))])] (by kernel_rfl) (by kernel_rfl) (by kernel_rfl) ?_)
              have C224_ := aright_c s bal non w159_   
              refine Calls.mono C224_ ?_
              rintro e223_ w221_ ⟨rfl, F222_⟩
              have T225_ := Fr.tr T171_ F222_
              have h226_ := Rd.keep' h172_ F222_ Dis.n0
              have h227_ := Rd.keep' h173_ F222_ Dis.n0
              have h228_ := Rd.keep' h174_ F222_ Dis.n0
              have h229_ := Fr.keep F222_ h175_ Dis.n0
              have h230_ := Fr.keep F222_ h176_ Dis.n0
              have h231_ := Fr.keep F222_ h177_ Dis.n0
              have h232_ := Row.keep h178_ F222_ Dis.n0
              have h233_ := Row.keep h179_ F222_ Dis.n0
              have h234_ := Row.keep h156_ F222_ Dis.n0
              refine ⟨_, rfl, ?_⟩
              refine at_as (.bool ((((accE s : Nat) : Int) == (0 : Int)) == (rightS s))) (.bool true) (by kernel_rfl) (by kernel_rfl) (congrArg Value.bool (acc_iff _)) ?_
              refine at_pures 8 (by kernel_rfl) (by kernel_rfl) ?_
              refine at_loadN 60 (.tmp 4) b11_ 0 3 _ _ _ #[(.string t), (.int .u64 (bam : Int)), (.int .u32 (nom : Int))] (by kernel_rfl) (by kernel_rfl) (by kernel_rfl) (by kernel_rfl) (by kernel_rfl) h230_ (by kernel_rfl) (by kernel_rfl) ?_
              refine at_do (by kernel_rfl) (op_call 36 #[(.tmp 82)] #[(.agg #[(.string t), (.int .u64 (bam : Int)), (.int .u32 (nom : Int))])] (by kernel_rfl) (by kernel_rfl) (by kernel_rfl) ?_)
              have C239_ := aright_c t bam nom w221_   
              refine Calls.mono C239_ ?_
              rintro e238_ w236_ ⟨rfl, F237_⟩
              have T240_ := Fr.tr T225_ F237_
              have h241_ := Rd.keep' h226_ F237_ Dis.n0
              have h242_ := Rd.keep' h227_ F237_ Dis.n0
              have h243_ := Rd.keep' h228_ F237_ Dis.n0
              have h244_ := Fr.keep F237_ h229_ Dis.n0
              have h245_ := Fr.keep F237_ h230_ Dis.n0
              have h246_ := Fr.keep F237_ h231_ Dis.n0
              have h247_ := Row.keep h232_ F237_ Dis.n0
              have h248_ := Row.keep h233_ F237_ Dis.n0
              have h249_ := Row.keep h234_ F237_ Dis.n0
              refine ⟨_, rfl, ?_⟩
              refine at_as (.bool ((((accE t : Nat) : Int) == (0 : Int)) == (rightS t))) (.bool true) (by kernel_rfl) (by kernel_rfl) (congrArg Value.bool (acc_iff _)) ?_
              refine at_pures 13 (by kernel_rfl) (by kernel_rfl) ?_
              refine at_done (by kernel_rfl) ?_
              refine then_n ?_
              refine c_ret (by kernel_rfl) ?_
              refine then_r ?_
              refine fin_ret (.bool true) (by kernel_rfl) (by kernel_rfl) ?_
              exact ⟨rfl, T240_⟩
            · -- no
              replace c219_ : ((accE t : Nat) : Int) = (0 : Int) := by simpa using c219_
              refine c_skip (by kernel_rfl) ?_
              refine then_n ?_
              refine c_seq [1, 1, 1, 1, 1, 1, 1, 0] [1, 1, 1, 1, 1, 1, 1, 1] (by kernel_rfl) ?_
              refine c_reg 14 accountBack_c_R14 (by kernel_rfl) ?_
              refine at_pures 1 (by kernel_rfl) (by kernel_rfl) ?_
              refine at_do (by kernel_rfl) (op_call 34 #[(.tmp 87)] #[(.slice ao149_ ((accB s bal non).length) cap150_)] (by kernel_rfl) (by kernel_rfl) (by kernel_rfl) ?_)
              have C254_ := aread_c (.slice ao149_ ((accB s bal non).length) cap150_) (accB s bal non) w159_ (Row.sl h179_)  (by first | with_reducible assumption | omega | exact accB_byt _ _ _ | exact (accB_byt _ _ _).take _ | exact (Byt.nil.cat (accB_byt _ _ _)).cat (Byt.all (by kernel_rfl)) | exact Nat.le_trans accB_len (by omega) | (simp only [List.length_append, List.length_nil, List.length_cons]; omega)) (by first | with_reducible assumption | omega | exact accB_byt _ _ _ | exact (accB_byt _ _ _).take _ | exact (Byt.nil.cat (accB_byt _ _ _)).cat (Byt.all (by kernel_rfl)) | exact Nat.le_trans accB_len (by omega) | (simp only [List.length_append, List.length_nil, List.length_cons]; omega))
              refine Calls.mono C254_ ?_
              rintro e253_ w251_ ⟨rfl, F252_⟩
              have T255_ := Fr.tr T171_ F252_
              have h256_ := Rd.keep' h172_ F252_ Dis.n0
              have h257_ := Rd.keep' h173_ F252_ Dis.n0
              have h258_ := Rd.keep' h174_ F252_ Dis.n0
              have h259_ := Fr.keep F252_ h175_ Dis.n0
              have h260_ := Fr.keep F252_ h176_ Dis.n0
              have h261_ := Fr.keep F252_ h177_ Dis.n0
              have h262_ := Row.keep h178_ F252_ Dis.n0
              have h263_ := Row.keep h179_ F252_ Dis.n0
              have h264_ := Row.keep h156_ F252_ Dis.n0
              refine ⟨(.tuple #[(.agg #[(.string s), (.int .u64 (bal : Int)), (.int .u32 (non : Int))]), (.int .i64 0)]), (by rw [(acc_read (accE_eq (s := s) (by assumption)) hbal hnon).1, (acc_read (accE_eq (s := s) (by assumption)) hbal hnon).2]; rfl), ?_⟩
              refine at_pures 5 (by kernel_rfl) (by kernel_rfl) ?_
              refine at_do (by kernel_rfl) (op_new (.cells #[(.string (⟨#[]⟩ : ByteArray)), (.int .u64 0), (.int .u32 0)] 60) (fun N => (.pointer (some ⟨N, 0, none⟩))) (fun _ => by kernel_rfl) (fun w266_ b265_ h267_ q268_ F269_ => ?_))
              have d270_ : Dis (One b265_) (Ar bo (B bl)) := Dis.fresh (New.one q268_) (Rd.in h256_)
              have d271_ : Dis (One b265_) (Ar (some ⟨0, 0, none⟩) ((hw KL).toList)) := Dis.fresh (New.one q268_) (Rd.in h257_)
              have d272_ : Dis (One b265_) (Ar (some ⟨1, 0, none⟩) ((hw KL).toList)) := Dis.fresh (New.one q268_) (Rd.in h258_)
              have d273_ : Dis (One b265_) (One b1_) := Dis.fresh (New.one q268_) (In.one h259_)
              have d274_ : Dis (One b265_) (One b11_) := Dis.fresh (New.one q268_) (In.one h260_)
              have d275_ : Dis (One b265_) (One b54_) := Dis.fresh (New.one q268_) (In.one h261_)
              have d276_ : Dis (One b265_) (Own (.slice ao105_ ((accB ((accRd bl).s) ((accRd bl).bal) ((accRd bl).non)).length) cap106_)) := Dis.fresh (New.one q268_) (Row.in h262_)
              have d277_ : Dis (One b265_) (Own (.slice ao149_ ((accB s bal non).length) cap150_)) := Dis.fresh (New.one q268_) (Row.in h263_)
              have d278_ : Dis (One b265_) (Own (.slice ao182_ ((accB t bam nom).length) cap183_)) := Dis.fresh (New.one q268_) (Row.in h264_)
              have N279_ : New w N0 (One b265_) := New.made q268_ (Fr.size T255_)
              have T280_ := Fr.tr T255_ F269_
              have h281_ := Rd.keep' h256_ F269_ Dis.n0
              have h282_ := Rd.keep' h257_ F269_ Dis.n0
              have h283_ := Rd.keep' h258_ F269_ Dis.n0
              have h284_ := Fr.keep F269_ h259_ Dis.n0
              have h285_ := Fr.keep F269_ h260_ Dis.n0
              have h286_ := Fr.keep F269_ h261_ Dis.n0
              have h287_ := Row.keep h262_ F269_ Dis.n0
              have h288_ := Row.keep h263_ F269_ Dis.n0
              have h289_ := Row.keep h264_ F269_ Dis.n0
              refine at_do (by kernel_rfl) (op_store 60 (.tmp 15) (.tmp 89) b265_ 0 (.agg #[(.string s), (.int .u64 (bal : Int)), (.int .u32 (non : Int))]) _ _ #[(.string s), (.int .u64 (bal : Int)), (.int .u32 (non : Int))] (by kernel_rfl) (by kernel_rfl) (by kernel_rfl) h267_ (by kernel_rfl) (by kernel_rfl) (by kernel_rfl) (by kernel_rfl) (fun w290_ h291_ z292_ F293_ => ?_))
              have T294_ := Fr.then T280_ F293_ N279_
              have h295_ := Rd.keep' h281_ F293_ (Dis.sym d270_)
              have h296_ := Rd.keep' h282_ F293_ (Dis.sym d271_)
              have h297_ := Rd.keep' h283_ F293_ (Dis.sym d272_)
              have h298_ := Fr.keep F293_ h284_ (Dis.sym d273_)
              have h299_ := Fr.keep F293_ h285_ (Dis.sym d274_)
              have h300_ := Fr.keep F293_ h286_ (Dis.sym d275_)
              have h301_ := Row.keep h287_ F293_ (Dis.sym d276_)
              have h302_ := Row.keep h288_ F293_ (Dis.sym d277_)
              have h303_ := Row.keep h289_ F293_ (Dis.sym d278_)
              refine at_pures 8 (by kernel_rfl) (by kernel_rfl) ?_
              refine at_done (by kernel_rfl) ?_
              refine then_n ?_
              refine c_seq [1, 1, 1, 1, 1, 1, 1, 1, 0] [1, 1, 1, 1, 1, 1, 1, 1, 1] (by kernel_rfl) ?_
              refine c_reg 15 accountBack_c_R15 (by kernel_rfl) ?_
              refine at_pures 3 (by kernel_rfl) (by kernel_rfl) ?_
              have hXp := accL_length (s := s) (bal := bal) (non := non) (accE_eq (s := s) (by assumption))
              refine at_int (kd := .i64) (IntKind.i64.wrap (((accB s bal non).length : Int) - (1 : Int))) ((((accB s bal non).length - 1 : Nat) : Int)) (by kernel_rfl) (by kernel_rfl) (by rw [wrapN_i64 (by omega) (by omega)]; omega) ?_
              have h304_ : Rd w290_ (cutA ao149_ 0 cap150_ 1) (B (((accB s bal non).drop 0).take ((accB s bal non).length - 1 : Nat))) := Rd.cutB (Row.rd h302_) 0 ((accB s bal non).length - 1 : Nat) cap150_ (by omega)
              have hcl306_ : (((accB s bal non).drop 0).take ((accB s bal non).length - 1 : Nat)).length = ((accB s bal non).length - 1 : Nat) := by rw [List.length_take, List.length_drop]; omega
              refine at_run (.slice (cutA ao149_ 0 cap150_ 1) ((((accB s bal non).drop 0).take ((accB s bal non).length - 1 : Nat)).length) cap150_) _ (by kernel_rfl) (by rw [hcl306_]; exact run_cut 22 (.tmp 92) none (some (.tmp 95)) none 1 ao149_ ((accB s bal non).length) cap150_ 0 ((accB s bal non).length - 1 : Nat) cap150_ (by kernel_rfl) (by kernel_rfl) (by kernel_rfl) (by kernel_rfl) (by kernel_rfl) (by kernel_rfl) (by kernel_rfl) (by kernel_rfl) (by omega) (by omega) (by omega)) ?_
              refine at_do (by kernel_rfl) (op_call 34 #[(.tmp 96)] #[(.slice (cutA ao149_ 0 cap150_ 1) ((((accB s bal non).drop 0).take ((accB s bal non).length - 1 : Nat)).length) cap150_)] (by kernel_rfl) (by kernel_rfl) (by kernel_rfl) ?_)
              have C311_ := aread_c (.slice (cutA ao149_ 0 cap150_ 1) ((((accB s bal non).drop 0).take ((accB s bal non).length - 1 : Nat)).length) cap150_) (((accB s bal non).drop 0).take ((accB s bal non).length - 1 : Nat)) w290_ ⟨_, _, rfl, h304_⟩  (by first | with_reducible assumption | omega | exact accB_byt _ _ _ | exact (accB_byt _ _ _).take _ | exact (Byt.nil.cat (accB_byt _ _ _)).cat (Byt.all (by kernel_rfl)) | exact Nat.le_trans accB_len (by omega) | (simp only [List.length_append, List.length_nil, List.length_cons]; omega)) (by first | with_reducible assumption | omega | exact accB_byt _ _ _ | exact (accB_byt _ _ _).take _ | exact (Byt.nil.cat (accB_byt _ _ _)).cat (Byt.all (by kernel_rfl)) | exact Nat.le_trans accB_len (by omega) | (simp only [List.length_append, List.length_nil, List.length_cons]; omega))
              refine Calls.mono C311_ ?_
              rintro e310_ w308_ ⟨rfl, F309_⟩
              have T312_ := Fr.tr T294_ F309_
              have h313_ := Rd.keep' h295_ F309_ Dis.n0
              have h314_ := Rd.keep' h296_ F309_ Dis.n0
              have h315_ := Rd.keep' h297_ F309_ Dis.n0
              have h316_ := Fr.keep F309_ h298_ Dis.n0
              have h317_ := Fr.keep F309_ h299_ Dis.n0
              have h318_ := Fr.keep F309_ h300_ Dis.n0
              have h319_ := Row.keep h301_ F309_ Dis.n0
              have h320_ := Row.keep h302_ F309_ Dis.n0
              have h321_ := Row.keep h303_ F309_ Dis.n0
              have h322_ := Fr.keep F309_ h291_ Dis.n0
              have h323_ := Rd.keep' h304_ F309_ Dis.n0
              refine ⟨(.tuple #[(.agg #[(.string ((accRd (((accB s bal non).drop 0).take ((accB s bal non).length - 1 : Nat))).s)), (.int .u64 ((accRd (((accB s bal non).drop 0).take ((accB s bal non).length - 1 : Nat))).bal : Int)), (.int .u32 ((accRd (((accB s bal non).drop 0).take ((accB s bal non).length - 1 : Nat))).non : Int))]), (.int .i64 3)]), (by rw [acc_short (accE_eq (s := s) (by assumption))]; rfl), ?_⟩
              refine at_pures 9 (by kernel_rfl) (by kernel_rfl) ?_
              refine at_do (by kernel_rfl) (op_new (.cells #[(.string (⟨#[]⟩ : ByteArray)), (.int .u64 0), (.int .u32 0)] 60) (fun N => (.pointer (some ⟨N, 0, none⟩))) (fun _ => by kernel_rfl) (fun w325_ b324_ h326_ q327_ F328_ => ?_))
              have d329_ : Dis (One b324_) (Ar bo (B bl)) := Dis.fresh (New.one q327_) (Rd.in h313_)
              have d330_ : Dis (One b324_) (Ar (some ⟨0, 0, none⟩) ((hw KL).toList)) := Dis.fresh (New.one q327_) (Rd.in h314_)
              have d331_ : Dis (One b324_) (Ar (some ⟨1, 0, none⟩) ((hw KL).toList)) := Dis.fresh (New.one q327_) (Rd.in h315_)
              have d332_ : Dis (One b324_) (One b1_) := Dis.fresh (New.one q327_) (In.one h316_)
              have d333_ : Dis (One b324_) (One b11_) := Dis.fresh (New.one q327_) (In.one h317_)
              have d334_ : Dis (One b324_) (One b54_) := Dis.fresh (New.one q327_) (In.one h318_)
              have d335_ : Dis (One b324_) (Own (.slice ao105_ ((accB ((accRd bl).s) ((accRd bl).bal) ((accRd bl).non)).length) cap106_)) := Dis.fresh (New.one q327_) (Row.in h319_)
              have d336_ : Dis (One b324_) (Own (.slice ao149_ ((accB s bal non).length) cap150_)) := Dis.fresh (New.one q327_) (Row.in h320_)
              have d337_ : Dis (One b324_) (Own (.slice ao182_ ((accB t bam nom).length) cap183_)) := Dis.fresh (New.one q327_) (Row.in h321_)
              have d338_ : Dis (One b324_) (One b265_) := Dis.fresh (New.one q327_) (In.one h322_)
              have d339_ : Dis (One b324_) (Ar (cutA ao149_ 0 cap150_ 1) (B (((accB s bal non).drop 0).take ((accB s bal non).length - 1 : Nat)))) := Dis.fresh (New.one q327_) (Rd.in h323_)
              have N340_ : New w N0 (One b324_) := New.made q327_ (Fr.size T312_)
              have T341_ := Fr.tr T312_ F328_
              have h342_ := Rd.keep' h313_ F328_ Dis.n0
              have h343_ := Rd.keep' h314_ F328_ Dis.n0
              have h344_ := Rd.keep' h315_ F328_ Dis.n0
              have h345_ := Fr.keep F328_ h316_ Dis.n0
              have h346_ := Fr.keep F328_ h317_ Dis.n0
              have h347_ := Fr.keep F328_ h318_ Dis.n0
              have h348_ := Row.keep h319_ F328_ Dis.n0
              have h349_ := Row.keep h320_ F328_ Dis.n0
              have h350_ := Row.keep h321_ F328_ Dis.n0
              have h351_ := Fr.keep F328_ h322_ Dis.n0
              have h352_ := Rd.keep' h323_ F328_ Dis.n0
              refine at_do (by kernel_rfl) (op_store 60 (.tmp 17) (.tmp 98) b324_ 0 (.agg #[(.string ((accRd (((accB s bal non).drop 0).take ((accB s bal non).length - 1 : Nat))).s)), (.int .u64 ((accRd (((accB s bal non).drop 0).take ((accB s bal non).length - 1 : Nat))).bal : Int)), (.int .u32 ((accRd (((accB s bal non).drop 0).take ((accB s bal non).length - 1 : Nat))).non : Int))]) _ _ #[(.string ((accRd (((accB s bal non).drop 0).take ((accB s bal non).length - 1 : Nat))).s)), (.int .u64 ((accRd (((accB s bal non).drop 0).take ((accB s bal non).length - 1 : Nat))).bal : Int)), (.int .u32 ((accRd (((accB s bal non).drop 0).take ((accB s bal non).length - 1 : Nat))).non : Int))] (by kernel_rfl) (by kernel_rfl) (by kernel_rfl) h326_ (by kernel_rfl) (by kernel_rfl) (by kernel_rfl) (by kernel_rfl) (fun w353_ h354_ z355_ F356_ => ?_))
              have T357_ := Fr.then T341_ F356_ N340_
              have h358_ := Rd.keep' h342_ F356_ (Dis.sym d329_)
              have h359_ := Rd.keep' h343_ F356_ (Dis.sym d330_)
              have h360_ := Rd.keep' h344_ F356_ (Dis.sym d331_)
              have h361_ := Fr.keep F356_ h345_ (Dis.sym d332_)
              have h362_ := Fr.keep F356_ h346_ (Dis.sym d333_)
              have h363_ := Fr.keep F356_ h347_ (Dis.sym d334_)
              have h364_ := Row.keep h348_ F356_ (Dis.sym d335_)
              have h365_ := Row.keep h349_ F356_ (Dis.sym d336_)
              have h366_ := Row.keep h350_ F356_ (Dis.sym d337_)
              have h367_ := Fr.keep F356_ h351_ (Dis.sym d338_)
              have h368_ := Rd.keep' h352_ F356_ (Dis.sym d339_)
              refine at_pures 12 (by kernel_rfl) (by kernel_rfl) ?_
              refine at_done (by kernel_rfl) ?_
              refine then_n ?_
              refine c_seq [1, 1, 1, 1, 1, 1, 1, 1, 1, 0] [1, 1, 1, 1, 1, 1, 1, 1, 1, 1] (by kernel_rfl) ?_
              refine c_reg 16 accountBack_c_R16 (by kernel_rfl) ?_
              refine at_do (by kernel_rfl) (op_new (.cells #[] 5) (fun N => (.slice (some ⟨N, 0, none⟩) 0 0)) (fun _ => by kernel_rfl) (fun w370_ b369_ h371_ q372_ F373_ => ?_))
              have d374_ : Dis (One b369_) (Ar bo (B bl)) := Dis.fresh (New.one q372_) (Rd.in h358_)
              have d375_ : Dis (One b369_) (Ar (some ⟨0, 0, none⟩) ((hw KL).toList)) := Dis.fresh (New.one q372_) (Rd.in h359_)
              have d376_ : Dis (One b369_) (Ar (some ⟨1, 0, none⟩) ((hw KL).toList)) := Dis.fresh (New.one q372_) (Rd.in h360_)
              have d377_ : Dis (One b369_) (One b1_) := Dis.fresh (New.one q372_) (In.one h361_)
              have d378_ : Dis (One b369_) (One b11_) := Dis.fresh (New.one q372_) (In.one h362_)
              have d379_ : Dis (One b369_) (One b54_) := Dis.fresh (New.one q372_) (In.one h363_)
              have d380_ : Dis (One b369_) (Own (.slice ao105_ ((accB ((accRd bl).s) ((accRd bl).bal) ((accRd bl).non)).length) cap106_)) := Dis.fresh (New.one q372_) (Row.in h364_)
              have d381_ : Dis (One b369_) (Own (.slice ao149_ ((accB s bal non).length) cap150_)) := Dis.fresh (New.one q372_) (Row.in h365_)
              have d382_ : Dis (One b369_) (Own (.slice ao182_ ((accB t bam nom).length) cap183_)) := Dis.fresh (New.one q372_) (Row.in h366_)
              have d383_ : Dis (One b369_) (One b265_) := Dis.fresh (New.one q372_) (In.one h367_)
              have d384_ : Dis (One b369_) (Ar (cutA ao149_ 0 cap150_ 1) (B (((accB s bal non).drop 0).take ((accB s bal non).length - 1 : Nat)))) := Dis.fresh (New.one q372_) (Rd.in h368_)
              have d385_ : Dis (One b369_) (One b324_) := Dis.fresh (New.one q372_) (In.one h354_)
              have N386_ : New w N0 (One b369_) := New.made q372_ (Fr.size T357_)
              have T387_ := Fr.tr T357_ F373_
              refine at_pures 2 (by kernel_rfl) (by kernel_rfl) ?_
              have h388_ := Rd.keep' h358_ F373_ Dis.n0
              have h389_ := Rd.keep' h359_ F373_ Dis.n0
              have h390_ := Rd.keep' h360_ F373_ Dis.n0
              have h391_ := Fr.keep F373_ h361_ Dis.n0
              have h392_ := Fr.keep F373_ h362_ Dis.n0
              have h393_ := Fr.keep F373_ h363_ Dis.n0
              have h394_ := Row.keep h364_ F373_ Dis.n0
              have h395_ := Row.keep h365_ F373_ Dis.n0
              have h396_ := Row.keep h366_ F373_ Dis.n0
              have h397_ := Fr.keep F373_ h367_ Dis.n0
              have h398_ := Rd.keep' h368_ F373_ Dis.n0
              have h399_ := Fr.keep F373_ h354_ Dis.n0
              have h400_ : Row w370_ 5 1 (.slice (some ⟨b369_, 0, none⟩) 0 0) 0 [] := Row.made' h371_ (by rfl) (by decide) (by decide) (by rfl)
              refine at_do (by kernel_rfl) (op_append (.tmp 101) (.tmp 102) 22 22 5 1 1 (.int .u8 0) (by kernel_rfl) (by kernel_rfl) (by rfl) (v := (.slice (some ⟨b369_, 0, none⟩) 0 0)) (by kernel_rfl) h400_ (xv := (.slice ao149_ ((accB s bal non).length) cap150_)) (m := (accB s bal non).length) (news := B (accB s bal non)) (by kernel_rfl) (Row.src (e' := 5) (by kernel_rfl) h395_ (by decide) B_one) (by first | (simp only [maxLen]; omega) | (simp only [maxLen, List.length_append, List.length_cons, List.length_nil, putB_length]; omega)) (by first | omega | (simp only [List.length_append, List.length_cons, List.length_nil, putB_length]; omega)) (fun v401_ w402_ h403_ F404_ s405_ => ?_))
              have T406_ := Fr.then T387_ F404_ (New.own N386_)
              have d407_ : Dis (Own v401_) (Ar bo (B bl)) := Dis.step (Dis.own d374_) s405_ (Rd.in h388_)
              have h408_ := Rd.keep' h388_ F404_ (Dis.sym (Dis.own d374_))
              have d409_ : Dis (Own v401_) (Ar (some ⟨0, 0, none⟩) ((hw KL).toList)) := Dis.step (Dis.own d375_) s405_ (Rd.in h389_)
              have h410_ := Rd.keep' h389_ F404_ (Dis.sym (Dis.own d375_))
              have d411_ : Dis (Own v401_) (Ar (some ⟨1, 0, none⟩) ((hw KL).toList)) := Dis.step (Dis.own d376_) s405_ (Rd.in h390_)
              have h412_ := Rd.keep' h390_ F404_ (Dis.sym (Dis.own d376_))
              have d413_ : Dis (Own v401_) (One b1_) := Dis.step (Dis.own d377_) s405_ (In.one h391_)
              have h414_ := Fr.keep F404_ h391_ (Dis.sym (Dis.own d377_))
              have d415_ : Dis (Own v401_) (One b11_) := Dis.step (Dis.own d378_) s405_ (In.one h392_)
              have h416_ := Fr.keep F404_ h392_ (Dis.sym (Dis.own d378_))
              have d417_ : Dis (Own v401_) (One b54_) := Dis.step (Dis.own d379_) s405_ (In.one h393_)
              have h418_ := Fr.keep F404_ h393_ (Dis.sym (Dis.own d379_))
              have d419_ : Dis (Own v401_) (Own (.slice ao105_ ((accB ((accRd bl).s) ((accRd bl).bal) ((accRd bl).non)).length) cap106_)) := Dis.step (Dis.own d380_) s405_ (Row.in h394_)
              have h420_ := Row.keep h394_ F404_ (Dis.sym (Dis.own d380_))
              have d421_ : Dis (Own v401_) (Own (.slice ao149_ ((accB s bal non).length) cap150_)) := Dis.step (Dis.own d381_) s405_ (Row.in h395_)
              have h422_ := Row.keep h395_ F404_ (Dis.sym (Dis.own d381_))
              have d423_ : Dis (Own v401_) (Own (.slice ao182_ ((accB t bam nom).length) cap183_)) := Dis.step (Dis.own d382_) s405_ (Row.in h396_)
              have h424_ := Row.keep h396_ F404_ (Dis.sym (Dis.own d382_))
              have d425_ : Dis (Own v401_) (One b265_) := Dis.step (Dis.own d383_) s405_ (In.one h397_)
              have h426_ := Fr.keep F404_ h397_ (Dis.sym (Dis.own d383_))
              have d427_ : Dis (Own v401_) (Ar (cutA ao149_ 0 cap150_ 1) (B (((accB s bal non).drop 0).take ((accB s bal non).length - 1 : Nat)))) := Dis.step (Dis.own d384_) s405_ (Rd.in h398_)
              have h428_ := Rd.keep' h398_ F404_ (Dis.sym (Dis.own d384_))
              have d429_ : Dis (Own v401_) (One b324_) := Dis.step (Dis.own d385_) s405_ (In.one h399_)
              have h430_ := Fr.keep F404_ h399_ (Dis.sym (Dis.own d385_))
              have N431_ : New w N0 (Own v401_) := New.trans (New.own N386_) s405_ (Fr.size T387_)
              have h432_ : Row w402_ 5 1 v401_ ([] ++ (accB s bal non)).length (B ([] ++ (accB s bal non))) := Row.appB h403_ rfl
              obtain ⟨ao433_, cap434_, rfl, hc435_, hm436_, hR437_, ho438_⟩ := Row.read h432_
              refine at_do (by kernel_rfl) (op_new (.cells #[(.int .u8 0)] 5) (fun N => (.slice (some ⟨N, 0, none⟩) 1 1)) (fun _ => by kernel_rfl) (fun w440_ b439_ h441_ q442_ F443_ => ?_))
              have d444_ : Dis (One b439_) (Ar bo (B bl)) := Dis.fresh (New.one q442_) (Rd.in h408_)
              have d445_ : Dis (One b439_) (Ar (some ⟨0, 0, none⟩) ((hw KL).toList)) := Dis.fresh (New.one q442_) (Rd.in h410_)
              have d446_ : Dis (One b439_) (Ar (some ⟨1, 0, none⟩) ((hw KL).toList)) := Dis.fresh (New.one q442_) (Rd.in h412_)
              have d447_ : Dis (One b439_) (One b1_) := Dis.fresh (New.one q442_) (In.one h414_)
              have d448_ : Dis (One b439_) (One b11_) := Dis.fresh (New.one q442_) (In.one h416_)
              have d449_ : Dis (One b439_) (One b54_) := Dis.fresh (New.one q442_) (In.one h418_)
              have d450_ : Dis (One b439_) (Own (.slice ao105_ ((accB ((accRd bl).s) ((accRd bl).bal) ((accRd bl).non)).length) cap106_)) := Dis.fresh (New.one q442_) (Row.in h420_)
              have d451_ : Dis (One b439_) (Own (.slice ao149_ ((accB s bal non).length) cap150_)) := Dis.fresh (New.one q442_) (Row.in h422_)
              have d452_ : Dis (One b439_) (Own (.slice ao182_ ((accB t bam nom).length) cap183_)) := Dis.fresh (New.one q442_) (Row.in h424_)
              have d453_ : Dis (One b439_) (One b265_) := Dis.fresh (New.one q442_) (In.one h426_)
              have d454_ : Dis (One b439_) (Ar (cutA ao149_ 0 cap150_ 1) (B (((accB s bal non).drop 0).take ((accB s bal non).length - 1 : Nat)))) := Dis.fresh (New.one q442_) (Rd.in h428_)
              have d455_ : Dis (One b439_) (One b324_) := Dis.fresh (New.one q442_) (In.one h430_)
              have d456_ : Dis (One b439_) (Own (.slice ao433_ (([] ++ (accB s bal non)).length) cap434_)) := Dis.fresh (New.one q442_) (Row.in h432_)
              have N457_ : New w N0 (One b439_) := New.made q442_ (Fr.size T406_)
              have T458_ := Fr.tr T406_ F443_
              have h459_ := Rd.keep' h408_ F443_ Dis.n0
              have h460_ := Rd.keep' h410_ F443_ Dis.n0
              have h461_ := Rd.keep' h412_ F443_ Dis.n0
              have h462_ := Fr.keep F443_ h414_ Dis.n0
              have h463_ := Fr.keep F443_ h416_ Dis.n0
              have h464_ := Fr.keep F443_ h418_ Dis.n0
              have h465_ := Row.keep h420_ F443_ Dis.n0
              have h466_ := Row.keep h422_ F443_ Dis.n0
              have h467_ := Row.keep h424_ F443_ Dis.n0
              have h468_ := Fr.keep F443_ h426_ Dis.n0
              have h469_ := Rd.keep' h428_ F443_ Dis.n0
              have h470_ := Fr.keep F443_ h430_ Dis.n0
              have h471_ := Row.keep h432_ F443_ Dis.n0
              refine at_do (by kernel_rfl) (op_append (.tmp 103) (.tmp 104) 22 22 5 1 1 (.int .u8 0) (by kernel_rfl) (by kernel_rfl) (by rfl) (v := (.slice ao433_ (([] ++ (accB s bal non)).length) cap434_)) (by kernel_rfl) h471_ (xv := (.slice (some ⟨b439_, 0, none⟩) 1 1)) (m := 1) (news := (#[(.int .u8 0)]).toList) (by kernel_rfl) (Rd.src (xs := (#[(.int .u8 0)]).toList) (size := 1) (e := 5) (by kernel_rfl) (Rd.of_cut h441_ 0 1 (by kernel_rfl)) (by kernel_rfl) (by decide) (ones (by kernel_rfl))) (by first | (simp only [maxLen]; omega) | (simp only [maxLen, List.length_append, List.length_cons, List.length_nil, putB_length]; omega)) (by first | omega | (simp only [List.length_append, List.length_cons, List.length_nil, putB_length]; omega)) (fun v472_ w473_ h474_ F475_ s476_ => ?_))
              have T477_ := Fr.then T458_ F475_ N431_
              have d478_ : Dis (Own v472_) (Ar bo (B bl)) := Dis.step d407_ s476_ (Rd.in h459_)
              have h479_ := Rd.keep' h459_ F475_ (Dis.sym d407_)
              have d480_ : Dis (Own v472_) (Ar (some ⟨0, 0, none⟩) ((hw KL).toList)) := Dis.step d409_ s476_ (Rd.in h460_)
              have h481_ := Rd.keep' h460_ F475_ (Dis.sym d409_)
              have d482_ : Dis (Own v472_) (Ar (some ⟨1, 0, none⟩) ((hw KL).toList)) := Dis.step d411_ s476_ (Rd.in h461_)
              have h483_ := Rd.keep' h461_ F475_ (Dis.sym d411_)
              have d484_ : Dis (Own v472_) (One b1_) := Dis.step d413_ s476_ (In.one h462_)
              have h485_ := Fr.keep F475_ h462_ (Dis.sym d413_)
              have d486_ : Dis (Own v472_) (One b11_) := Dis.step d415_ s476_ (In.one h463_)
              have h487_ := Fr.keep F475_ h463_ (Dis.sym d415_)
              have d488_ : Dis (Own v472_) (One b54_) := Dis.step d417_ s476_ (In.one h464_)
              have h489_ := Fr.keep F475_ h464_ (Dis.sym d417_)
              have d490_ : Dis (Own v472_) (Own (.slice ao105_ ((accB ((accRd bl).s) ((accRd bl).bal) ((accRd bl).non)).length) cap106_)) := Dis.step d419_ s476_ (Row.in h465_)
              have h491_ := Row.keep h465_ F475_ (Dis.sym d419_)
              have d492_ : Dis (Own v472_) (Own (.slice ao149_ ((accB s bal non).length) cap150_)) := Dis.step d421_ s476_ (Row.in h466_)
              have h493_ := Row.keep h466_ F475_ (Dis.sym d421_)
              have d494_ : Dis (Own v472_) (Own (.slice ao182_ ((accB t bam nom).length) cap183_)) := Dis.step d423_ s476_ (Row.in h467_)
              have h495_ := Row.keep h467_ F475_ (Dis.sym d423_)
              have d496_ : Dis (Own v472_) (One b265_) := Dis.step d425_ s476_ (In.one h468_)
              have h497_ := Fr.keep F475_ h468_ (Dis.sym d425_)
              have d498_ : Dis (Own v472_) (Ar (cutA ao149_ 0 cap150_ 1) (B (((accB s bal non).drop 0).take ((accB s bal non).length - 1 : Nat)))) := Dis.step d427_ s476_ (Rd.in h469_)
              have h499_ := Rd.keep' h469_ F475_ (Dis.sym d427_)
              have d500_ : Dis (Own v472_) (One b324_) := Dis.step d429_ s476_ (In.one h470_)
              have h501_ := Fr.keep F475_ h470_ (Dis.sym d429_)
              have d502_ : Dis (Own v472_) (One b439_) := Dis.step (Dis.sym d456_) s476_ (In.one h441_)
              have h503_ := Fr.keep F475_ h441_ d456_
              have N504_ : New w N0 (Own v472_) := New.trans N431_ s476_ (Fr.size T458_)
              have h505_ : Row w473_ 5 1 v472_ ([] ++ (accB s bal non) ++ [0]).length (B ([] ++ (accB s bal non) ++ [0])) := Row.appB h474_ (by rfl)
              obtain ⟨ao506_, cap507_, rfl, hc508_, hm509_, hR510_, ho511_⟩ := Row.read h505_
              refine at_do (by kernel_rfl) (op_call 34 #[(.tmp 105)] #[(.slice ao506_ (([] ++ (accB s bal non) ++ [0]).length) cap507_)] (by kernel_rfl) (by kernel_rfl) (by kernel_rfl) ?_)
              have C516_ := aread_c (.slice ao506_ (([] ++ (accB s bal non) ++ [0]).length) cap507_) ([] ++ (accB s bal non) ++ [0]) w473_ (Row.sl h505_)  (by first | with_reducible assumption | omega | exact accB_byt _ _ _ | exact (accB_byt _ _ _).take _ | exact (Byt.nil.cat (accB_byt _ _ _)).cat (Byt.all (by kernel_rfl)) | exact Nat.le_trans accB_len (by omega) | (simp only [List.length_append, List.length_nil, List.length_cons]; omega)) (by first | with_reducible assumption | omega | exact accB_byt _ _ _ | exact (accB_byt _ _ _).take _ | exact (Byt.nil.cat (accB_byt _ _ _)).cat (Byt.all (by kernel_rfl)) | exact Nat.le_trans accB_len (by omega) | (simp only [List.length_append, List.length_nil, List.length_cons]; omega))
              refine Calls.mono C516_ ?_
              rintro e515_ w513_ ⟨rfl, F514_⟩
              have T517_ := Fr.tr T477_ F514_
              have h518_ := Rd.keep' h479_ F514_ Dis.n0
              have h519_ := Rd.keep' h481_ F514_ Dis.n0
              have h520_ := Rd.keep' h483_ F514_ Dis.n0
              have h521_ := Fr.keep F514_ h485_ Dis.n0
              have h522_ := Fr.keep F514_ h487_ Dis.n0
              have h523_ := Fr.keep F514_ h489_ Dis.n0
              have h524_ := Row.keep h491_ F514_ Dis.n0
              have h525_ := Row.keep h493_ F514_ Dis.n0
              have h526_ := Row.keep h495_ F514_ Dis.n0
              have h527_ := Fr.keep F514_ h497_ Dis.n0
              have h528_ := Rd.keep' h499_ F514_ Dis.n0
              have h529_ := Fr.keep F514_ h501_ Dis.n0
              have h530_ := Row.keep h505_ F514_ Dis.n0
              have h531_ := Fr.keep F514_ h503_ Dis.n0
              refine ⟨(.tuple #[(.agg #[(.string ((accRd ([] ++ (accB s bal non) ++ [0])).s)), (.int .u64 ((accRd ([] ++ (accB s bal non) ++ [0])).bal : Int)), (.int .u32 ((accRd ([] ++ (accB s bal non) ++ [0])).non : Int))]), (.int .i64 4)]), (by rw [show [] ++ (accB s bal non) ++ [0] = (accB s bal non) ++ [0] from rfl, acc_long (accE_eq (s := s) (by assumption))]; rfl), ?_⟩
              refine at_pures 9 (by kernel_rfl) (by kernel_rfl) ?_
              refine at_do (by kernel_rfl) (op_new (.cells #[(.string (⟨#[]⟩ : ByteArray)), (.int .u64 0), (.int .u32 0)] 60) (fun N => (.pointer (some ⟨N, 0, none⟩))) (fun _ => by kernel_rfl) (fun w533_ b532_ h534_ q535_ F536_ => ?_))
              have d537_ : Dis (One b532_) (Ar bo (B bl)) := Dis.fresh (New.one q535_) (Rd.in h518_)
              have d538_ : Dis (One b532_) (Ar (some ⟨0, 0, none⟩) ((hw KL).toList)) := Dis.fresh (New.one q535_) (Rd.in h519_)
              have d539_ : Dis (One b532_) (Ar (some ⟨1, 0, none⟩) ((hw KL).toList)) := Dis.fresh (New.one q535_) (Rd.in h520_)
              have d540_ : Dis (One b532_) (One b1_) := Dis.fresh (New.one q535_) (In.one h521_)
              have d541_ : Dis (One b532_) (One b11_) := Dis.fresh (New.one q535_) (In.one h522_)
              have d542_ : Dis (One b532_) (One b54_) := Dis.fresh (New.one q535_) (In.one h523_)
              have d543_ : Dis (One b532_) (Own (.slice ao105_ ((accB ((accRd bl).s) ((accRd bl).bal) ((accRd bl).non)).length) cap106_)) := Dis.fresh (New.one q535_) (Row.in h524_)
              have d544_ : Dis (One b532_) (Own (.slice ao149_ ((accB s bal non).length) cap150_)) := Dis.fresh (New.one q535_) (Row.in h525_)
              have d545_ : Dis (One b532_) (Own (.slice ao182_ ((accB t bam nom).length) cap183_)) := Dis.fresh (New.one q535_) (Row.in h526_)
              have d546_ : Dis (One b532_) (One b265_) := Dis.fresh (New.one q535_) (In.one h527_)
              have d547_ : Dis (One b532_) (Ar (cutA ao149_ 0 cap150_ 1) (B (((accB s bal non).drop 0).take ((accB s bal non).length - 1 : Nat)))) := Dis.fresh (New.one q535_) (Rd.in h528_)
              have d548_ : Dis (One b532_) (One b324_) := Dis.fresh (New.one q535_) (In.one h529_)
              have d549_ : Dis (One b532_) (Own (.slice ao506_ (([] ++ (accB s bal non) ++ [0]).length) cap507_)) := Dis.fresh (New.one q535_) (Row.in h530_)
              have d550_ : Dis (One b532_) (One b439_) := Dis.fresh (New.one q535_) (In.one h531_)
              have N551_ : New w N0 (One b532_) := New.made q535_ (Fr.size T517_)
              have T552_ := Fr.tr T517_ F536_
              have h553_ := Rd.keep' h518_ F536_ Dis.n0
              have h554_ := Rd.keep' h519_ F536_ Dis.n0
              have h555_ := Rd.keep' h520_ F536_ Dis.n0
              have h556_ := Fr.keep F536_ h521_ Dis.n0
              have h557_ := Fr.keep F536_ h522_ Dis.n0
              have h558_ := Fr.keep F536_ h523_ Dis.n0
              have h559_ := Row.keep h524_ F536_ Dis.n0
              have h560_ := Row.keep h525_ F536_ Dis.n0
              have h561_ := Row.keep h526_ F536_ Dis.n0
              have h562_ := Fr.keep F536_ h527_ Dis.n0
              have h563_ := Rd.keep' h528_ F536_ Dis.n0
              have h564_ := Fr.keep F536_ h529_ Dis.n0
              have h565_ := Row.keep h530_ F536_ Dis.n0
              have h566_ := Fr.keep F536_ h531_ Dis.n0
              refine at_do (by kernel_rfl) (op_store 60 (.tmp 19) (.tmp 107) b532_ 0 (.agg #[(.string ((accRd ([] ++ (accB s bal non) ++ [0])).s)), (.int .u64 ((accRd ([] ++ (accB s bal non) ++ [0])).bal : Int)), (.int .u32 ((accRd ([] ++ (accB s bal non) ++ [0])).non : Int))]) _ _ #[(.string ((accRd ([] ++ (accB s bal non) ++ [0])).s)), (.int .u64 ((accRd ([] ++ (accB s bal non) ++ [0])).bal : Int)), (.int .u32 ((accRd ([] ++ (accB s bal non) ++ [0])).non : Int))] (by kernel_rfl) (by kernel_rfl) (by kernel_rfl) h534_ (by kernel_rfl) (by kernel_rfl) (by kernel_rfl) (by kernel_rfl) (fun w567_ h568_ z569_ F570_ => ?_))
              have T571_ := Fr.then T552_ F570_ N551_
              have h572_ := Rd.keep' h553_ F570_ (Dis.sym d537_)
              have h573_ := Rd.keep' h554_ F570_ (Dis.sym d538_)
              have h574_ := Rd.keep' h555_ F570_ (Dis.sym d539_)
              have h575_ := Fr.keep F570_ h556_ (Dis.sym d540_)
              have h576_ := Fr.keep F570_ h557_ (Dis.sym d541_)
              have h577_ := Fr.keep F570_ h558_ (Dis.sym d542_)
              have h578_ := Row.keep h559_ F570_ (Dis.sym d543_)
              have h579_ := Row.keep h560_ F570_ (Dis.sym d544_)
              have h580_ := Row.keep h561_ F570_ (Dis.sym d545_)
              have h581_ := Fr.keep F570_ h562_ (Dis.sym d546_)
              have h582_ := Rd.keep' h563_ F570_ (Dis.sym d547_)
              have h583_ := Fr.keep F570_ h564_ (Dis.sym d548_)
              have h584_ := Row.keep h565_ F570_ (Dis.sym d549_)
              have h585_ := Fr.keep F570_ h566_ (Dis.sym d550_)
              refine at_pures 12 (by kernel_rfl) (by kernel_rfl) ?_
              refine at_done (by kernel_rfl) ?_
              refine then_n ?_
              refine c_seq [1, 1, 1, 1, 1, 1, 1, 1, 1, 1, 0] [1, 1, 1, 1, 1, 1, 1, 1, 1, 1, 1] (by kernel_rfl) ?_
              refine c_plan 17 accountBack_c_R17 (fun w' => w'.heap[b1_]? = some (.cells #[(.string s), (.int .u64 (bal : Int)), (.int .u32 (non : Int))] 60 (0, 0)) ∧ w'.heap[b11_]? = some (.cells #[(.string t), (.int .u64 (bam : Int)), (.int .u32 (nom : Int))] 60 (0, 0)) ∧ w'.heap[b265_]? = some (.cells #[(.string s), (.int .u64 (bal : Int)), (.int .u32 (non : Int))] 60 (0, 0)) ∧ True) accountBack_c_sk17 accountBack_c_pl17 (by kernel_rfl) (by kernel_rfl) (by kernel_rfl) (by kernel_rfl) (by kernel_rfl) (fun w586_ F587_ => ?_)
              have T588_ := Fr.tr T571_ F587_
              have h590_ := Fr.keep F587_ h575_ Dis.n0
              have h591_ := Fr.keep F587_ h576_ Dis.n0
              have h592_ := Fr.keep F587_ h581_ Dis.n0
              have S589_ : w586_.heap[b1_]? = some (.cells #[(.string s), (.int .u64 (bal : Int)), (.int .u32 (non : Int))] 60 (0, 0)) ∧ w586_.heap[b11_]? = some (.cells #[(.string t), (.int .u64 (bam : Int)), (.int .u32 (nom : Int))] 60 (0, 0)) ∧ w586_.heap[b265_]? = some (.cells #[(.string s), (.int .u64 (bal : Int)), (.int .u32 (non : Int))] 60 (0, 0)) ∧ True := ⟨h590_, h591_, h592_, trivial⟩
              refine pl_pures 2 (by kernel_rfl) (by kernel_rfl) (off (by kernel_rfl)) ?_
              refine pl_read 3 (.agg #[(.string s), (.int .u64 (bal : Int)), (.int .u32 (non : Int))]) (by kernel_rfl) (by kernel_rfl) (fun w' hs => run_loadN 60 (.tmp 3) b1_ 0 3 _ _ _ #[(.string s), (.int .u64 (bal : Int)), (.int .u32 (non : Int))] (by kernel_rfl) (by kernel_rfl) (by kernel_rfl) (by kernel_rfl) hs.1 (by kernel_rfl) (by kernel_rfl)) S589_ ?_
              refine pl_read 4 (.agg #[(.string t), (.int .u64 (bam : Int)), (.int .u32 (nom : Int))]) (by kernel_rfl) (by kernel_rfl) (fun w' hs => run_loadN 60 (.tmp 4) b11_ 0 3 _ _ _ #[(.string t), (.int .u64 (bam : Int)), (.int .u32 (nom : Int))] (by kernel_rfl) (by kernel_rfl) (by kernel_rfl) (by kernel_rfl) hs.2.1 (by kernel_rfl) (by kernel_rfl)) S589_ ?_
              refine pl_quiet 5 (.bool (decide ((accB s bal non) = (accB t bam nom)))) (by kernel_rfl) (by kernel_rfl) (fun w' => run_eqd_dec true 9995 5 60 (.tmp 112) (.tmp 113) #[(.string s), (.int .u64 (bal : Int)), (.int .u32 (non : Int))] #[(.string t), (.int .u64 (bam : Int)), (.int .u32 (nom : Int))] ((accB s bal non) = (accB t bam nom)) rfl (by kernel_rfl) (by kernel_rfl) (by kernel_rfl) (by kernel_rfl) (by kernel_rfl) (by kernel_rfl) (by kernel_rfl) (by kernel_rfl) (by kernel_rfl) (by kernel_rfl) (Acct.wf (a := ⟨s, bal, non⟩) ⟨hs, hbal, hnon⟩) (Acct.wf (a := ⟨t, bam, nom⟩) ⟨ht, hbam, hnom⟩) (Acct.eq_iff.trans (acc_inj (accE_eq (s := s) (by assumption)) (accE_eq (s := t) (by assumption)) hbal hnon hbam hnom))) (off (by kernel_rfl)) ?_
              have h593_ := Rd.keep' h572_ F587_ Dis.n0
              have h594_ := Rd.keep' h573_ F587_ Dis.n0
              have h595_ := Rd.keep' h574_ F587_ Dis.n0
              have h596_ := Fr.keep F587_ h577_ Dis.n0
              have h597_ := Row.keep h578_ F587_ Dis.n0
              have h598_ := Row.keep h579_ F587_ Dis.n0
              have h599_ := Row.keep h580_ F587_ Dis.n0
              have h600_ := Rd.keep' h582_ F587_ Dis.n0
              have h601_ := Fr.keep F587_ h583_ Dis.n0
              have h602_ := Row.keep h584_ F587_ Dis.n0
              have h603_ := Fr.keep F587_ h585_ Dis.n0
              have h604_ := Fr.keep F587_ h568_ Dis.n0
              refine pl_do 2 (by kernel_rfl) (by kernel_rfl) (op_call 23 #[(.tmp 109), (.tmp 110)] #[(.slice ao149_ ((accB s bal non).length) cap150_), (.slice ao182_ ((accB t bam nom).length) cap183_)] (by kernel_rfl) (by kernel_rfl) (by kernel_rfl) ?_)
              have C609_ := same_c (.slice ao149_ ((accB s bal non).length) cap150_) (accB s bal non) (.slice ao182_ ((accB t bam nom).length) cap183_) (accB t bam nom) w586_ (Row.sl h598_) (Row.sl h599_)  (by first | with_reducible assumption | omega | exact accB_byt _ _ _ | exact (accB_byt _ _ _).take _ | exact (Byt.nil.cat (accB_byt _ _ _)).cat (Byt.all (by kernel_rfl)) | exact Nat.le_trans accB_len (by omega) | (simp only [List.length_append, List.length_nil, List.length_cons]; omega)) (by first | with_reducible assumption | omega | exact accB_byt _ _ _ | exact (accB_byt _ _ _).take _ | exact (Byt.nil.cat (accB_byt _ _ _)).cat (Byt.all (by kernel_rfl)) | exact Nat.le_trans accB_len (by omega) | (simp only [List.length_append, List.length_nil, List.length_cons]; omega))
              refine Calls.mono C609_ ?_
              rintro e608_ w606_ ⟨rfl, F607_⟩
              have T610_ := Fr.tr T588_ F607_
              have h611_ := Rd.keep' h593_ F607_ Dis.n0
              have h612_ := Rd.keep' h594_ F607_ Dis.n0
              have h613_ := Rd.keep' h595_ F607_ Dis.n0
              have h614_ := Fr.keep F607_ h590_ Dis.n0
              have h615_ := Fr.keep F607_ h591_ Dis.n0
              have h616_ := Fr.keep F607_ h596_ Dis.n0
              have h617_ := Row.keep h597_ F607_ Dis.n0
              have h618_ := Row.keep h598_ F607_ Dis.n0
              have h619_ := Row.keep h599_ F607_ Dis.n0
              have h620_ := Fr.keep F607_ h592_ Dis.n0
              have h621_ := Rd.keep' h600_ F607_ Dis.n0
              have h622_ := Fr.keep F607_ h601_ Dis.n0
              have h623_ := Row.keep h602_ F607_ Dis.n0
              have h624_ := Fr.keep F607_ h603_ Dis.n0
              have h625_ := Fr.keep F607_ h604_ Dis.n0
              refine ⟨_, rfl, ?_⟩
              have S626_ : w606_.heap[b1_]? = some (.cells #[(.string s), (.int .u64 (bal : Int)), (.int .u32 (non : Int))] 60 (0, 0)) ∧ w606_.heap[b11_]? = some (.cells #[(.string t), (.int .u64 (bam : Int)), (.int .u32 (nom : Int))] 60 (0, 0)) ∧ w606_.heap[b265_]? = some (.cells #[(.string s), (.int .u64 (bal : Int)), (.int .u32 (non : Int))] 60 (0, 0)) ∧ True := ⟨h614_, h615_, h620_, trivial⟩
              refine ⟨fun _ => S626_, ?_⟩
              refine pl_as 6 (.bool ((decide ((accB s bal non) = (accB t bam nom))) == (decide ((accB s bal non) = (accB t bam nom))))) (.bool true) (by kernel_rfl) (by kernel_rfl) ⟨by kernel_rfl, by kernel_rfl⟩ (congrArg Value.bool (beq_self_eq_true _)) (off (by kernel_rfl)) ?_
              refine pl_pures 8 (by kernel_rfl) (by kernel_rfl) (off (by kernel_rfl)) ?_
              refine pl_read 8 (.agg #[(.string s), (.int .u64 (bal : Int)), (.int .u32 (non : Int))]) (by kernel_rfl) (by kernel_rfl) (fun w' hs => run_loadN 60 (.tmp 15) b265_ 0 3 _ _ _ #[(.string s), (.int .u64 (bal : Int)), (.int .u32 (non : Int))] (by kernel_rfl) (by kernel_rfl) (by kernel_rfl) (by kernel_rfl) hs.2.2.1 (by kernel_rfl) (by kernel_rfl)) S626_ ?_
              refine pl_read 9 (.agg #[(.string s), (.int .u64 (bal : Int)), (.int .u32 (non : Int))]) (by kernel_rfl) (by kernel_rfl) (fun w' hs => run_loadN 60 (.tmp 3) b1_ 0 3 _ _ _ #[(.string s), (.int .u64 (bal : Int)), (.int .u32 (non : Int))] (by kernel_rfl) (by kernel_rfl) (by kernel_rfl) (by kernel_rfl) hs.1 (by kernel_rfl) (by kernel_rfl)) S626_ ?_
              refine pl_quiet 10 (.bool true) (by kernel_rfl) (by kernel_rfl) (fun w' => run_eqd_self true 9995 5 60 (.tmp 117) (.tmp 118) #[(.string s), (.int .u64 (bal : Int)), (.int .u32 (non : Int))] rfl (by kernel_rfl) (by kernel_rfl) (by kernel_rfl) (by kernel_rfl) (by kernel_rfl) (by kernel_rfl) (by kernel_rfl) (by kernel_rfl) (Acct.wf (a := ⟨s, bal, non⟩) ⟨hs, hbal, hnon⟩)) (off (by kernel_rfl)) ?_
              refine pl_pures 25 (by kernel_rfl) (by kernel_rfl) (off (by kernel_rfl)) ?_
              refine pl_done (by kernel_rfl) ?_
              refine then_n ?_
              refine c_ret (by kernel_rfl) ?_
              refine fin_ret (.bool true) (by kernel_rfl) (by kernel_rfl) ?_
              exact ⟨rfl, T610_⟩
        · -- no
          replace c81_ : (accF bl : Int) ≠ (0 : Int) := by simpa using c81_
          refine c_skip (by kernel_rfl) ?_
          refine then_n ?_
          refine c_seq [1, 1, 1, 1, 0] [1, 1, 1, 1, 1] (by kernel_rfl) ?_
          refine c_reg 10 accountBack_c_R10 (by kernel_rfl) ?_
          refine at_loadN 60 (.tmp 3) b1_ 0 3 _ _ _ #[(.string s), (.int .u64 (bal : Int)), (.int .u32 (non : Int))] (by kernel_rfl) (by kernel_rfl) (by kernel_rfl) (by kernel_rfl) (by kernel_rfl) h79_ (by kernel_rfl) (by kernel_rfl) ?_
          refine at_do (by kernel_rfl) (op_call 30 #[(.tmp 59)] #[(.agg #[(.string s), (.int .u64 (bal : Int)), (.int .u32 (non : Int))])] (by kernel_rfl) (by kernel_rfl) (by kernel_rfl) ?_)
          have C634_ := abytes_c s bal non w71_   (by first | with_reducible assumption | omega | exact accB_byt _ _ _ | exact (accB_byt _ _ _).take _ | exact (Byt.nil.cat (accB_byt _ _ _)).cat (Byt.all (by kernel_rfl)) | exact Nat.le_trans accB_len (by omega) | (simp only [List.length_append, List.length_nil, List.length_cons]; omega)) (by first | with_reducible assumption | omega | exact accB_byt _ _ _ | exact (accB_byt _ _ _).take _ | exact (Byt.nil.cat (accB_byt _ _ _)).cat (Byt.all (by kernel_rfl)) | exact Nat.le_trans accB_len (by omega) | (simp only [List.length_append, List.length_nil, List.length_cons]; omega))
          refine Calls.mono C634_ ?_
          rintro e633_ w631_ ⟨vout627_, rfl, h628_, F632_, h630_⟩
          have d635_ : Dis (Own vout627_) (Ar bo (B bl)) := Dis.fresh h630_ (Rd.in h76_)
          have d636_ : Dis (Own vout627_) (Ar (some ⟨0, 0, none⟩) ((hw KL).toList)) := Dis.fresh h630_ (Rd.in h77_)
          have d637_ : Dis (Own vout627_) (Ar (some ⟨1, 0, none⟩) ((hw KL).toList)) := Dis.fresh h630_ (Rd.in h78_)
          have d638_ : Dis (Own vout627_) (One b1_) := Dis.fresh h630_ (In.one h79_)
          have d639_ : Dis (Own vout627_) (One b11_) := Dis.fresh h630_ (In.one h80_)
          have d640_ : Dis (Own vout627_) (One b54_) := Dis.fresh h630_ (In.one h72_)
          have T641_ := Fr.tr T75_ F632_
          have h642_ := Rd.keep' h76_ F632_ Dis.n0
          have h643_ := Rd.keep' h77_ F632_ Dis.n0
          have h644_ := Rd.keep' h78_ F632_ Dis.n0
          have h645_ := Fr.keep F632_ h79_ Dis.n0
          have h646_ := Fr.keep F632_ h80_ Dis.n0
          have h647_ := Fr.keep F632_ h72_ Dis.n0
          have N649_ : New w N0 (Own vout627_) := New.later' h630_ (Fr.size T75_)
          obtain ⟨ao650_, cap651_, rfl, hc652_, hm653_, hR654_, ho655_⟩ := Row.read h628_
          refine ⟨_, rfl, ?_⟩
          refine at_pures 7 (by kernel_rfl) (by kernel_rfl) ?_
          refine at_done (by kernel_rfl) ?_
          refine then_n ?_
          refine c_seq [1, 1, 1, 1, 1, 0] [1, 1, 1, 1, 1, 1] (by kernel_rfl) ?_
          refine c_reg 11 accountBack_c_R11 (by kernel_rfl) ?_
          refine at_loadN 60 (.tmp 4) b11_ 0 3 _ _ _ #[(.string t), (.int .u64 (bam : Int)), (.int .u32 (nom : Int))] (by kernel_rfl) (by kernel_rfl) (by kernel_rfl) (by kernel_rfl) (by kernel_rfl) h646_ (by kernel_rfl) (by kernel_rfl) ?_
          refine at_do (by kernel_rfl) (op_call 30 #[(.tmp 64)] #[(.agg #[(.string t), (.int .u64 (bam : Int)), (.int .u32 (nom : Int))])] (by kernel_rfl) (by kernel_rfl) (by kernel_rfl) ?_)
          have C663_ := abytes_c t bam nom w631_   (by first | with_reducible assumption | omega | exact accB_byt _ _ _ | exact (accB_byt _ _ _).take _ | exact (Byt.nil.cat (accB_byt _ _ _)).cat (Byt.all (by kernel_rfl)) | exact Nat.le_trans accB_len (by omega) | (simp only [List.length_append, List.length_nil, List.length_cons]; omega)) (by first | with_reducible assumption | omega | exact accB_byt _ _ _ | exact (accB_byt _ _ _).take _ | exact (Byt.nil.cat (accB_byt _ _ _)).cat (Byt.all (by kernel_rfl)) | exact Nat.le_trans accB_len (by omega) | (simp only [List.length_append, List.length_nil, List.length_cons]; omega))
          refine Calls.mono C663_ ?_
          rintro e662_ w660_ ⟨vout656_, rfl, h657_, F661_, h659_⟩
          have d664_ : Dis (Own vout656_) (Ar bo (B bl)) := Dis.fresh h659_ (Rd.in h642_)
          have d665_ : Dis (Own vout656_) (Ar (some ⟨0, 0, none⟩) ((hw KL).toList)) := Dis.fresh h659_ (Rd.in h643_)
          have d666_ : Dis (Own vout656_) (Ar (some ⟨1, 0, none⟩) ((hw KL).toList)) := Dis.fresh h659_ (Rd.in h644_)
          have d667_ : Dis (Own vout656_) (One b1_) := Dis.fresh h659_ (In.one h645_)
          have d668_ : Dis (Own vout656_) (One b11_) := Dis.fresh h659_ (In.one h646_)
          have d669_ : Dis (Own vout656_) (One b54_) := Dis.fresh h659_ (In.one h647_)
          have d670_ : Dis (Own vout656_) (Own (.slice ao650_ ((accB s bal non).length) cap651_)) := Dis.fresh h659_ (Row.in h628_)
          have T671_ := Fr.tr T641_ F661_
          have h672_ := Rd.keep' h642_ F661_ Dis.n0
          have h673_ := Rd.keep' h643_ F661_ Dis.n0
          have h674_ := Rd.keep' h644_ F661_ Dis.n0
          have h675_ := Fr.keep F661_ h645_ Dis.n0
          have h676_ := Fr.keep F661_ h646_ Dis.n0
          have h677_ := Fr.keep F661_ h647_ Dis.n0
          have h678_ := Row.keep h628_ F661_ Dis.n0
          have N680_ : New w N0 (Own vout656_) := New.later' h659_ (Fr.size T641_)
          obtain ⟨ao681_, cap682_, rfl, hc683_, hm684_, hR685_, ho686_⟩ := Row.read h657_
          refine ⟨_, rfl, ?_⟩
          refine at_pures 7 (by kernel_rfl) (by kernel_rfl) ?_
          refine at_done (by kernel_rfl) ?_
          refine then_n ?_
          refine c_seq [1, 1, 1, 1, 1, 1, 0] [1, 1, 1, 1, 1, 1, 1] (by kernel_rfl) ?_
          refine c_seq [1, 1, 1, 1, 1, 1, 0, 0] [1, 1, 1, 1, 1, 1, 0, 1] (by kernel_rfl) ?_
          refine c_reg 12 accountBack_c_R12 (by kernel_rfl) ?_
          refine at_pures 2 (by kernel_rfl) (by kernel_rfl) ?_
          refine at_split (((accE s : Nat) : Int) != (0 : Int)) (by kernel_rfl) (by kernel_rfl) (fun c687_ => ?_) (fun c687_ => ?_)
          · -- yes
            replace c687_ : ((accE s : Nat) : Int) ≠ (0 : Int) := by simpa using c687_
            refine at_pures 6 (by kernel_rfl) (by kernel_rfl) ?_
            refine at_done (by kernel_rfl) ?_
            refine then_n ?_
            refine c_then (.tmp 73) [1, 1, 1, 1, 1, 1, 0, 1, 0] [1, 1, 1, 1, 1, 1, 0, 1, 1] (by kernel_rfl) (by kernel_rfl) ?_
            refine c_seq [1, 1, 1, 1, 1, 1, 0, 1, 0, 0] [1, 1, 1, 1, 1, 1, 0, 1, 0, 1] (by kernel_rfl) ?_
            refine c_reg 13 accountBack_c_R13 (by kernel_rfl) ?_
            refine at_pures 2 (by kernel_rfl) (by kernel_rfl) ?_
            refine at_loadN 60 (.tmp 3) b1_ 0 3 _ _ _ #[(.string s), (.int .u64 (bal : Int)), (.int .u32 (non : Int))] (by kernel_rfl) (by kernel_rfl) (by kernel_rfl) (by kernel_rfl) (by kernel_rfl) h675_ (by kernel_rfl) (by kernel_rfl) ?_
            refine at_do (by kernel_rfl) (op_call 36 #[(.tmp 76)] #[(.agg #[(.string s), (.int .u64 (bal : Int)), (.int .u32 (non : Int))])] (by kernel_rfl) (by kernel_rfl) (by kernel_rfl) ?_)
            have C692_ := aright_c s bal non w660_   
            refine Calls.mono C692_ ?_
            rintro e691_ w689_ ⟨rfl, F690_⟩
            have T693_ := Fr.tr T671_ F690_
            have h694_ := Rd.keep' h672_ F690_ Dis.n0
            have h695_ := Rd.keep' h673_ F690_ Dis.n0
            have h696_ := Rd.keep' h674_ F690_ Dis.n0
            have h697_ := Fr.keep F690_ h675_ Dis.n0
            have h698_ := Fr.keep F690_ h676_ Dis.n0
            have h699_ := Fr.keep F690_ h677_ Dis.n0
            have h700_ := Row.keep h678_ F690_ Dis.n0
            have h701_ := Row.keep h657_ F690_ Dis.n0
            refine ⟨_, rfl, ?_⟩
            refine at_as (.bool ((((accE s : Nat) : Int) == (0 : Int)) == (rightS s))) (.bool true) (by kernel_rfl) (by kernel_rfl) (congrArg Value.bool (acc_iff _)) ?_
            refine at_pures 8 (by kernel_rfl) (by kernel_rfl) ?_
            refine at_loadN 60 (.tmp 4) b11_ 0 3 _ _ _ #[(.string t), (.int .u64 (bam : Int)), (.int .u32 (nom : Int))] (by kernel_rfl) (by kernel_rfl) (by kernel_rfl) (by kernel_rfl) (by kernel_rfl) h698_ (by kernel_rfl) (by kernel_rfl) ?_
            refine at_do (by kernel_rfl) (op_call 36 #[(.tmp 82)] #[(.agg #[(.string t), (.int .u64 (bam : Int)), (.int .u32 (nom : Int))])] (by kernel_rfl) (by kernel_rfl) (by kernel_rfl) ?_)
            have C706_ := aright_c t bam nom w689_   
            refine Calls.mono C706_ ?_
            rintro e705_ w703_ ⟨rfl, F704_⟩
            have T707_ := Fr.tr T693_ F704_
            have h708_ := Rd.keep' h694_ F704_ Dis.n0
            have h709_ := Rd.keep' h695_ F704_ Dis.n0
            have h710_ := Rd.keep' h696_ F704_ Dis.n0
            have h711_ := Fr.keep F704_ h697_ Dis.n0
            have h712_ := Fr.keep F704_ h698_ Dis.n0
            have h713_ := Fr.keep F704_ h699_ Dis.n0
            have h714_ := Row.keep h700_ F704_ Dis.n0
            have h715_ := Row.keep h701_ F704_ Dis.n0
            refine ⟨_, rfl, ?_⟩
            refine at_as (.bool ((((accE t : Nat) : Int) == (0 : Int)) == (rightS t))) (.bool true) (by kernel_rfl) (by kernel_rfl) (congrArg Value.bool (acc_iff _)) ?_
            refine at_pures 13 (by kernel_rfl) (by kernel_rfl) ?_
            refine at_done (by kernel_rfl) ?_
            refine then_n ?_
            refine c_ret (by kernel_rfl) ?_
            refine then_r ?_
            refine fin_ret (.bool true) (by kernel_rfl) (by kernel_rfl) ?_
            exact ⟨rfl, T707_⟩
          · -- no
            replace c687_ : ((accE s : Nat) : Int) = (0 : Int) := by simpa using c687_
            refine at_pures 6 (by kernel_rfl) (by kernel_rfl) ?_
            refine at_done (by kernel_rfl) ?_
            refine then_n ?_
            refine c_if (.tmp 73) (((accE t : Nat) : Int) != (0 : Int)) [1, 1, 1, 1, 1, 1, 0, 1, 0] [1, 1, 1, 1, 1, 1, 0, 1, 1] (by kernel_rfl) (by kernel_rfl) (fun c716_ => ?_) (fun c716_ => ?_)
            · -- yes
              replace c716_ : ((accE t : Nat) : Int) ≠ (0 : Int) := by simpa using c716_
              refine c_seq [1, 1, 1, 1, 1, 1, 0, 1, 0, 0] [1, 1, 1, 1, 1, 1, 0, 1, 0, 1] (by kernel_rfl) ?_
              refine c_reg 13 accountBack_c_R13 (by kernel_rfl) ?_
              refine at_pures 2 (by kernel_rfl) (by kernel_rfl) ?_
              refine at_loadN 60 (.tmp 3) b1_ 0 3 _ _ _ #[(.string s), (.int .u64 (bal : Int)), (.int .u32 (non : Int))] (by kernel_rfl) (by kernel_rfl) (by kernel_rfl) (by kernel_rfl) (by kernel_rfl) h675_ (by kernel_rfl) (by kernel_rfl) ?_
              refine at_do (by kernel_rfl) (op_call 36 #[(.tmp 76)] #[(.agg #[(.string s), (.int .u64 (bal : Int)), (.int .u32 (non : Int))])] (by kernel_rfl) (by kernel_rfl) (by kernel_rfl) ?_)
              have C721_ := aright_c s bal non w660_   
              refine Calls.mono C721_ ?_
              rintro e720_ w718_ ⟨rfl, F719_⟩
              have T722_ := Fr.tr T671_ F719_
              have h723_ := Rd.keep' h672_ F719_ Dis.n0
              have h724_ := Rd.keep' h673_ F719_ Dis.n0
              have h725_ := Rd.keep' h674_ F719_ Dis.n0
              have h726_ := Fr.keep F719_ h675_ Dis.n0
              have h727_ := Fr.keep F719_ h676_ Dis.n0
              have h728_ := Fr.keep F719_ h677_ Dis.n0
              have h729_ := Row.keep h678_ F719_ Dis.n0
              have h730_ := Row.keep h657_ F719_ Dis.n0
              refine ⟨_, rfl, ?_⟩
              refine at_as (.bool ((((accE s : Nat) : Int) == (0 : Int)) == (rightS s))) (.bool true) (by kernel_rfl) (by kernel_rfl) (congrArg Value.bool (acc_iff _)) ?_
              refine at_pures 8 (by kernel_rfl) (by kernel_rfl) ?_
              refine at_loadN 60 (.tmp 4) b11_ 0 3 _ _ _ #[(.string t), (.int .u64 (bam : Int)), (.int .u32 (nom : Int))] (by kernel_rfl) (by kernel_rfl) (by kernel_rfl) (by kernel_rfl) (by kernel_rfl) h727_ (by kernel_rfl) (by kernel_rfl) ?_
              refine at_do (by kernel_rfl) (op_call 36 #[(.tmp 82)] #[(.agg #[(.string t), (.int .u64 (bam : Int)), (.int .u32 (nom : Int))])] (by kernel_rfl) (by kernel_rfl) (by kernel_rfl) ?_)
              have C735_ := aright_c t bam nom w718_   
              refine Calls.mono C735_ ?_
              rintro e734_ w732_ ⟨rfl, F733_⟩
              have T736_ := Fr.tr T722_ F733_
              have h737_ := Rd.keep' h723_ F733_ Dis.n0
              have h738_ := Rd.keep' h724_ F733_ Dis.n0
              have h739_ := Rd.keep' h725_ F733_ Dis.n0
              have h740_ := Fr.keep F733_ h726_ Dis.n0
              have h741_ := Fr.keep F733_ h727_ Dis.n0
              have h742_ := Fr.keep F733_ h728_ Dis.n0
              have h743_ := Row.keep h729_ F733_ Dis.n0
              have h744_ := Row.keep h730_ F733_ Dis.n0
              refine ⟨_, rfl, ?_⟩
              refine at_as (.bool ((((accE t : Nat) : Int) == (0 : Int)) == (rightS t))) (.bool true) (by kernel_rfl) (by kernel_rfl) (congrArg Value.bool (acc_iff _)) ?_
              refine at_pures 13 (by kernel_rfl) (by kernel_rfl) ?_
              refine at_done (by kernel_rfl) ?_
              refine then_n ?_
              refine c_ret (by kernel_rfl) ?_
              refine then_r ?_
              refine fin_ret (.bool true) (by kernel_rfl) (by kernel_rfl) ?_
              exact ⟨rfl, T736_⟩
            · -- no
              replace c716_ : ((accE t : Nat) : Int) = (0 : Int) := by simpa using c716_
              refine c_skip (by kernel_rfl) ?_
              refine then_n ?_
              refine c_seq [1, 1, 1, 1, 1, 1, 1, 0] [1, 1, 1, 1, 1, 1, 1, 1] (by kernel_rfl) ?_
              refine c_reg 14 accountBack_c_R14 (by kernel_rfl) ?_
              refine at_pures 1 (by kernel_rfl) (by kernel_rfl) ?_
              refine at_do (by kernel_rfl) (op_call 34 #[(.tmp 87)] #[(.slice ao650_ ((accB s bal non).length) cap651_)] (by kernel_rfl) (by kernel_rfl) (by kernel_rfl) ?_)
              have C749_ := aread_c (.slice ao650_ ((accB s bal non).length) cap651_) (accB s bal non) w660_ (Row.sl h678_)  (by first | with_reducible assumption | omega | exact accB_byt _ _ _ | exact (accB_byt _ _ _).take _ | exact (Byt.nil.cat (accB_byt _ _ _)).cat (Byt.all (by kernel_rfl)) | exact Nat.le_trans accB_len (by omega) | (simp only [List.length_append, List.length_nil, List.length_cons]; omega)) (by first | with_reducible assumption | omega | exact accB_byt _ _ _ | exact (accB_byt _ _ _).take _ | exact (Byt.nil.cat (accB_byt _ _ _)).cat (Byt.all (by kernel_rfl)) | exact Nat.le_trans accB_len (by omega) | (simp only [List.length_append, List.length_nil, List.length_cons]; omega))
              refine Calls.mono C749_ ?_
              rintro e748_ w746_ ⟨rfl, F747_⟩
              have T750_ := Fr.tr T671_ F747_
              have h751_ := Rd.keep' h672_ F747_ Dis.n0
              have h752_ := Rd.keep' h673_ F747_ Dis.n0
              have h753_ := Rd.keep' h674_ F747_ Dis.n0
              have h754_ := Fr.keep F747_ h675_ Dis.n0
              have h755_ := Fr.keep F747_ h676_ Dis.n0
              have h756_ := Fr.keep F747_ h677_ Dis.n0
              have h757_ := Row.keep h678_ F747_ Dis.n0
              have h758_ := Row.keep h657_ F747_ Dis.n0
              refine ⟨(.tuple #[(.agg #[(.string s), (.int .u64 (bal : Int)), (.int .u32 (non : Int))]), (.int .i64 0)]), (by rw [(acc_read (accE_eq (s := s) (by assumption)) hbal hnon).1, (acc_read (accE_eq (s := s) (by assumption)) hbal hnon).2]; rfl), ?_⟩
              refine at_pures 5 (by kernel_rfl) (by kernel_rfl) ?_
              refine at_do (by kernel_rfl) (op_new (.cells #[(.string (⟨#[]⟩ : ByteArray)), (.int .u64 0), (.int .u32 0)] 60) (fun N => (.pointer (some ⟨N, 0, none⟩))) (fun _ => by kernel_rfl) (fun w760_ b759_ h761_ q762_ F763_ => ?_))
              have d764_ : Dis (One b759_) (Ar bo (B bl)) := Dis.fresh (New.one q762_) (Rd.in h751_)
              have d765_ : Dis (One b759_) (Ar (some ⟨0, 0, none⟩) ((hw KL).toList)) := Dis.fresh (New.one q762_) (Rd.in h752_)
              have d766_ : Dis (One b759_) (Ar (some ⟨1, 0, none⟩) ((hw KL).toList)) := Dis.fresh (New.one q762_) (Rd.in h753_)
              have d767_ : Dis (One b759_) (One b1_) := Dis.fresh (New.one q762_) (In.one h754_)
              have d768_ : Dis (One b759_) (One b11_) := Dis.fresh (New.one q762_) (In.one h755_)
              have d769_ : Dis (One b759_) (One b54_) := Dis.fresh (New.one q762_) (In.one h756_)
              have d770_ : Dis (One b759_) (Own (.slice ao650_ ((accB s bal non).length) cap651_)) := Dis.fresh (New.one q762_) (Row.in h757_)
              have d771_ : Dis (One b759_) (Own (.slice ao681_ ((accB t bam nom).length) cap682_)) := Dis.fresh (New.one q762_) (Row.in h758_)
              have N772_ : New w N0 (One b759_) := New.made q762_ (Fr.size T750_)
              have T773_ := Fr.tr T750_ F763_
              have h774_ := Rd.keep' h751_ F763_ Dis.n0
              have h775_ := Rd.keep' h752_ F763_ Dis.n0
              have h776_ := Rd.keep' h753_ F763_ Dis.n0
              have h777_ := Fr.keep F763_ h754_ Dis.n0
              have h778_ := Fr.keep F763_ h755_ Dis.n0
              have h779_ := Fr.keep F763_ h756_ Dis.n0
              have h780_ := Row.keep h757_ F763_ Dis.n0
              have h781_ := Row.keep h758_ F763_ Dis.n0
              refine at_do (by kernel_rfl) (op_store 60 (.tmp 15) (.tmp 89) b759_ 0 (.agg #[(.string s), (.int .u64 (bal : Int)), (.int .u32 (non : Int))]) _ _ #[(.string s), (.int .u64 (bal : Int)), (.int .u32 (non : Int))] (by kernel_rfl) (by kernel_rfl) (by kernel_rfl) h761_ (by kernel_rfl) (by kernel_rfl) (by kernel_rfl) (by kernel_rfl) (fun w782_ h783_ z784_ F785_ => ?_))
              have T786_ := Fr.then T773_ F785_ N772_
              have h787_ := Rd.keep' h774_ F785_ (Dis.sym d764_)
              have h788_ := Rd.keep' h775_ F785_ (Dis.sym d765_)
              have h789_ := Rd.keep' h776_ F785_ (Dis.sym d766_)
              have h790_ := Fr.keep F785_ h777_ (Dis.sym d767_)
              have h791_ := Fr.keep F785_ h778_ (Dis.sym d768_)
              have h792_ := Fr.keep F785_ h779_ (Dis.sym d769_)
              have h793_ := Row.keep h780_ F785_ (Dis.sym d770_)
              have h794_ := Row.keep h781_ F785_ (Dis.sym d771_)
              refine at_pures 8 (by kernel_rfl) (by kernel_rfl) ?_
              refine at_done (by kernel_rfl) ?_
              refine then_n ?_
              refine c_seq [1, 1, 1, 1, 1, 1, 1, 1, 0] [1, 1, 1, 1, 1, 1, 1, 1, 1] (by kernel_rfl) ?_
              refine c_reg 15 accountBack_c_R15 (by kernel_rfl) ?_
              refine at_pures 3 (by kernel_rfl) (by kernel_rfl) ?_
              have hXp := accL_length (s := s) (bal := bal) (non := non) (accE_eq (s := s) (by assumption))
              refine at_int (kd := .i64) (IntKind.i64.wrap (((accB s bal non).length : Int) - (1 : Int))) ((((accB s bal non).length - 1 : Nat) : Int)) (by kernel_rfl) (by kernel_rfl) (by rw [wrapN_i64 (by omega) (by omega)]; omega) ?_
              have h795_ : Rd w782_ (cutA ao650_ 0 cap651_ 1) (B (((accB s bal non).drop 0).take ((accB s bal non).length - 1 : Nat))) := Rd.cutB (Row.rd h793_) 0 ((accB s bal non).length - 1 : Nat) cap651_ (by omega)
              have hcl797_ : (((accB s bal non).drop 0).take ((accB s bal non).length - 1 : Nat)).length = ((accB s bal non).length - 1 : Nat) := by rw [List.length_take, List.length_drop]; omega
              refine at_run (.slice (cutA ao650_ 0 cap651_ 1) ((((accB s bal non).drop 0).take ((accB s bal non).length - 1 : Nat)).length) cap651_) _ (by kernel_rfl) (by rw [hcl797_]; exact run_cut 22 (.tmp 92) none (some (.tmp 95)) none 1 ao650_ ((accB s bal non).length) cap651_ 0 ((accB s bal non).length - 1 : Nat) cap651_ (by kernel_rfl) (by kernel_rfl) (by kernel_rfl) (by kernel_rfl) (by kernel_rfl) (by kernel_rfl) (by kernel_rfl) (by kernel_rfl) (by omega) (by omega) (by omega)) ?_
              refine at_do (by kernel_rfl) (op_call 34 #[(.tmp 96)] #[(.slice (cutA ao650_ 0 cap651_ 1) ((((accB s bal non).drop 0).take ((accB s bal non).length - 1 : Nat)).length) cap651_)] (by kernel_rfl) (by kernel_rfl) (by kernel_rfl) ?_)
              have C802_ := aread_c (.slice (cutA ao650_ 0 cap651_ 1) ((((accB s bal non).drop 0).take ((accB s bal non).length - 1 : Nat)).length) cap651_) (((accB s bal non).drop 0).take ((accB s bal non).length - 1 : Nat)) w782_ ⟨_, _, rfl, h795_⟩  (by first | with_reducible assumption | omega | exact accB_byt _ _ _ | exact (accB_byt _ _ _).take _ | exact (Byt.nil.cat (accB_byt _ _ _)).cat (Byt.all (by kernel_rfl)) | exact Nat.le_trans accB_len (by omega) | (simp only [List.length_append, List.length_nil, List.length_cons]; omega)) (by first | with_reducible assumption | omega | exact accB_byt _ _ _ | exact (accB_byt _ _ _).take _ | exact (Byt.nil.cat (accB_byt _ _ _)).cat (Byt.all (by kernel_rfl)) | exact Nat.le_trans accB_len (by omega) | (simp only [List.length_append, List.length_nil, List.length_cons]; omega))
              refine Calls.mono C802_ ?_
              rintro e801_ w799_ ⟨rfl, F800_⟩
              have T803_ := Fr.tr T786_ F800_
              have h804_ := Rd.keep' h787_ F800_ Dis.n0
              have h805_ := Rd.keep' h788_ F800_ Dis.n0
              have h806_ := Rd.keep' h789_ F800_ Dis.n0
              have h807_ := Fr.keep F800_ h790_ Dis.n0
              have h808_ := Fr.keep F800_ h791_ Dis.n0
              have h809_ := Fr.keep F800_ h792_ Dis.n0
              have h810_ := Row.keep h793_ F800_ Dis.n0
              have h811_ := Row.keep h794_ F800_ Dis.n0
              have h812_ := Fr.keep F800_ h783_ Dis.n0
              have h813_ := Rd.keep' h795_ F800_ Dis.n0
              refine ⟨(.tuple #[(.agg #[(.string ((accRd (((accB s bal non).drop 0).take ((accB s bal non).length - 1 : Nat))).s)), (.int .u64 ((accRd (((accB s bal non).drop 0).take ((accB s bal non).length - 1 : Nat))).bal : Int)), (.int .u32 ((accRd (((accB s bal non).drop 0).take ((accB s bal non).length - 1 : Nat))).non : Int))]), (.int .i64 3)]), (by rw [acc_short (accE_eq (s := s) (by assumption))]; rfl), ?_⟩
              refine at_pures 9 (by kernel_rfl) (by kernel_rfl) ?_
              refine at_do (by kernel_rfl) (op_new (.cells #[(.string (⟨#[]⟩ : ByteArray)), (.int .u64 0), (.int .u32 0)] 60) (fun N => (.pointer (some ⟨N, 0, none⟩))) (fun _ => by kernel_rfl) (fun w815_ b814_ h816_ q817_ F818_ => ?_))
              have d819_ : Dis (One b814_) (Ar bo (B bl)) := Dis.fresh (New.one q817_) (Rd.in h804_)
              have d820_ : Dis (One b814_) (Ar (some ⟨0, 0, none⟩) ((hw KL).toList)) := Dis.fresh (New.one q817_) (Rd.in h805_)
              have d821_ : Dis (One b814_) (Ar (some ⟨1, 0, none⟩) ((hw KL).toList)) := Dis.fresh (New.one q817_) (Rd.in h806_)
              have d822_ : Dis (One b814_) (One b1_) := Dis.fresh (New.one q817_) (In.one h807_)
              have d823_ : Dis (One b814_) (One b11_) := Dis.fresh (New.one q817_) (In.one h808_)
              have d824_ : Dis (One b814_) (One b54_) := Dis.fresh (New.one q817_) (In.one h809_)
              have d825_ : Dis (One b814_) (Own (.slice ao650_ ((accB s bal non).length) cap651_)) := Dis.fresh (New.one q817_) (Row.in h810_)
              have d826_ : Dis (One b814_) (Own (.slice ao681_ ((accB t bam nom).length) cap682_)) := Dis.fresh (New.one q817_) (Row.in h811_)
              have d827_ : Dis (One b814_) (One b759_) := Dis.fresh (New.one q817_) (In.one h812_)
              have d828_ : Dis (One b814_) (Ar (cutA ao650_ 0 cap651_ 1) (B (((accB s bal non).drop 0).take ((accB s bal non).length - 1 : Nat)))) := Dis.fresh (New.one q817_) (Rd.in h813_)
              have N829_ : New w N0 (One b814_) := New.made q817_ (Fr.size T803_)
              have T830_ := Fr.tr T803_ F818_
              have h831_ := Rd.keep' h804_ F818_ Dis.n0
              have h832_ := Rd.keep' h805_ F818_ Dis.n0
              have h833_ := Rd.keep' h806_ F818_ Dis.n0
              have h834_ := Fr.keep F818_ h807_ Dis.n0
              have h835_ := Fr.keep F818_ h808_ Dis.n0
              have h836_ := Fr.keep F818_ h809_ Dis.n0
              have h837_ := Row.keep h810_ F818_ Dis.n0
              have h838_ := Row.keep h811_ F818_ Dis.n0
              have h839_ := Fr.keep F818_ h812_ Dis.n0
              have h840_ := Rd.keep' h813_ F818_ Dis.n0
              refine at_do (by kernel_rfl) (op_store 60 (.tmp 17) (.tmp 98) b814_ 0 (.agg #[(.string ((accRd (((accB s bal non).drop 0).take ((accB s bal non).length - 1 : Nat))).s)), (.int .u64 ((accRd (((accB s bal non).drop 0).take ((accB s bal non).length - 1 : Nat))).bal : Int)), (.int .u32 ((accRd (((accB s bal non).drop 0).take ((accB s bal non).length - 1 : Nat))).non : Int))]) _ _ #[(.string ((accRd (((accB s bal non).drop 0).take ((accB s bal non).length - 1 : Nat))).s)), (.int .u64 ((accRd (((accB s bal non).drop 0).take ((accB s bal non).length - 1 : Nat))).bal : Int)), (.int .u32 ((accRd (((accB s bal non).drop 0).take ((accB s bal non).length - 1 : Nat))).non : Int))] (by kernel_rfl) (by kernel_rfl) (by kernel_rfl) h816_ (by kernel_rfl) (by kernel_rfl) (by kernel_rfl) (by kernel_rfl) (fun w841_ h842_ z843_ F844_ => ?_))
              have T845_ := Fr.then T830_ F844_ N829_
              have h846_ := Rd.keep' h831_ F844_ (Dis.sym d819_)
              have h847_ := Rd.keep' h832_ F844_ (Dis.sym d820_)
              have h848_ := Rd.keep' h833_ F844_ (Dis.sym d821_)
              have h849_ := Fr.keep F844_ h834_ (Dis.sym d822_)
              have h850_ := Fr.keep F844_ h835_ (Dis.sym d823_)
              have h851_ := Fr.keep F844_ h836_ (Dis.sym d824_)
              have h852_ := Row.keep h837_ F844_ (Dis.sym d825_)
              have h853_ := Row.keep h838_ F844_ (Dis.sym d826_)
              have h854_ := Fr.keep F844_ h839_ (Dis.sym d827_)
              have h855_ := Rd.keep' h840_ F844_ (Dis.sym d828_)
              refine at_pures 12 (by kernel_rfl) (by kernel_rfl) ?_
              refine at_done (by kernel_rfl) ?_
              refine then_n ?_
              refine c_seq [1, 1, 1, 1, 1, 1, 1, 1, 1, 0] [1, 1, 1, 1, 1, 1, 1, 1, 1, 1] (by kernel_rfl) ?_
              refine c_reg 16 accountBack_c_R16 (by kernel_rfl) ?_
              refine at_do (by kernel_rfl) (op_new (.cells #[] 5) (fun N => (.slice (some ⟨N, 0, none⟩) 0 0)) (fun _ => by kernel_rfl) (fun w857_ b856_ h858_ q859_ F860_ => ?_))
              have d861_ : Dis (One b856_) (Ar bo (B bl)) := Dis.fresh (New.one q859_) (Rd.in h846_)
              have d862_ : Dis (One b856_) (Ar (some ⟨0, 0, none⟩) ((hw KL).toList)) := Dis.fresh (New.one q859_) (Rd.in h847_)
              have d863_ : Dis (One b856_) (Ar (some ⟨1, 0, none⟩) ((hw KL).toList)) := Dis.fresh (New.one q859_) (Rd.in h848_)
              have d864_ : Dis (One b856_) (One b1_) := Dis.fresh (New.one q859_) (In.one h849_)
              have d865_ : Dis (One b856_) (One b11_) := Dis.fresh (New.one q859_) (In.one h850_)
              have d866_ : Dis (One b856_) (One b54_) := Dis.fresh (New.one q859_) (In.one h851_)
              have d867_ : Dis (One b856_) (Own (.slice ao650_ ((accB s bal non).length) cap651_)) := Dis.fresh (New.one q859_) (Row.in h852_)
              have d868_ : Dis (One b856_) (Own (.slice ao681_ ((accB t bam nom).length) cap682_)) := Dis.fresh (New.one q859_) (Row.in h853_)
              have d869_ : Dis (One b856_) (One b759_) := Dis.fresh (New.one q859_) (In.one h854_)
              have d870_ : Dis (One b856_) (Ar (cutA ao650_ 0 cap651_ 1) (B (((accB s bal non).drop 0).take ((accB s bal non).length - 1 : Nat)))) := Dis.fresh (New.one q859_) (Rd.in h855_)
              have d871_ : Dis (One b856_) (One b814_) := Dis.fresh (New.one q859_) (In.one h842_)
              have N872_ : New w N0 (One b856_) := New.made q859_ (Fr.size T845_)
              have T873_ := Fr.tr T845_ F860_
              refine at_pures 2 (by kernel_rfl) (by kernel_rfl) ?_
              have h874_ := Rd.keep' h846_ F860_ Dis.n0
              have h875_ := Rd.keep' h847_ F860_ Dis.n0
              have h876_ := Rd.keep' h848_ F860_ Dis.n0
              have h877_ := Fr.keep F860_ h849_ Dis.n0
              have h878_ := Fr.keep F860_ h850_ Dis.n0
              have h879_ := Fr.keep F860_ h851_ Dis.n0
              have h880_ := Row.keep h852_ F860_ Dis.n0
              have h881_ := Row.keep h853_ F860_ Dis.n0
              have h882_ := Fr.keep F860_ h854_ Dis.n0
              have h883_ := Rd.keep' h855_ F860_ Dis.n0
              have h884_ := Fr.keep F860_ h842_ Dis.n0
              have h885_ : Row w857_ 5 1 (.slice (some ⟨b856_, 0, none⟩) 0 0) 0 [] := Row.made' h858_ (by rfl) (by decide) (by decide) (by rfl)
              refine at_do (by kernel_rfl) (op_append (.tmp 101) (.tmp 102) 22 22 5 1 1 (.int .u8 0) (by kernel_rfl) (by kernel_rfl) (by rfl) (v := (.slice (some ⟨b856_, 0, none⟩) 0 0)) (by kernel_rfl) h885_ (xv := (.slice ao650_ ((accB s bal non).length) cap651_)) (m := (accB s bal non).length) (news := B (accB s bal non)) (by kernel_rfl) (Row.src (e' := 5) (by kernel_rfl) h880_ (by decide) B_one) (by first | (simp only [maxLen]; omega) | (simp only [maxLen, List.length_append, List.length_cons, List.length_nil, putB_length]; omega)) (by first | omega | (simp only [List.length_append, List.length_cons, List.length_nil, putB_length]; omega)) (fun v886_ w887_ h888_ F889_ s890_ => ?_))
              have T891_ := Fr.then T873_ F889_ (New.own N872_)
              have d892_ : Dis (Own v886_) (Ar bo (B bl)) := Dis.step (Dis.own d861_) s890_ (Rd.in h874_)
              have h893_ := Rd.keep' h874_ F889_ (Dis.sym (Dis.own d861_))
              have d894_ : Dis (Own v886_) (Ar (some ⟨0, 0, none⟩) ((hw KL).toList)) := Dis.step (Dis.own d862_) s890_ (Rd.in h875_)
              have h895_ := Rd.keep' h875_ F889_ (Dis.sym (Dis.own d862_))
              have d896_ : Dis (Own v886_) (Ar (some ⟨1, 0, none⟩) ((hw KL).toList)) := Dis.step (Dis.own d863_) s890_ (Rd.in h876_)
              have h897_ := Rd.keep' h876_ F889_ (Dis.sym (Dis.own d863_))
              have d898_ : Dis (Own v886_) (One b1_) := Dis.step (Dis.own d864_) s890_ (In.one h877_)
              have h899_ := Fr.keep F889_ h877_ (Dis.sym (Dis.own d864_))
              have d900_ : Dis (Own v886_) (One b11_) := Dis.step (Dis.own d865_) s890_ (In.one h878_)
              have h901_ := Fr.keep F889_ h878_ (Dis.sym (Dis.own d865_))
              have d902_ : Dis (Own v886_) (One b54_) := Dis.step (Dis.own d866_) s890_ (In.one h879_)
              have h903_ := Fr.keep F889_ h879_ (Dis.sym (Dis.own d866_))
              have d904_ : Dis (Own v886_) (Own (.slice ao650_ ((accB s bal non).length) cap651_)) := Dis.step (Dis.own d867_) s890_ (Row.in h880_)
              have h905_ := Row.keep h880_ F889_ (Dis.sym (Dis.own d867_))
              have d906_ : Dis (Own v886_) (Own (.slice ao681_ ((accB t bam nom).length) cap682_)) := Dis.step (Dis.own d868_) s890_ (Row.in h881_)
              have h907_ := Row.keep h881_ F889_ (Dis.sym (Dis.own d868_))
              have d908_ : Dis (Own v886_) (One b759_) := Dis.step (Dis.own d869_) s890_ (In.one h882_)
              have h909_ := Fr.keep F889_ h882_ (Dis.sym (Dis.own d869_))
              have d910_ : Dis (Own v886_) (Ar (cutA ao650_ 0 cap651_ 1) (B (((accB s bal non).drop 0).take ((accB s bal non).length - 1 : Nat)))) := Dis.step (Dis.own d870_) s890_ (Rd.in h883_)
              have h911_ := Rd.keep' h883_ F889_ (Dis.sym (Dis.own d870_))
              have d912_ : Dis (Own v886_) (One b814_) := Dis.step (Dis.own d871_) s890_ (In.one h884_)
              have h913_ := Fr.keep F889_ h884_ (Dis.sym (Dis.own d871_))
              have N914_ : New w N0 (Own v886_) := New.trans (New.own N872_) s890_ (Fr.size T873_)
              have h915_ : Row w887_ 5 1 v886_ ([] ++ (accB s bal non)).length (B ([] ++ (accB s bal non))) := Row.appB h888_ rfl
              obtain ⟨ao916_, cap917_, rfl, hc918_, hm919_, hR920_, ho921_⟩ := Row.read h915_
              refine at_do (by kernel_rfl) (op_new (.cells #[(.int .u8 0)] 5) (fun N => (.slice (some ⟨N, 0, none⟩) 1 1)) (fun _ => by kernel_rfl) (fun w923_ b922_ h924_ q925_ F926_ => ?_))
              have d927_ : Dis (One b922_) (Ar bo (B bl)) := Dis.fresh (New.one q925_) (Rd.in h893_)
              have d928_ : Dis (One b922_) (Ar (some ⟨0, 0, none⟩) ((hw KL).toList)) := Dis.fresh (New.one q925_) (Rd.in h895_)
              have d929_ : Dis (One b922_) (Ar (some ⟨1, 0, none⟩) ((hw KL).toList)) := Dis.fresh (New.one q925_) (Rd.in h897_)
              have d930_ : Dis (One b922_) (One b1_) := Dis.fresh (New.one q925_) (In.one h899_)
              have d931_ : Dis (One b922_) (One b11_) := Dis.fresh (New.one q925_) (In.one h901_)
              have d932_ : Dis (One b922_) (One b54_) := Dis.fresh (New.one q925_) (In.one h903_)
              have d933_ : Dis (One b922_) (Own (.slice ao650_ ((accB s bal non).length) cap651_)) := Dis.fresh (New.one q925_) (Row.in h905_)
              have d934_ : Dis (One b922_) (Own (.slice ao681_ ((accB t bam nom).length) cap682_)) := Dis.fresh (New.one q925_) (Row.in h907_)
              have d935_ : Dis (One b922_) (One b759_) := Dis.fresh (New.one q925_) (In.one h909_)
              have d936_ : Dis (One b922_) (Ar (cutA ao650_ 0 cap651_ 1) (B (((accB s bal non).drop 0).take ((accB s bal non).length - 1 : Nat)))) := Dis.fresh (New.one q925_) (Rd.in h911_)
              have d937_ : Dis (One b922_) (One b814_) := Dis.fresh (New.one q925_) (In.one h913_)
              have d938_ : Dis (One b922_) (Own (.slice ao916_ (([] ++ (accB s bal non)).length) cap917_)) := Dis.fresh (New.one q925_) (Row.in h915_)
              have N939_ : New w N0 (One b922_) := New.made q925_ (Fr.size T891_)
              have T940_ := Fr.tr T891_ F926_
              have h941_ := Rd.keep' h893_ F926_ Dis.n0
              have h942_ := Rd.keep' h895_ F926_ Dis.n0
              have h943_ := Rd.keep' h897_ F926_ Dis.n0
              have h944_ := Fr.keep F926_ h899_ Dis.n0
              have h945_ := Fr.keep F926_ h901_ Dis.n0
              have h946_ := Fr.keep F926_ h903_ Dis.n0
              have h947_ := Row.keep h905_ F926_ Dis.n0
              have h948_ := Row.keep h907_ F926_ Dis.n0
              have h949_ := Fr.keep F926_ h909_ Dis.n0
              have h950_ := Rd.keep' h911_ F926_ Dis.n0
              have h951_ := Fr.keep F926_ h913_ Dis.n0
              have h952_ := Row.keep h915_ F926_ Dis.n0
              refine at_do (by kernel_rfl) (op_append (.tmp 103) (.tmp 104) 22 22 5 1 1 (.int .u8 0) (by kernel_rfl) (by kernel_rfl) (by rfl) (v := (.slice ao916_ (([] ++ (accB s bal non)).length) cap917_)) (by kernel_rfl) h952_ (xv := (.slice (some ⟨b922_, 0, none⟩) 1 1)) (m := 1) (news := (#[(.int .u8 0)]).toList) (by kernel_rfl) (Rd.src (xs := (#[(.int .u8 0)]).toList) (size := 1) (e := 5) (by kernel_rfl) (Rd.of_cut h924_ 0 1 (by kernel_rfl)) (by kernel_rfl) (by decide) (ones (by kernel_rfl))) (by first | (simp only [maxLen]; omega) | (simp only [maxLen, List.length_append, List.length_cons, List.length_nil, putB_length]; omega)) (by first | omega | (simp only [List.length_append, List.length_cons, List.length_nil, putB_length]; omega)) (fun v953_ w954_ h955_ F956_ s957_ => ?_))
              have T958_ := Fr.then T940_ F956_ N914_
              have d959_ : Dis (Own v953_) (Ar bo (B bl)) := Dis.step d892_ s957_ (Rd.in h941_)
              have h960_ := Rd.keep' h941_ F956_ (Dis.sym d892_)
              have d961_ : Dis (Own v953_) (Ar (some ⟨0, 0, none⟩) ((hw KL).toList)) := Dis.step d894_ s957_ (Rd.in h942_)
              have h962_ := Rd.keep' h942_ F956_ (Dis.sym d894_)
              have d963_ : Dis (Own v953_) (Ar (some ⟨1, 0, none⟩) ((hw KL).toList)) := Dis.step d896_ s957_ (Rd.in h943_)
              have h964_ := Rd.keep' h943_ F956_ (Dis.sym d896_)
              have d965_ : Dis (Own v953_) (One b1_) := Dis.step d898_ s957_ (In.one h944_)
              have h966_ := Fr.keep F956_ h944_ (Dis.sym d898_)
              have d967_ : Dis (Own v953_) (One b11_) := Dis.step d900_ s957_ (In.one h945_)
              have h968_ := Fr.keep F956_ h945_ (Dis.sym d900_)
              have d969_ : Dis (Own v953_) (One b54_) := Dis.step d902_ s957_ (In.one h946_)
              have h970_ := Fr.keep F956_ h946_ (Dis.sym d902_)
              have d971_ : Dis (Own v953_) (Own (.slice ao650_ ((accB s bal non).length) cap651_)) := Dis.step d904_ s957_ (Row.in h947_)
              have h972_ := Row.keep h947_ F956_ (Dis.sym d904_)
              have d973_ : Dis (Own v953_) (Own (.slice ao681_ ((accB t bam nom).length) cap682_)) := Dis.step d906_ s957_ (Row.in h948_)
              have h974_ := Row.keep h948_ F956_ (Dis.sym d906_)
              have d975_ : Dis (Own v953_) (One b759_) := Dis.step d908_ s957_ (In.one h949_)
              have h976_ := Fr.keep F956_ h949_ (Dis.sym d908_)
              have d977_ : Dis (Own v953_) (Ar (cutA ao650_ 0 cap651_ 1) (B (((accB s bal non).drop 0).take ((accB s bal non).length - 1 : Nat)))) := Dis.step d910_ s957_ (Rd.in h950_)
              have h978_ := Rd.keep' h950_ F956_ (Dis.sym d910_)
              have d979_ : Dis (Own v953_) (One b814_) := Dis.step d912_ s957_ (In.one h951_)
              have h980_ := Fr.keep F956_ h951_ (Dis.sym d912_)
              have d981_ : Dis (Own v953_) (One b922_) := Dis.step (Dis.sym d938_) s957_ (In.one h924_)
              have h982_ := Fr.keep F956_ h924_ d938_
              have N983_ : New w N0 (Own v953_) := New.trans N914_ s957_ (Fr.size T940_)
              have h984_ : Row w954_ 5 1 v953_ ([] ++ (accB s bal non) ++ [0]).length (B ([] ++ (accB s bal non) ++ [0])) := Row.appB h955_ (by rfl)
              obtain ⟨ao985_, cap986_, rfl, hc987_, hm988_, hR989_, ho990_⟩ := Row.read h984_
              refine at_do (by kernel_rfl) (op_call 34 #[(.tmp 105)] #[(.slice ao985_ (([] ++ (accB s bal non) ++ [0]).length) cap986_)] (by kernel_rfl) (by kernel_rfl) (by kernel_rfl) ?_)
              have C995_ := aread_c (.slice ao985_ (([] ++ (accB s bal non) ++ [0]).length) cap986_) ([] ++ (accB s bal non) ++ [0]) w954_ (Row.sl h984_)  (by first | with_reducible assumption | omega | exact accB_byt _ _ _ | exact (accB_byt _ _ _).take _ | exact (Byt.nil.cat (accB_byt _ _ _)).cat (Byt.all (by kernel_rfl)) | exact Nat.le_trans accB_len (by omega) | (simp only [List.length_append, List.length_nil, List.length_cons]; omega)) (by first | with_reducible assumption | omega | exact accB_byt _ _ _ | exact (accB_byt _ _ _).take _ | exact (Byt.nil.cat (accB_byt _ _ _)).cat (Byt.all (by kernel_rfl)) | exact Nat.le_trans accB_len (by omega) | (simp only [List.length_append, List.length_nil, List.length_cons]; omega))
              refine Calls.mono C995_ ?_
              rintro e994_ w992_ ⟨rfl, F993_⟩
              have T996_ := Fr.tr T958_ F993_
              have h997_ := Rd.keep' h960_ F993_ Dis.n0
              have h998_ := Rd.keep' h962_ F993_ Dis.n0
              have h999_ := Rd.keep' h964_ F993_ Dis.n0
              have h1000_ := Fr.keep F993_ h966_ Dis.n0
              have h1001_ := Fr.keep F993_ h968_ Dis.n0
              have h1002_ := Fr.keep F993_ h970_ Dis.n0
              have h1003_ := Row.keep h972_ F993_ Dis.n0
              have h1004_ := Row.keep h974_ F993_ Dis.n0
              have h1005_ := Fr.keep F993_ h976_ Dis.n0
              have h1006_ := Rd.keep' h978_ F993_ Dis.n0
              have h1007_ := Fr.keep F993_ h980_ Dis.n0
              have h1008_ := Row.keep h984_ F993_ Dis.n0
              have h1009_ := Fr.keep F993_ h982_ Dis.n0
              refine ⟨(.tuple #[(.agg #[(.string ((accRd ([] ++ (accB s bal non) ++ [0])).s)), (.int .u64 ((accRd ([] ++ (accB s bal non) ++ [0])).bal : Int)), (.int .u32 ((accRd ([] ++ (accB s bal non) ++ [0])).non : Int))]), (.int .i64 4)]), (by rw [show [] ++ (accB s bal non) ++ [0] = (accB s bal non) ++ [0] from rfl, acc_long (accE_eq (s := s) (by assumption))]; rfl), ?_⟩
              refine at_pures 9 (by kernel_rfl) (by kernel_rfl) ?_
              refine at_do (by kernel_rfl) (op_new (.cells #[(.string (⟨#[]⟩ : ByteArray)), (.int .u64 0), (.int .u32 0)] 60) (fun N => (.pointer (some ⟨N, 0, none⟩))) (fun _ => by kernel_rfl) (fun w1011_ b1010_ h1012_ q1013_ F1014_ => ?_))
              have d1015_ : Dis (One b1010_) (Ar bo (B bl)) := Dis.fresh (New.one q1013_) (Rd.in h997_)
              have d1016_ : Dis (One b1010_) (Ar (some ⟨0, 0, none⟩) ((hw KL).toList)) := Dis.fresh (New.one q1013_) (Rd.in h998_)
              have d1017_ : Dis (One b1010_) (Ar (some ⟨1, 0, none⟩) ((hw KL).toList)) := Dis.fresh (New.one q1013_) (Rd.in h999_)
              have d1018_ : Dis (One b1010_) (One b1_) := Dis.fresh (New.one q1013_) (In.one h1000_)
              have d1019_ : Dis (One b1010_) (One b11_) := Dis.fresh (New.one q1013_) (In.one h1001_)
              have d1020_ : Dis (One b1010_) (One b54_) := Dis.fresh (New.one q1013_) (In.one h1002_)
              have d1021_ : Dis (One b1010_) (Own (.slice ao650_ ((accB s bal non).length) cap651_)) := Dis.fresh (New.one q1013_) (Row.in h1003_)
              have d1022_ : Dis (One b1010_) (Own (.slice ao681_ ((accB t bam nom).length) cap682_)) := Dis.fresh (New.one q1013_) (Row.in h1004_)
              have d1023_ : Dis (One b1010_) (One b759_) := Dis.fresh (New.one q1013_) (In.one h1005_)
              have d1024_ : Dis (One b1010_) (Ar (cutA ao650_ 0 cap651_ 1) (B (((accB s bal non).drop 0).take ((accB s bal non).length - 1 : Nat)))) := Dis.fresh (New.one q1013_) (Rd.in h1006_)
              have d1025_ : Dis (One b1010_) (One b814_) := Dis.fresh (New.one q1013_) (In.one h1007_)
              have d1026_ : Dis (One b1010_) (Own (.slice ao985_ (([] ++ (accB s bal non) ++ [0]).length) cap986_)) := Dis.fresh (New.one q1013_) (Row.in h1008_)
              have d1027_ : Dis (One b1010_) (One b922_) := Dis.fresh (New.one q1013_) (In.one h1009_)
              have N1028_ : New w N0 (One b1010_) := New.made q1013_ (Fr.size T996_)
              have T1029_ := Fr.tr T996_ F1014_
              have h1030_ := Rd.keep' h997_ F1014_ Dis.n0
              have h1031_ := Rd.keep' h998_ F1014_ Dis.n0
              have h1032_ := Rd.keep' h999_ F1014_ Dis.n0
              have h1033_ := Fr.keep F1014_ h1000_ Dis.n0
              have h1034_ := Fr.keep F1014_ h1001_ Dis.n0
              have h1035_ := Fr.keep F1014_ h1002_ Dis.n0
              have h1036_ := Row.keep h1003_ F1014_ Dis.n0
              have h1037_ := Row.keep h1004_ F1014_ Dis.n0
              have h1038_ := Fr.keep F1014_ h1005_ Dis.n0
              have h1039_ := Rd.keep' h1006_ F1014_ Dis.n0
              have h1040_ := Fr.keep F1014_ h1007_ Dis.n0
              have h1041_ := Row.keep h1008_ F1014_ Dis.n0
              have h1042_ := Fr.keep F1014_ h1009_ Dis.n0
              refine at_do (by kernel_rfl) (op_store 60 (.tmp 19) (.tmp 107) b1010_ 0 (.agg #[(.string ((accRd ([] ++ (accB s bal non) ++ [0])).s)), (.int .u64 ((accRd ([] ++ (accB s bal non) ++ [0])).bal : Int)), (.int .u32 ((accRd ([] ++ (accB s bal non) ++ [0])).non : Int))]) _ _ #[(.string ((accRd ([] ++ (accB s bal non) ++ [0])).s)), (.int .u64 ((accRd ([] ++ (accB s bal non) ++ [0])).bal : Int)), (.int .u32 ((accRd ([] ++ (accB s bal non) ++ [0])).non : Int))] (by kernel_rfl) (by kernel_rfl) (by kernel_rfl) h1012_ (by kernel_rfl) (by kernel_rfl) (by kernel_rfl) (by kernel_rfl) (fun w1043_ h1044_ z1045_ F1046_ => ?_))
              have T1047_ := Fr.then T1029_ F1046_ N1028_
              have h1048_ := Rd.keep' h1030_ F1046_ (Dis.sym d1015_)
              have h1049_ := Rd.keep' h1031_ F1046_ (Dis.sym d1016_)
              have h1050_ := Rd.keep' h1032_ F1046_ (Dis.sym d1017_)
              have h1051_ := Fr.keep F1046_ h1033_ (Dis.sym d1018_)
              have h1052_ := Fr.keep F1046_ h1034_ (Dis.sym d1019_)
              have h1053_ := Fr.keep F1046_ h1035_ (Dis.sym d1020_)
              have h1054_ := Row.keep h1036_ F1046_ (Dis.sym d1021_)
              have h1055_ := Row.keep h1037_ F1046_ (Dis.sym d1022_)
              have h1056_ := Fr.keep F1046_ h1038_ (Dis.sym d1023_)
              have h1057_ := Rd.keep' h1039_ F1046_ (Dis.sym d1024_)
              have h1058_ := Fr.keep F1046_ h1040_ (Dis.sym d1025_)
              have h1059_ := Row.keep h1041_ F1046_ (Dis.sym d1026_)
              have h1060_ := Fr.keep F1046_ h1042_ (Dis.sym d1027_)
              refine at_pures 12 (by kernel_rfl) (by kernel_rfl) ?_
              refine at_done (by kernel_rfl) ?_
              refine then_n ?_
              refine c_seq [1, 1, 1, 1, 1, 1, 1, 1, 1, 1, 0] [1, 1, 1, 1, 1, 1, 1, 1, 1, 1, 1] (by kernel_rfl) ?_
              refine c_plan 17 accountBack_c_R17 (fun w' => w'.heap[b1_]? = some (.cells #[(.string s), (.int .u64 (bal : Int)), (.int .u32 (non : Int))] 60 (0, 0)) ∧ w'.heap[b11_]? = some (.cells #[(.string t), (.int .u64 (bam : Int)), (.int .u32 (nom : Int))] 60 (0, 0)) ∧ w'.heap[b759_]? = some (.cells #[(.string s), (.int .u64 (bal : Int)), (.int .u32 (non : Int))] 60 (0, 0)) ∧ True) accountBack_c_sk17 accountBack_c_pl17 (by kernel_rfl) (by kernel_rfl) (by kernel_rfl) (by kernel_rfl) (by kernel_rfl) (fun w1061_ F1062_ => ?_)
              have T1063_ := Fr.tr T1047_ F1062_
              have h1065_ := Fr.keep F1062_ h1051_ Dis.n0
              have h1066_ := Fr.keep F1062_ h1052_ Dis.n0
              have h1067_ := Fr.keep F1062_ h1056_ Dis.n0
              have S1064_ : w1061_.heap[b1_]? = some (.cells #[(.string s), (.int .u64 (bal : Int)), (.int .u32 (non : Int))] 60 (0, 0)) ∧ w1061_.heap[b11_]? = some (.cells #[(.string t), (.int .u64 (bam : Int)), (.int .u32 (nom : Int))] 60 (0, 0)) ∧ w1061_.heap[b759_]? = some (.cells #[(.string s), (.int .u64 (bal : Int)), (.int .u32 (non : Int))] 60 (0, 0)) ∧ True := ⟨h1065_, h1066_, h1067_, trivial⟩
              refine pl_pures 2 (by kernel_rfl) (by kernel_rfl) (off (by kernel_rfl)) ?_
              refine pl_read 3 (.agg #[(.string s), (.int .u64 (bal : Int)), (.int .u32 (non : Int))]) (by kernel_rfl) (by kernel_rfl) (fun w' hs => run_loadN 60 (.tmp 3) b1_ 0 3 _ _ _ #[(.string s), (.int .u64 (bal : Int)), (.int .u32 (non : Int))] (by kernel_rfl) (by kernel_rfl) (by kernel_rfl) (by kernel_rfl) hs.1 (by kernel_rfl) (by kernel_rfl)) S1064_ ?_
              refine pl_read 4 (.agg #[(.string t), (.int .u64 (bam : Int)), (.int .u32 (nom : Int))]) (by kernel_rfl) (by kernel_rfl) (fun w' hs => run_loadN 60 (.tmp 4) b11_ 0 3 _ _ _ #[(.string t), (.int .u64 (bam : Int)), (.int .u32 (nom : Int))] (by kernel_rfl) (by kernel_rfl) (by kernel_rfl) (by kernel_rfl) hs.2.1 (by kernel_rfl) (by kernel_rfl)) S1064_ ?_
              refine pl_quiet 5 (.bool (decide ((accB s bal non) = (accB t bam nom)))) (by kernel_rfl) (by kernel_rfl) (fun w' => run_eqd_dec true 9995 5 60 (.tmp 112) (.tmp 113) #[(.string s), (.int .u64 (bal : Int)), (.int .u32 (non : Int))] #[(.string t), (.int .u64 (bam : Int)), (.int .u32 (nom : Int))] ((accB s bal non) = (accB t bam nom)) rfl (by kernel_rfl) (by kernel_rfl) (by kernel_rfl) (by kernel_rfl) (by kernel_rfl) (by kernel_rfl) (by kernel_rfl) (by kernel_rfl) (by kernel_rfl) (by kernel_rfl) (Acct.wf (a := ⟨s, bal, non⟩) ⟨hs, hbal, hnon⟩) (Acct.wf (a := ⟨t, bam, nom⟩) ⟨ht, hbam, hnom⟩) (Acct.eq_iff.trans (acc_inj (accE_eq (s := s) (by assumption)) (accE_eq (s := t) (by assumption)) hbal hnon hbam hnom))) (off (by kernel_rfl)) ?_
              have h1068_ := Rd.keep' h1048_ F1062_ Dis.n0
              have h1069_ := Rd.keep' h1049_ F1062_ Dis.n0
              have h1070_ := Rd.keep' h1050_ F1062_ Dis.n0
              have h1071_ := Fr.keep F1062_ h1053_ Dis.n0
              have h1072_ := Row.keep h1054_ F1062_ Dis.n0
              have h1073_ := Row.keep h1055_ F1062_ Dis.n0
              have h1074_ := Rd.keep' h1057_ F1062_ Dis.n0
              have h1075_ := Fr.keep F1062_ h1058_ Dis.n0
              have h1076_ := Row.keep h1059_ F1062_ Dis.n0
              have h1077_ := Fr.keep F1062_ h1060_ Dis.n0
              have h1078_ := Fr.keep F1062_ h1044_ Dis.n0
              refine pl_do 2 (by kernel_rfl) (by kernel_rfl) (op_call 23 #[(.tmp 109), (.tmp 110)] #[(.slice ao650_ ((accB s bal non).length) cap651_), (.slice ao681_ ((accB t bam nom).length) cap682_)] (by kernel_rfl) (by kernel_rfl) (by kernel_rfl) ?_)
              have C1083_ := same_c (.slice ao650_ ((accB s bal non).length) cap651_) (accB s bal non) (.slice ao681_ ((accB t bam nom).length) cap682_) (accB t bam nom) w1061_ (Row.sl h1072_) (Row.sl h1073_)  (by first | with_reducible assumption | omega | exact accB_byt _ _ _ | exact (accB_byt _ _ _).take _ | exact (Byt.nil.cat (accB_byt _ _ _)).cat (Byt.all (by kernel_rfl)) | exact Nat.le_trans accB_len (by omega) | (simp only [List.length_append, List.length_nil, List.length_cons]; omega)) (by first | with_reducible assumption | omega | exact accB_byt _ _ _ | exact (accB_byt _ _ _).take _ | exact (Byt.nil.cat (accB_byt _ _ _)).cat (Byt.all (by kernel_rfl)) | exact Nat.le_trans accB_len (by omega) | (simp only [List.length_append, List.length_nil, List.length_cons]; omega))
              refine Calls.mono C1083_ ?_
              rintro e1082_ w1080_ ⟨rfl, F1081_⟩
              have T1084_ := Fr.tr T1063_ F1081_
              have h1085_ := Rd.keep' h1068_ F1081_ Dis.n0
              have h1086_ := Rd.keep' h1069_ F1081_ Dis.n0
              have h1087_ := Rd.keep' h1070_ F1081_ Dis.n0
              have h1088_ := Fr.keep F1081_ h1065_ Dis.n0
              have h1089_ := Fr.keep F1081_ h1066_ Dis.n0
              have h1090_ := Fr.keep F1081_ h1071_ Dis.n0
              have h1091_ := Row.keep h1072_ F1081_ Dis.n0
              have h1092_ := Row.keep h1073_ F1081_ Dis.n0
              have h1093_ := Fr.keep F1081_ h1067_ Dis.n0
              have h1094_ := Rd.keep' h1074_ F1081_ Dis.n0
              have h1095_ := Fr.keep F1081_ h1075_ Dis.n0
              have h1096_ := Row.keep h1076_ F1081_ Dis.n0
              have h1097_ := Fr.keep F1081_ h1077_ Dis.n0
              have h1098_ := Fr.keep F1081_ h1078_ Dis.n0
              refine ⟨_, rfl, ?_⟩
              have S1099_ : w1080_.heap[b1_]? = some (.cells #[(.string s), (.int .u64 (bal : Int)), (.int .u32 (non : Int))] 60 (0, 0)) ∧ w1080_.heap[b11_]? = some (.cells #[(.string t), (.int .u64 (bam : Int)), (.int .u32 (nom : Int))] 60 (0, 0)) ∧ w1080_.heap[b759_]? = some (.cells #[(.string s), (.int .u64 (bal : Int)), (.int .u32 (non : Int))] 60 (0, 0)) ∧ True := ⟨h1088_, h1089_, h1093_, trivial⟩
              refine ⟨fun _ => S1099_, ?_⟩
              refine pl_as 6 (.bool ((decide ((accB s bal non) = (accB t bam nom))) == (decide ((accB s bal non) = (accB t bam nom))))) (.bool true) (by kernel_rfl) (by kernel_rfl) ⟨by kernel_rfl, by kernel_rfl⟩ (congrArg Value.bool (beq_self_eq_true _)) (off (by kernel_rfl)) ?_
              refine pl_pures 8 (by kernel_rfl) (by kernel_rfl) (off (by kernel_rfl)) ?_
              refine pl_read 8 (.agg #[(.string s), (.int .u64 (bal : Int)), (.int .u32 (non : Int))]) (by kernel_rfl) (by kernel_rfl) (fun w' hs => run_loadN 60 (.tmp 15) b759_ 0 3 _ _ _ #[(.string s), (.int .u64 (bal : Int)), (.int .u32 (non : Int))] (by kernel_rfl) (by kernel_rfl) (by kernel_rfl) (by kernel_rfl) hs.2.2.1 (by kernel_rfl) (by kernel_rfl)) S1099_ ?_
              refine pl_read 9 (.agg #[(.string s), (.int .u64 (bal : Int)), (.int .u32 (non : Int))]) (by kernel_rfl) (by kernel_rfl) (fun w' hs => run_loadN 60 (.tmp 3) b1_ 0 3 _ _ _ #[(.string s), (.int .u64 (bal : Int)), (.int .u32 (non : Int))] (by kernel_rfl) (by kernel_rfl) (by kernel_rfl) (by kernel_rfl) hs.1 (by kernel_rfl) (by kernel_rfl)) S1099_ ?_
              refine pl_quiet 10 (.bool true) (by kernel_rfl) (by kernel_rfl) (fun w' => run_eqd_self true 9995 5 60 (.tmp 117) (.tmp 118) #[(.string s), (.int .u64 (bal : Int)), (.int .u32 (non : Int))] rfl (by kernel_rfl) (by kernel_rfl) (by kernel_rfl) (by kernel_rfl) (by kernel_rfl) (by kernel_rfl) (by kernel_rfl) (by kernel_rfl) (Acct.wf (a := ⟨s, bal, non⟩) ⟨hs, hbal, hnon⟩)) (off (by kernel_rfl)) ?_
              refine pl_pures 25 (by kernel_rfl) (by kernel_rfl) (off (by kernel_rfl)) ?_
              refine pl_done (by kernel_rfl) ?_
              refine then_n ?_
              refine c_ret (by kernel_rfl) ?_
              refine fin_ret (.bool true) (by kernel_rfl) (by kernel_rfl) ?_
              exact ⟨rfl, T1084_⟩
end Go.Proofs.YtboggbknebepdaaDoor
