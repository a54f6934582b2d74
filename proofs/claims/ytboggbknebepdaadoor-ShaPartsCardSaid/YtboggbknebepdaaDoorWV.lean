/- The walks of the digest's laws. -/
import Derived.Test.YtboggbknebepdaaDoorWU
import Derived.Test.YtboggbknebepdaaDoorShb
namespace Go.Proofs.YtboggbknebepdaaDoor
open Go Go.RowKit Go.Alm
noncomputable def awake2_c_R0 : Array Oper := rAt Tryd.prog 11 [0]
noncomputable def awake2_c_R1 : Array Oper := rAt Tryd.prog 11 [1, 0]
noncomputable def awake2_c_R2 : Array Oper := rAt Tryd.prog 11 [1, 1, 0, 0]
noncomputable def awake2_c_R4 : Array Oper := rAt Tryd.prog 11 [1, 1, 1, 0]
noncomputable def awake2_c_R5 : Array Oper := rAt Tryd.prog 11 [1, 1, 1, 1, 0]
noncomputable def awake2_c_R6 : Array Oper := rAt Tryd.prog 11 [1, 1, 1, 1, 1, 0]
noncomputable def awake2_c_R7 : Array Oper := rAt Tryd.prog 11 [1, 1, 1, 1, 1, 1, 0]
noncomputable def awake2_c_R8 : Array Oper := rAt Tryd.prog 11 [1, 1, 1, 1, 1, 1, 1, 0]
def awake2_c_sk8 : Nat → Bool := fun i => decide (i ∈ [1, 30, 35, 36, 37, 38])
def awake2_c_pl8 : List (Nat × PK) := [(0, .q true), (1, .e), (2, .q false), (3, .q false), (4, .q false), (5, .q true), (6, .q false), (7, .q false), (8, .q false), (9, .q false), (10, .q true), (11, .q false), (12, .q false), (13, .q false), (14, .q false), (15, .q true), (16, .q false), (17, .q false), (18, .q false), (19, .q false), (20, .q true), (21, .q false), (22, .q false), (23, .q false), (24, .q false), (25, .q true), (26, .q false), (27, .q false), (28, .q false), (29, .q false), (31, .q true), (30, .e), (32, .q false), (33, .q false), (34, .q false), (35, .q false), (36, .e), (37, .q false), (38, .q false), (39, .q false)]
set_option maxRecDepth 100000 in
set_option maxHeartbeats 1000000 in
theorem awake2_c (w : World) (h_ks1 : Rd w (some ⟨1, 0, none⟩) ((hw KL).toList)) :
    Calls Tryd.prog 11 #[] w fun e w' => e = .returned (.bool true) ∧ Fr w w' N0 := by
  refine c_enter (mk 56 [] (fun _ => undef)) Tryd.func11 (by kernel_rfl) (by kernel_rfl) ?_
  refine c_seq [0] [1] (by kernel_rfl) ?_
  refine c_reg 0 awake2_c_R0 (by kernel_rfl) ?_
  refine at_pures 1 (by kernel_rfl) (by kernel_rfl) ?_
  refine at_done (by kernel_rfl) ?_
  refine then_n ?_
  refine c_seq [1, 0] [1, 1] (by kernel_rfl) ?_
  refine c_reg 1 awake2_c_R1 (by kernel_rfl) ?_
  refine at_do (by kernel_rfl) (op_call 14 #[] #[] (by kernel_rfl) (by kernel_rfl) (by kernel_rfl) ?_)
  have C9_ := hnew_c  w   
  refine Calls.mono C9_ ?_
  rintro e8_ w6_ ⟨b1_, qhs2_, rfl, h3_, F7_, h5_⟩
  refine ⟨_, rfl, ?_⟩
  have d10_ : Dis (One b1_) (Ar (some ⟨1, 0, none⟩) ((hw KL).toList)) := Dis.fresh h5_ (Rd.in h_ks1)
  have T11_ := Fr.tr (Fr.refl w N0) F7_
  have h12_ := Rd.keep' h_ks1 F7_ Dis.n0
  have N14_ : New w N0 (One b1_) := New.later' h5_ (Fr.size (Fr.refl w N0))
  refine at_pures 2 (by kernel_rfl) (by kernel_rfl) ?_
  refine at_done (by kernel_rfl) ?_
  refine then_n ?_
  refine c_seq [1, 1, 0] [1, 1, 1] (by kernel_rfl) ?_
  refine c_seq [1, 1, 0, 0] [1, 1, 0, 1] (by kernel_rfl) ?_
  refine c_reg 2 awake2_c_R2 (by kernel_rfl) ?_
  refine at_pures 2 (by kernel_rfl) (by kernel_rfl) ?_
  refine at_done (by kernel_rfl) ?_
  refine then_n ?_
  refine c_else (.tmp 6) [1, 1, 0, 1, 0] [1, 1, 0, 1, 1] (by kernel_rfl) (by kernel_rfl) ?_
  refine c_skip (by kernel_rfl) ?_
  refine then_n ?_
  refine c_seq [1, 1, 1, 0] [1, 1, 1, 1] (by kernel_rfl) ?_
  refine c_reg 4 awake2_c_R4 (by kernel_rfl) ?_
  refine at_pures 1 (by kernel_rfl) (by kernel_rfl) ?_
  refine at_do (by kernel_rfl) (op_call 16 #[(.tmp 7)] #[(.pointer (some ⟨b1_, 0, none⟩))] (by kernel_rfl) (by kernel_rfl) (by kernel_rfl) ?_)
  have C19_ := hsum_c b1_ [] qhs2_ w6_ h3_ h12_  (by first | exact Nat.le_of_ble_eq_true (by kernel_rfl) | exact Byt.nil | exact Byt.all (by kernel_rfl) | exact Nat.le_refl _)
  refine Calls.mono C19_ ?_
  rintro e18_ w16_ ⟨rfl, F17_⟩
  refine ⟨_, rfl, ?_⟩
  have T20_ := Fr.tr T11_ F17_
  have h21_ := Rd.keep' h12_ F17_ Dis.n0
  have h22_ := HsAt.keep h3_ F17_ Dis.n0
  refine at_do (by kernel_rfl) (op_new (.cells #[(.int .u8 0), (.int .u8 0), (.int .u8 0), (.int .u8 0), (.int .u8 0), (.int .u8 0), (.int .u8 0), (.int .u8 0), (.int .u8 0), (.int .u8 0), (.int .u8 0), (.int .u8 0), (.int .u8 0), (.int .u8 0), (.int .u8 0), (.int .u8 0), (.int .u8 0), (.int .u8 0), (.int .u8 0), (.int .u8 0), (.int .u8 0), (.int .u8 0), (.int .u8 0), (.int .u8 0), (.int .u8 0), (.int .u8 0), (.int .u8 0), (.int .u8 0), (.int .u8 0), (.int .u8 0), (.int .u8 0), (.int .u8 0)] 25) (fun N => (.pointer (some ⟨N, 0, none⟩))) (fun _ => by kernel_rfl) (fun w24_ b23_ h25_ q26_ F27_ => ?_))
  have d28_ : Dis (One b23_) (Ar (some ⟨1, 0, none⟩) ((hw KL).toList)) := Dis.fresh (New.one q26_) (Rd.in h21_)
  have d29_ : Dis (One b23_) (One b1_) := Dis.fresh (New.one q26_) (HsAt.in h22_)
  have N30_ : New w N0 (One b23_) := New.made q26_ (Fr.size T20_)
  have T31_ := Fr.tr T20_ F27_
  have h32_ := Rd.keep' h21_ F27_ Dis.n0
  have h33_ := HsAt.keep h22_ F27_ Dis.n0
  refine at_do (by kernel_rfl) (op_store 25 (.tmp 2) (.tmp 8) b23_ 0 (.agg (hv (shaL []))) _ _ (hv (shaL [])) (by kernel_rfl) (by kernel_rfl) (by kernel_rfl) h25_ (by kernel_rfl) (by kernel_rfl) (by kernel_rfl) (by kernel_rfl) (fun w34_ h35_ z36_ F37_ => ?_))
  have T38_ := Fr.then T31_ F37_ N30_
  have h39_ := Rd.keep' h32_ F37_ (Dis.sym d28_)
  have h40_ := HsAt.keep h33_ F37_ (Dis.sym d29_)
  refine at_done (by kernel_rfl) ?_
  refine then_n ?_
  refine c_seq [1, 1, 1, 1, 0] [1, 1, 1, 1, 1] (by kernel_rfl) ?_
  refine c_reg 5 awake2_c_R5 (by kernel_rfl) ?_
  refine at_pures 1 (by kernel_rfl) (by kernel_rfl) ?_
  refine at_do (by kernel_rfl) (op_new (.cells #[(.int .u8 97)] 5) (fun N => (.slice (some ⟨N, 0, none⟩) 1 1)) (fun _ => by kernel_rfl) (fun w42_ b41_ h43_ q44_ F45_ => ?_))
  have d46_ : Dis (One b41_) (Ar (some ⟨1, 0, none⟩) ((hw KL).toList)) := Dis.fresh (New.one q44_) (Rd.in h39_)
  have d47_ : Dis (One b41_) (One b1_) := Dis.fresh (New.one q44_) (HsAt.in h40_)
  have d48_ : Dis (One b41_) (One b23_) := Dis.fresh (New.one q44_) (In.one h35_)
  have N49_ : New w N0 (One b41_) := New.made q44_ (Fr.size T38_)
  have T50_ := Fr.tr T38_ F45_
  have h51_ := Rd.keep' h39_ F45_ Dis.n0
  have h52_ := HsAt.keep h40_ F45_ Dis.n0
  have h53_ := Fr.keep F45_ h35_ Dis.n0
  refine at_do (by kernel_rfl) (op_call 15 #[(.tmp 9), (.tmp 10)] #[(.pointer (some ⟨b1_, 0, none⟩)), (.slice (some ⟨b41_, 0, none⟩) 1 1)] (by kernel_rfl) (by kernel_rfl) (by kernel_rfl) ?_)
  have C61_ := hwrite_c b1_ [] qhs2_ (.slice (some ⟨b41_, 0, none⟩) 1 1) [97] w42_ h52_ (SlV.of_blk (l := [97]) h43_ (by kernel_rfl)) h51_ (Sub.dis Sub.arOne d47_) (Dis.sym d10_) (by first | exact Nat.le_of_ble_eq_true (by kernel_rfl) | exact Byt.nil | exact Byt.all (by kernel_rfl) | exact Nat.le_refl _) (by first | exact Nat.le_of_ble_eq_true (by kernel_rfl) | exact Byt.nil | exact Byt.all (by kernel_rfl) | exact Nat.le_refl _) (by first | exact Nat.le_of_ble_eq_true (by kernel_rfl) | exact Byt.nil | exact Byt.all (by kernel_rfl) | exact Nat.le_refl _) (by first | exact Nat.le_of_ble_eq_true (by kernel_rfl) | exact Byt.nil | exact Byt.all (by kernel_rfl) | exact Nat.le_refl _)
  refine Calls.mono C61_ ?_
  rintro e60_ w58_ ⟨qhs54_, rfl, h55_, F59_, h57_⟩
  refine ⟨_, rfl, ?_⟩
  have T62_ := Fr.then T50_ F59_ N14_
  have d63_ : Dis (One b1_) (Ar (some ⟨1, 0, none⟩) ((hw KL).toList)) := Dis.step d10_ h57_ (Rd.in h51_)
  have h64_ := Rd.keep' h51_ F59_ (Dis.sym d10_)
  have d65_ : Dis (One b1_) (One b23_) := Dis.step (Dis.sym d29_) h57_ (In.one h53_)
  have h66_ := Fr.keep F59_ h53_ d29_
  have d67_ : Dis (One b1_) (One b41_) := Dis.step (Dis.sym d47_) h57_ (In.one h43_)
  have h68_ := Fr.keep F59_ h43_ d47_
  have N69_ : New w N0 (One b1_) := New.trans N14_ h57_ (Fr.size T50_)
  refine at_done (by kernel_rfl) ?_
  refine then_n ?_
  refine c_seq [1, 1, 1, 1, 1, 0] [1, 1, 1, 1, 1, 1] (by kernel_rfl) ?_
  refine c_reg 6 awake2_c_R6 (by kernel_rfl) ?_
  refine at_pures 1 (by kernel_rfl) (by kernel_rfl) ?_
  refine at_do (by kernel_rfl) (op_new (.cells #[(.int .u8 98), (.int .u8 99)] 5) (fun N => (.slice (some ⟨N, 0, none⟩) 2 2)) (fun _ => by kernel_rfl) (fun w71_ b70_ h72_ q73_ F74_ => ?_))
  have d75_ : Dis (One b70_) (Ar (some ⟨1, 0, none⟩) ((hw KL).toList)) := Dis.fresh (New.one q73_) (Rd.in h64_)
  have d76_ : Dis (One b70_) (One b1_) := Dis.fresh (New.one q73_) (HsAt.in h55_)
  have d77_ : Dis (One b70_) (One b23_) := Dis.fresh (New.one q73_) (In.one h66_)
  have d78_ : Dis (One b70_) (One b41_) := Dis.fresh (New.one q73_) (In.one h68_)
  have N79_ : New w N0 (One b70_) := New.made q73_ (Fr.size T62_)
  have T80_ := Fr.tr T62_ F74_
  have h81_ := Rd.keep' h64_ F74_ Dis.n0
  have h82_ := HsAt.keep h55_ F74_ Dis.n0
  have h83_ := Fr.keep F74_ h66_ Dis.n0
  have h84_ := Fr.keep F74_ h68_ Dis.n0
  refine at_do (by kernel_rfl) (op_call 15 #[(.tmp 12), (.tmp 13)] #[(.pointer (some ⟨b1_, 0, none⟩)), (.slice (some ⟨b70_, 0, none⟩) 2 2)] (by kernel_rfl) (by kernel_rfl) (by kernel_rfl) ?_)
  have C92_ := hwrite_c b1_ ([] ++ [97]) qhs54_ (.slice (some ⟨b70_, 0, none⟩) 2 2) [98, 99] w71_ h82_ (SlV.of_blk (l := [98, 99]) h72_ (by kernel_rfl)) h81_ (Sub.dis Sub.arOne d76_) (Dis.sym d63_) (by first | exact Nat.le_of_ble_eq_true (by kernel_rfl) | exact Byt.nil | exact Byt.all (by kernel_rfl) | exact Nat.le_refl _) (by first | exact Nat.le_of_ble_eq_true (by kernel_rfl) | exact Byt.nil | exact Byt.all (by kernel_rfl) | exact Nat.le_refl _) (by first | exact Nat.le_of_ble_eq_true (by kernel_rfl) | exact Byt.nil | exact Byt.all (by kernel_rfl) | exact Nat.le_refl _) (by first | exact Nat.le_of_ble_eq_true (by kernel_rfl) | exact Byt.nil | exact Byt.all (by kernel_rfl) | exact Nat.le_refl _)
  refine Calls.mono C92_ ?_
  rintro e91_ w89_ ⟨qhs85_, rfl, h86_, F90_, h88_⟩
  refine ⟨_, rfl, ?_⟩
  have T93_ := Fr.then T80_ F90_ N69_
  have d94_ : Dis (One b1_) (Ar (some ⟨1, 0, none⟩) ((hw KL).toList)) := Dis.step d63_ h88_ (Rd.in h81_)
  have h95_ := Rd.keep' h81_ F90_ (Dis.sym d63_)
  have d96_ : Dis (One b1_) (One b23_) := Dis.step d65_ h88_ (In.one h83_)
  have h97_ := Fr.keep F90_ h83_ (Dis.sym d65_)
  have d98_ : Dis (One b1_) (One b41_) := Dis.step d67_ h88_ (In.one h84_)
  have h99_ := Fr.keep F90_ h84_ (Dis.sym d67_)
  have d100_ : Dis (One b1_) (One b70_) := Dis.step (Dis.sym d76_) h88_ (In.one h72_)
  have h101_ := Fr.keep F90_ h72_ d76_
  have N102_ : New w N0 (One b1_) := New.trans N69_ h88_ (Fr.size T80_)
  refine at_done (by kernel_rfl) ?_
  refine then_n ?_
  refine c_seq [1, 1, 1, 1, 1, 1, 0] [1, 1, 1, 1, 1, 1, 1] (by kernel_rfl) ?_
  refine c_reg 7 awake2_c_R7 (by kernel_rfl) ?_
  refine at_do (by kernel_rfl) (op_new (.cells #[(.int .u8 97), (.int .u8 98), (.int .u8 99)] 5) (fun N => (.slice (some ⟨N, 0, none⟩) 3 3)) (fun _ => by kernel_rfl) (fun w104_ b103_ h105_ q106_ F107_ => ?_))
  have d108_ : Dis (One b103_) (Ar (some ⟨1, 0, none⟩) ((hw KL).toList)) := Dis.fresh (New.one q106_) (Rd.in h95_)
  have d109_ : Dis (One b103_) (One b1_) := Dis.fresh (New.one q106_) (HsAt.in h86_)
  have d110_ : Dis (One b103_) (One b23_) := Dis.fresh (New.one q106_) (In.one h97_)
  have d111_ : Dis (One b103_) (One b41_) := Dis.fresh (New.one q106_) (In.one h99_)
  have d112_ : Dis (One b103_) (One b70_) := Dis.fresh (New.one q106_) (In.one h101_)
  have N113_ : New w N0 (One b103_) := New.made q106_ (Fr.size T93_)
  have T114_ := Fr.tr T93_ F107_
  have h115_ := Rd.keep' h95_ F107_ Dis.n0
  have h116_ := HsAt.keep h86_ F107_ Dis.n0
  have h117_ := Fr.keep F107_ h97_ Dis.n0
  have h118_ := Fr.keep F107_ h99_ Dis.n0
  have h119_ := Fr.keep F107_ h101_ Dis.n0
  refine at_do (by kernel_rfl) (op_call 12 #[(.tmp 15)] #[(.slice (some ⟨b103_, 0, none⟩) 3 3)] (by kernel_rfl) (by kernel_rfl) (by kernel_rfl) ?_)
  have C124_ := shaof_c (.slice (some ⟨b103_, 0, none⟩) 3 3) [97, 98, 99] w104_ (SlV.of_blk (l := [97, 98, 99]) h105_ (by kernel_rfl)) h115_  (by first | exact Nat.le_of_ble_eq_true (by kernel_rfl) | exact Byt.nil | exact Byt.all (by kernel_rfl) | exact Nat.le_refl _) (by first | exact Nat.le_of_ble_eq_true (by kernel_rfl) | exact Byt.nil | exact Byt.all (by kernel_rfl) | exact Nat.le_refl _) (by first | exact Nat.le_of_ble_eq_true (by kernel_rfl) | exact Byt.nil | exact Byt.all (by kernel_rfl) | exact Nat.le_refl _)
  refine Calls.mono C124_ ?_
  rintro e123_ w121_ ⟨rfl, F122_⟩
  refine ⟨_, rfl, ?_⟩
  have T125_ := Fr.tr T114_ F122_
  have h126_ := Rd.keep' h115_ F122_ Dis.n0
  have h127_ := HsAt.keep h116_ F122_ Dis.n0
  have h128_ := Fr.keep F122_ h117_ Dis.n0
  have h129_ := Fr.keep F122_ h118_ Dis.n0
  have h130_ := Fr.keep F122_ h119_ Dis.n0
  have h131_ := Fr.keep F122_ h105_ Dis.n0
  refine at_do (by kernel_rfl) (op_new (.cells #[(.int .u8 0), (.int .u8 0), (.int .u8 0), (.int .u8 0), (.int .u8 0), (.int .u8 0), (.int .u8 0), (.int .u8 0), (.int .u8 0), (.int .u8 0), (.int .u8 0), (.int .u8 0), (.int .u8 0), (.int .u8 0), (.int .u8 0), (.int .u8 0), (.int .u8 0), (.int .u8 0), (.int .u8 0), (.int .u8 0), (.int .u8 0), (.int .u8 0), (.int .u8 0), (.int .u8 0), (.int .u8 0), (.int .u8 0), (.int .u8 0), (.int .u8 0), (.int .u8 0), (.int .u8 0), (.int .u8 0), (.int .u8 0)] 25) (fun N => (.pointer (some ⟨N, 0, none⟩))) (fun _ => by kernel_rfl) (fun w133_ b132_ h134_ q135_ F136_ => ?_))
  have d137_ : Dis (One b132_) (Ar (some ⟨1, 0, none⟩) ((hw KL).toList)) := Dis.fresh (New.one q135_) (Rd.in h126_)
  have d138_ : Dis (One b132_) (One b1_) := Dis.fresh (New.one q135_) (HsAt.in h127_)
  have d139_ : Dis (One b132_) (One b23_) := Dis.fresh (New.one q135_) (In.one h128_)
  have d140_ : Dis (One b132_) (One b41_) := Dis.fresh (New.one q135_) (In.one h129_)
  have d141_ : Dis (One b132_) (One b70_) := Dis.fresh (New.one q135_) (In.one h130_)
  have d142_ : Dis (One b132_) (One b103_) := Dis.fresh (New.one q135_) (In.one h131_)
  have N143_ : New w N0 (One b132_) := New.made q135_ (Fr.size T125_)
  have T144_ := Fr.tr T125_ F136_
  have h145_ := Rd.keep' h126_ F136_ Dis.n0
  have h146_ := HsAt.keep h127_ F136_ Dis.n0
  have h147_ := Fr.keep F136_ h128_ Dis.n0
  have h148_ := Fr.keep F136_ h129_ Dis.n0
  have h149_ := Fr.keep F136_ h130_ Dis.n0
  have h150_ := Fr.keep F136_ h131_ Dis.n0
  refine at_do (by kernel_rfl) (op_store 25 (.tmp 3) (.tmp 16) b132_ 0 (.agg (hv (shaL [97, 98, 99]))) _ _ (hv (shaL [97, 98, 99])) (by kernel_rfl) (by kernel_rfl) (by kernel_rfl) h134_ (by kernel_rfl) (by kernel_rfl) (by kernel_rfl) (by kernel_rfl) (fun w151_ h152_ z153_ F154_ => ?_))
  have T155_ := Fr.then T144_ F154_ N143_
  have h156_ := Rd.keep' h145_ F154_ (Dis.sym d137_)
  have h157_ := HsAt.keep h146_ F154_ (Dis.sym d138_)
  have h158_ := Fr.keep F154_ h147_ (Dis.sym d139_)
  have h159_ := Fr.keep F154_ h148_ (Dis.sym d140_)
  have h160_ := Fr.keep F154_ h149_ (Dis.sym d141_)
  have h161_ := Fr.keep F154_ h150_ (Dis.sym d142_)
  refine at_done (by kernel_rfl) ?_
  refine then_n ?_
  refine c_seq [1, 1, 1, 1, 1, 1, 1, 0] [1, 1, 1, 1, 1, 1, 1, 1] (by kernel_rfl) ?_
  refine c_plan 8 awake2_c_R8 (fun w' => w'.heap[b23_]? = some (.cells (hv (shaL [])) 25 (0, 0)) ∧ w'.heap[b132_]? = some (.cells (hv (shaL [97, 98, 99])) 25 (0, 0)) ∧ True) awake2_c_sk8 awake2_c_pl8 (by kernel_rfl) (by kernel_rfl) (by kernel_rfl) (by kernel_rfl) (by kernel_rfl) (fun w162_ F163_ => ?_)
  have T164_ := Fr.tr T155_ F163_
  have h166_ := Fr.keep F163_ h158_ Dis.n0
  have h167_ := Fr.keep F163_ h152_ Dis.n0
  have S165_ : w162_.heap[b23_]? = some (.cells (hv (shaL [])) 25 (0, 0)) ∧ w162_.heap[b132_]? = some (.cells (hv (shaL [97, 98, 99])) 25 (0, 0)) ∧ True := ⟨h166_, h167_, trivial⟩
  refine pl_read 0 (.agg (hv (shaL []))) (by kernel_rfl) (by kernel_rfl) (fun w' hs => run_loadN 25 (.tmp 2) b23_ 0 32 _ _ _ (hv (shaL [])) (by kernel_rfl) (by kernel_rfl) (by kernel_rfl) (by kernel_rfl) hs.1 (by kernel_rfl) (by kernel_rfl)) S165_ ?_
  have h168_ := Rd.keep' h156_ F163_ Dis.n0
  have h169_ := HsAt.keep h157_ F163_ Dis.n0
  have h170_ := Fr.keep F163_ h159_ Dis.n0
  have h171_ := Fr.keep F163_ h160_ Dis.n0
  have h172_ := Fr.keep F163_ h161_ Dis.n0
  refine pl_do 1 (by kernel_rfl) (by kernel_rfl) (op_call 12 #[(.const (.slice none 0 0))] #[(.slice none 0 0)] (by kernel_rfl) (by kernel_rfl) (by kernel_rfl) ?_)
  have C177_ := shaof_c (.slice none 0 0) [] w162_ (SlV.nil _) h168_  (by first | exact Nat.le_of_ble_eq_true (by kernel_rfl) | exact Byt.nil | exact Byt.all (by kernel_rfl) | exact Nat.le_refl _) (by first | exact Nat.le_of_ble_eq_true (by kernel_rfl) | exact Byt.nil | exact Byt.all (by kernel_rfl) | exact Nat.le_refl _) (by first | exact Nat.le_of_ble_eq_true (by kernel_rfl) | exact Byt.nil | exact Byt.all (by kernel_rfl) | exact Nat.le_refl _)
  refine Calls.mono C177_ ?_
  rintro e176_ w174_ ⟨rfl, F175_⟩
  refine ⟨_, rfl, ?_⟩
  have T178_ := Fr.tr T164_ F175_
  have h179_ := Rd.keep' h168_ F175_ Dis.n0
  have h180_ := HsAt.keep h169_ F175_ Dis.n0
  have h181_ := Fr.keep F175_ h166_ Dis.n0
  have h182_ := Fr.keep F175_ h170_ Dis.n0
  have h183_ := Fr.keep F175_ h171_ Dis.n0
  have h184_ := Fr.keep F175_ h172_ Dis.n0
  have h185_ := Fr.keep F175_ h167_ Dis.n0
  have S186_ : w174_.heap[b23_]? = some (.cells (hv (shaL [])) 25 (0, 0)) ∧ w174_.heap[b132_]? = some (.cells (hv (shaL [97, 98, 99])) 25 (0, 0)) ∧ True := ⟨h181_, h185_, trivial⟩
  refine ⟨fun _ => S186_, ?_⟩
  refine pl_quiet 2 (.bool true) (by kernel_rfl) (by kernel_rfl) (fun w' => run_eq_hash_self 25 (.tmp 17) (.tmp 18) (shaL []) (by kernel_rfl) (by kernel_rfl) (by kernel_rfl) (by kernel_rfl) (by kernel_rfl) (by kernel_rfl) (shaL_length _) (shaL_byt _)) (off (by kernel_rfl)) ?_
  refine pl_pures 5 (by kernel_rfl) (by kernel_rfl) (off (by kernel_rfl)) ?_
  refine pl_read 5 (.int .u8 (((shaL []).getD 0 0 : Nat) : Int)) (by kernel_rfl) (by kernel_rfl) (fun w' hs => run_load1 5 (.tmp 21) b23_ 0 _ _ _ (.int .u8 (((shaL []).getD 0 0 : Nat) : Int)) (by kernel_rfl) (by kernel_rfl) (by kernel_rfl) hs.1 (by kernel_rfl)) S186_ ?_
  refine pl_as 6 (.bool ((((shaL []).getD 0 0 : Nat) : Int) == (227 : Int))) (.bool true) (by kernel_rfl) (by kernel_rfl) ⟨by kernel_rfl, by kernel_rfl⟩ (by rw [sha_e0]; rfl) (off (by kernel_rfl)) ?_
  refine pl_pures 10 (by kernel_rfl) (by kernel_rfl) (off (by kernel_rfl)) ?_
  refine pl_read 10 (.int .u8 (((shaL []).getD 31 0 : Nat) : Int)) (by kernel_rfl) (by kernel_rfl) (fun w' hs => run_load1 5 (.tmp 26) b23_ 31 _ _ _ (.int .u8 (((shaL []).getD 31 0 : Nat) : Int)) (by kernel_rfl) (by kernel_rfl) (by kernel_rfl) hs.1 (by kernel_rfl)) S186_ ?_
  refine pl_as 11 (.bool ((((shaL []).getD 31 0 : Nat) : Int) == (85 : Int))) (.bool true) (by kernel_rfl) (by kernel_rfl) ⟨by kernel_rfl, by kernel_rfl⟩ (by rw [sha_e31]; rfl) (off (by kernel_rfl)) ?_
  refine pl_pures 15 (by kernel_rfl) (by kernel_rfl) (off (by kernel_rfl)) ?_
  refine pl_read 15 (.int .u8 (((shaL [97, 98, 99]).getD 0 0 : Nat) : Int)) (by kernel_rfl) (by kernel_rfl) (fun w' hs => run_load1 5 (.tmp 31) b132_ 0 _ _ _ (.int .u8 (((shaL [97, 98, 99]).getD 0 0 : Nat) : Int)) (by kernel_rfl) (by kernel_rfl) (by kernel_rfl) hs.2.1 (by kernel_rfl)) S186_ ?_
  refine pl_as 16 (.bool ((((shaL [97, 98, 99]).getD 0 0 : Nat) : Int) == (186 : Int))) (.bool true) (by kernel_rfl) (by kernel_rfl) ⟨by kernel_rfl, by kernel_rfl⟩ (by rw [sha_a0]; rfl) (off (by kernel_rfl)) ?_
  refine pl_pures 20 (by kernel_rfl) (by kernel_rfl) (off (by kernel_rfl)) ?_
  refine pl_read 20 (.int .u8 (((shaL [97, 98, 99]).getD 1 0 : Nat) : Int)) (by kernel_rfl) (by kernel_rfl) (fun w' hs => run_load1 5 (.tmp 36) b132_ 1 _ _ _ (.int .u8 (((shaL [97, 98, 99]).getD 1 0 : Nat) : Int)) (by kernel_rfl) (by kernel_rfl) (by kernel_rfl) hs.2.1 (by kernel_rfl)) S186_ ?_
  refine pl_as 21 (.bool ((((shaL [97, 98, 99]).getD 1 0 : Nat) : Int) == (120 : Int))) (.bool true) (by kernel_rfl) (by kernel_rfl) ⟨by kernel_rfl, by kernel_rfl⟩ (by rw [sha_a1]; rfl) (off (by kernel_rfl)) ?_
  refine pl_pures 25 (by kernel_rfl) (by kernel_rfl) (off (by kernel_rfl)) ?_
  refine pl_read 25 (.int .u8 (((shaL [97, 98, 99]).getD 31 0 : Nat) : Int)) (by kernel_rfl) (by kernel_rfl) (fun w' hs => run_load1 5 (.tmp 41) b132_ 31 _ _ _ (.int .u8 (((shaL [97, 98, 99]).getD 31 0 : Nat) : Int)) (by kernel_rfl) (by kernel_rfl) (by kernel_rfl) hs.2.1 (by kernel_rfl)) S186_ ?_
  refine pl_as 26 (.bool ((((shaL [97, 98, 99]).getD 31 0 : Nat) : Int) == (173 : Int))) (.bool true) (by kernel_rfl) (by kernel_rfl) ⟨by kernel_rfl, by kernel_rfl⟩ (by rw [sha_a31]; rfl) (off (by kernel_rfl)) ?_
  refine pl_pures 30 (by kernel_rfl) (by kernel_rfl) (off (by kernel_rfl)) ?_
  refine pl_read 31 (.agg (hv (shaL [97, 98, 99]))) (by kernel_rfl) (by kernel_rfl) (fun w' hs => run_loadN 25 (.tmp 3) b132_ 0 32 _ _ _ (hv (shaL [97, 98, 99])) (by kernel_rfl) (by kernel_rfl) (by kernel_rfl) (by kernel_rfl) hs.2.1 (by kernel_rfl) (by kernel_rfl)) S186_ ?_
  refine pl_do 30 (by kernel_rfl) (by kernel_rfl) (op_call 16 #[(.tmp 46)] #[(.pointer (some ⟨b1_, 0, none⟩))] (by kernel_rfl) (by kernel_rfl) (by kernel_rfl) ?_)
  have C191_ := hsum_c b1_ (([] ++ [97]) ++ [98, 99]) qhs85_ w174_ h180_ h179_  (by first | exact Nat.le_of_ble_eq_true (by kernel_rfl) | exact Byt.nil | exact Byt.all (by kernel_rfl) | exact Nat.le_refl _)
  refine Calls.mono C191_ ?_
  rintro e190_ w188_ ⟨rfl, F189_⟩
  refine ⟨_, rfl, ?_⟩
  have T192_ := Fr.tr T178_ F189_
  have h193_ := Rd.keep' h179_ F189_ Dis.n0
  have h194_ := HsAt.keep h180_ F189_ Dis.n0
  have h195_ := Fr.keep F189_ h181_ Dis.n0
  have h196_ := Fr.keep F189_ h182_ Dis.n0
  have h197_ := Fr.keep F189_ h183_ Dis.n0
  have h198_ := Fr.keep F189_ h184_ Dis.n0
  have h199_ := Fr.keep F189_ h185_ Dis.n0
  have S200_ : w188_.heap[b23_]? = some (.cells (hv (shaL [])) 25 (0, 0)) ∧ w188_.heap[b132_]? = some (.cells (hv (shaL [97, 98, 99])) 25 (0, 0)) ∧ True := ⟨h195_, h199_, trivial⟩
  refine ⟨fun _ => S200_, ?_⟩
  refine pl_quiet 32 (.bool true) (by kernel_rfl) (by kernel_rfl) (fun w' => run_eq_hash_self 25 (.tmp 47) (.tmp 48) (shaL (([] ++ [97]) ++ [98, 99])) (by kernel_rfl) (by kernel_rfl) (by kernel_rfl) (by kernel_rfl) (by kernel_rfl) (by kernel_rfl) (shaL_length _) (shaL_byt _)) (off (by kernel_rfl)) ?_
  refine pl_pures 36 (by kernel_rfl) (by kernel_rfl) (fun _ => S200_) ?_
  refine pl_do 36 (by kernel_rfl) (by kernel_rfl) (op_call 17 #[(.tmp 52)] #[(.pointer (some ⟨b1_, 0, none⟩))] (by kernel_rfl) (by kernel_rfl) (by kernel_rfl) ?_)
  have C205_ := hlen_c b1_ (([] ++ [97]) ++ [98, 99]) qhs85_ w188_ h194_  
  refine Calls.mono C205_ ?_
  rintro e204_ w202_ ⟨rfl, F203_⟩
  refine ⟨_, rfl, ?_⟩
  have T206_ := Fr.tr T192_ F203_
  have h207_ := Rd.keep' h193_ F203_ Dis.n0
  have h208_ := HsAt.keep h194_ F203_ Dis.n0
  have h209_ := Fr.keep F203_ h195_ Dis.n0
  have h210_ := Fr.keep F203_ h196_ Dis.n0
  have h211_ := Fr.keep F203_ h197_ Dis.n0
  have h212_ := Fr.keep F203_ h198_ Dis.n0
  have h213_ := Fr.keep F203_ h199_ Dis.n0
  have S214_ : w202_.heap[b23_]? = some (.cells (hv (shaL [])) 25 (0, 0)) ∧ w202_.heap[b132_]? = some (.cells (hv (shaL [97, 98, 99])) 25 (0, 0)) ∧ True := ⟨h209_, h213_, trivial⟩
  refine ⟨fun _ => S214_, ?_⟩
  refine pl_as 37 (.bool (((([] ++ [97]) ++ [98, 99]).length : Int) == (3 : Int))) (.bool true) (by kernel_rfl) (by kernel_rfl) ⟨by kernel_rfl, by kernel_rfl⟩ (by kernel_rfl) (fun _ => S214_) ?_
  refine pl_pures 40 (by kernel_rfl) (by kernel_rfl) (fun _ => S214_) ?_
  refine pl_done (by kernel_rfl) ?_
  refine then_n ?_
  refine c_ret (by kernel_rfl) ?_
  refine fin_ret (.bool true) (by kernel_rfl) (by kernel_rfl) ?_
  exact ⟨rfl, T206_⟩

noncomputable def shaTells_c_R0 : Array Oper := rAt Tryd.prog 3 [0]
noncomputable def shaTells_c_R1 : Array Oper := rAt Tryd.prog 3 [1, 0, 0]
noncomputable def shaTells_c_R3 : Array Oper := rAt Tryd.prog 3 [1, 1, 0]
set_option maxRecDepth 100000 in
theorem shaTells_c (bo : Option Addr) (bcap : Nat) (bl : List Nat) (w : World) (h_b : Rd w bo (B bl)) (h_ks0 : Rd w (some ⟨0, 0, none⟩) ((hw KL).toList)) (h_ks1 : Rd w (some ⟨1, 0, none⟩) ((hw KL).toList)) (hB : Byt bl) (hbc : bl.length ≤ bcap) :
    Calls Tryd.prog 3 #[(.slice bo bl.length bcap)] w fun e w' => e = .returned (.bool true) ∧ Fr w w' N0 := by
  refine c_enter (mk 15 [(0, (.slice bo bl.length bcap))] (fun _ => undef)) Tryd.func3 (by kernel_rfl) (by kernel_rfl) ?_
  refine c_seq [0] [1] (by kernel_rfl) ?_
  refine c_reg 0 shaTells_c_R0 (by kernel_rfl) ?_
  refine at_pures 1 (by kernel_rfl) (by kernel_rfl) ?_
  refine at_done (by kernel_rfl) ?_
  refine then_n ?_
  refine c_seq [1, 0] [1, 1] (by kernel_rfl) ?_
  refine c_seq [1, 0, 0] [1, 0, 1] (by kernel_rfl) ?_
  refine c_reg 1 shaTells_c_R1 (by kernel_rfl) ?_
  refine at_do (by kernel_rfl) (op_call 11 #[] #[] (by kernel_rfl) (by kernel_rfl) (by kernel_rfl) ?_)
  have C5_ := awake2_c  w h_ks1  
  refine Calls.mono C5_ ?_
  rintro e4_ w2_ ⟨rfl, F3_⟩
  refine ⟨_, rfl, ?_⟩
  have T6_ := Fr.tr (Fr.refl w N0) F3_
  have h7_ := Rd.keep' h_b F3_ Dis.n0
  have h8_ := Rd.keep' h_ks0 F3_ Dis.n0
  have h9_ := Rd.keep' h_ks1 F3_ Dis.n0
  refine at_pures 2 (by kernel_rfl) (by kernel_rfl) ?_
  refine at_done (by kernel_rfl) ?_
  refine then_n ?_
  refine c_else (.tmp 4) [1, 0, 1, 0] [1, 0, 1, 1] (by kernel_rfl) (by kernel_rfl) ?_
  refine c_skip (by kernel_rfl) ?_
  refine then_n ?_
  refine c_seq [1, 1, 0] [1, 1, 1] (by kernel_rfl) ?_
  refine c_reg 3 shaTells_c_R3 (by kernel_rfl) ?_
  refine at_pures 3 (by kernel_rfl) (by kernel_rfl) ?_
  refine at_split (decide ((bl.length : Int) > (2000 : Int))) (by kernel_rfl) (by kernel_rfl) (fun c10_ => ?_) (fun c10_ => ?_)
  · -- yes
    replace c10_ : (bl.length : Int) > (2000 : Int) := of_decide_eq_true c10_
    refine at_pures 11 (by kernel_rfl) (by kernel_rfl) ?_
    refine at_done (by kernel_rfl) ?_
    refine then_n ?_
    refine c_ret (by kernel_rfl) ?_
    refine fin_ret (.bool true) (by kernel_rfl) (by kernel_rfl) ?_
    exact ⟨rfl, T6_⟩
  · -- no
    replace c10_ : ¬ ((bl.length : Int) > (2000 : Int)) := of_decide_eq_false c10_
    refine at_pures 5 (by kernel_rfl) (by kernel_rfl) ?_
    refine at_do (by kernel_rfl) (op_call 12 #[(.tmp 9)] #[(.slice bo bl.length bcap)] (by kernel_rfl) (by kernel_rfl) (by kernel_rfl) ?_)
    have C15_ := shaof_c (.slice bo bl.length bcap) bl w2_ ⟨_, _, rfl, h7_⟩ h9_  (by first | omega | with_reducible assumption | (simp only [List.length_append, List.length_cons, List.length_nil, putB_length]; omega) | decide) (by first | assumption | exact Byt.nil | exact shaL_byt _ | exact padL_byt _ | exact Byt.all (by kernel_rfl)) (by first | exact Nat.le_refl _ | (show _ ≤ _; first | omega | assumption | decide))
    refine Calls.mono C15_ ?_
    rintro e14_ w12_ ⟨rfl, F13_⟩
    refine ⟨_, rfl, ?_⟩
    have T16_ := Fr.tr T6_ F13_
    have h17_ := Rd.keep' h7_ F13_ Dis.n0
    have h18_ := Rd.keep' h8_ F13_ Dis.n0
    have h19_ := Rd.keep' h9_ F13_ Dis.n0
    refine at_pures 7 (by kernel_rfl) (by kernel_rfl) ?_
    refine at_do (by kernel_rfl) (op_call 13 #[(.tmp 11)] #[(.slice bo bl.length bcap)] (by kernel_rfl) (by kernel_rfl) (by kernel_rfl) ?_)
    have C24_ := rof_c (.slice bo bl.length bcap) bl w12_ ⟨_, _, rfl, h17_⟩ h18_  (by first | omega | with_reducible assumption | (simp only [List.length_append, List.length_cons, List.length_nil, putB_length]; omega) | decide) (by first | assumption | exact Byt.nil | exact shaL_byt _ | exact padL_byt _ | exact Byt.all (by kernel_rfl))
    refine Calls.mono C24_ ?_
    rintro e23_ w21_ ⟨rfl, F22_⟩
    refine ⟨_, rfl, ?_⟩
    have T25_ := Fr.tr T16_ F22_
    have h26_ := Rd.keep' h17_ F22_ Dis.n0
    have h27_ := Rd.keep' h18_ F22_ Dis.n0
    have h28_ := Rd.keep' h19_ F22_ Dis.n0
    refine at_run (.bool true) _ (by kernel_rfl) (run_eq_hash_self 25 (.tmp 10) (.tmp 12) (shaL bl) (by kernel_rfl) (by kernel_rfl) (by kernel_rfl) (by kernel_rfl) (by kernel_rfl) (by kernel_rfl) (shaL_length _) (shaL_byt _)) ?_
    refine at_pures 11 (by kernel_rfl) (by kernel_rfl) ?_
    refine at_done (by kernel_rfl) ?_
    refine then_n ?_
    refine c_ret (by kernel_rfl) ?_
    refine fin_ret (.bool true) (by kernel_rfl) (by kernel_rfl) ?_
    exact ⟨rfl, T25_⟩
end Go.Proofs.YtboggbknebepdaaDoor
