/- The digest's reference, whole. -/
import Derived.Test.YtokdfjelilhekaaDoorWT
namespace Go.Proofs.YtokdfjelilhekaaDoor
open Go Go.RowKit Go.Alm
noncomputable def rof_c_R0 : Array Oper := rAt Tryd.prog 60 [0]
noncomputable def rof_c_R1 : Array Oper := rAt Tryd.prog 60 [1, 0]
noncomputable def rof_c_R2 : Array Oper := rAt Tryd.prog 60 [1, 1, 0]
noncomputable def rof_c_R3 : Array Oper := rAt Tryd.prog 60 [1, 1, 1, 0, 0]
noncomputable def rof_c_R4 : Array Oper := rAt Tryd.prog 60 [1, 1, 1, 0, 1, 0, 0, 0, 0]
noncomputable def rof_c_R6 : Array Oper := rAt Tryd.prog 60 [1, 1, 1, 0, 1, 0, 0, 1, 0, 0]
def rof_c_sk6 : Nat → Bool := fun i => decide (i ∈ [1, 2, 3, 4, 5])
def rof_c_pl6 : List (Nat × PK) := [(0, .q true), (1, .q false), (2, .q false), (3, .q false), (4, .q false), (5, .q false), (6, .e), (7, .e)]
noncomputable def rof_c_R5 : Array Oper := rAt Tryd.prog 60 [1, 1, 1, 0, 1, 0, 0, 1, 1]
noncomputable def rof_c_R7 : Array Oper := rAt Tryd.prog 60 [1, 1, 1, 1, 0]
noncomputable def rof_c_R8 : Array Oper := rAt Tryd.prog 60 [1, 1, 1, 1, 1, 0, 0]
noncomputable def rof_c_R9 : Array Oper := rAt Tryd.prog 60 [1, 1, 1, 1, 1, 0, 1, 0, 0, 0, 0]
noncomputable def rof_c_R11 : Array Oper := rAt Tryd.prog 60 [1, 1, 1, 1, 1, 0, 1, 0, 0, 1, 0, 0, 0]
noncomputable def rof_c_R12 : Array Oper := rAt Tryd.prog 60 [1, 1, 1, 1, 1, 0, 1, 0, 0, 1, 0, 0, 1, 0]
noncomputable def rof_c_R13 : Array Oper := rAt Tryd.prog 60 [1, 1, 1, 1, 1, 0, 1, 0, 0, 1, 0, 0, 1, 1, 0]
noncomputable def rof_c_R14 : Array Oper := rAt Tryd.prog 60 [1, 1, 1, 1, 1, 0, 1, 0, 0, 1, 0, 0, 1, 1, 1]
noncomputable def rof_c_R10 : Array Oper := rAt Tryd.prog 60 [1, 1, 1, 1, 1, 0, 1, 0, 0, 1, 1]
noncomputable def rof_c_R15 : Array Oper := rAt Tryd.prog 60 [1, 1, 1, 1, 1, 1, 0]
set_option maxRecDepth 100000 in
theorem rof_c (bs : Value) (bl : List Nat) (w : World) (h_b : SlV w bs bl.length (B bl)) (h_ks0 : Rd w (some ⟨0, 0, none⟩) ((hw KL).toList)) (hbl : bl.length ≤ 900000) (hB : Byt bl) :
    Calls Tryd.prog 60 #[bs] w fun e w' => e = .returned (.agg (hv (shaL bl))) ∧ Fr w w' N0 := by
  obtain ⟨ao_b, cap_b, rfl, h_b⟩ := h_b
  refine c_enter (mk 67 [(0, (.slice ao_b bl.length cap_b))] (fun _ => undef)) Tryd.func60 (by kernel_rfl) (by kernel_rfl) ?_
  refine c_seq [0] [1] (by kernel_rfl) ?_
  refine c_reg 0 rof_c_R0 (by kernel_rfl) ?_
  refine at_do (by kernel_rfl) (op_new (.cells #[(.int .u8 0), (.int .u8 0), (.int .u8 0), (.int .u8 0), (.int .u8 0), (.int .u8 0), (.int .u8 0), (.int .u8 0), (.int .u8 0), (.int .u8 0), (.int .u8 0), (.int .u8 0), (.int .u8 0), (.int .u8 0), (.int .u8 0), (.int .u8 0), (.int .u8 0), (.int .u8 0), (.int .u8 0), (.int .u8 0), (.int .u8 0), (.int .u8 0), (.int .u8 0), (.int .u8 0), (.int .u8 0), (.int .u8 0), (.int .u8 0), (.int .u8 0), (.int .u8 0), (.int .u8 0), (.int .u8 0), (.int .u8 0)] 49) (fun N => (.pointer (some ⟨N, 0, none⟩))) (fun _ => by kernel_rfl) (fun w2_ b1_ h3_ q4_ F5_ => ?_))
  have d6_ : Dis (One b1_) (Ar ao_b (B bl)) := Dis.fresh (New.one q4_) (Rd.in h_b)
  have d7_ : Dis (One b1_) (Ar (some ⟨0, 0, none⟩) ((hw KL).toList)) := Dis.fresh (New.one q4_) (Rd.in h_ks0)
  have N8_ : New w N0 (One b1_) := New.made q4_ (Fr.size (Fr.refl w N0))
  have T9_ := Fr.tr (Fr.refl w N0) F5_
  refine at_done (by kernel_rfl) ?_
  refine then_n ?_
  refine c_seq [1, 0] [1, 1] (by kernel_rfl) ?_
  refine c_reg 1 rof_c_R1 (by kernel_rfl) ?_
  refine at_pures 1 (by kernel_rfl) (by kernel_rfl) ?_
  refine at_do (by kernel_rfl) (op_new (.cells #[(.int .u32 0), (.int .u32 0), (.int .u32 0), (.int .u32 0), (.int .u32 0), (.int .u32 0), (.int .u32 0), (.int .u32 0)] 127) (fun N => (.pointer (some ⟨N, 0, none⟩))) (fun _ => by kernel_rfl) (fun w11_ b10_ h12_ q13_ F14_ => ?_))
  have h15_ := Rd.keep' h_b F5_ Dis.n0
  have d16_ : Dis (One b10_) (Ar ao_b (B bl)) := Dis.fresh (New.one q13_) (Rd.in h15_)
  have h17_ := Rd.keep' h_ks0 F5_ Dis.n0
  have d18_ : Dis (One b10_) (Ar (some ⟨0, 0, none⟩) ((hw KL).toList)) := Dis.fresh (New.one q13_) (Rd.in h17_)
  have d19_ : Dis (One b10_) (One b1_) := Dis.fresh (New.one q13_) (In.one h3_)
  have N20_ : New w N0 (One b10_) := New.made q13_ (Fr.size T9_)
  have T21_ := Fr.tr T9_ F14_
  have h22_ := Rd.keep' h15_ F14_ Dis.n0
  have h23_ := Rd.keep' h17_ F14_ Dis.n0
  have h24_ := Fr.keep F14_ h3_ Dis.n0
  refine at_do (by kernel_rfl) (op_store 127 (.tmp 3) (.tmp 8) b10_ 0 (.agg #[(.int .u32 1779033703), (.int .u32 3144134277), (.int .u32 1013904242), (.int .u32 2773480762), (.int .u32 1359893119), (.int .u32 2600822924), (.int .u32 528734635), (.int .u32 1541459225)]) _ _ #[(.int .u32 1779033703), (.int .u32 3144134277), (.int .u32 1013904242), (.int .u32 2773480762), (.int .u32 1359893119), (.int .u32 2600822924), (.int .u32 528734635), (.int .u32 1541459225)] (by kernel_rfl) (by kernel_rfl) (by kernel_rfl) h12_ (by kernel_rfl) (by kernel_rfl) (by kernel_rfl) (by kernel_rfl) (fun w25_ h26_ z27_ F28_ => ?_))
  have T29_ := Fr.then T21_ F28_ N20_
  have h30_ := Rd.keep' h22_ F28_ (Dis.sym d16_)
  have h31_ := Rd.keep' h23_ F28_ (Dis.sym d18_)
  have h32_ := Fr.keep F28_ h24_ (Dis.sym d19_)
  refine at_done (by kernel_rfl) ?_
  refine then_n ?_
  refine c_seq [1, 1, 0] [1, 1, 1] (by kernel_rfl) ?_
  refine c_reg 2 rof_c_R2 (by kernel_rfl) ?_
  refine at_pures 1 (by kernel_rfl) (by kernel_rfl) ?_
  refine at_do (by kernel_rfl) (op_call 76 #[(.tmp 9)] #[(.slice ao_b bl.length cap_b)] (by kernel_rfl) (by kernel_rfl) (by kernel_rfl) ?_)
  have C40_ := padded_c (.slice ao_b bl.length cap_b) bl w25_ ⟨_, _, rfl, h30_⟩  (by first | omega | with_reducible assumption | (simp only [List.length_append, List.length_cons, List.length_nil, putB_length]; omega) | decide)
  refine Calls.mono C40_ ?_
  rintro e39_ w37_ ⟨vout33_, rfl, h34_, F38_, h36_⟩
  refine ⟨_, rfl, ?_⟩
  have d41_ : Dis (Own vout33_) (Ar ao_b (B bl)) := Dis.fresh h36_ (Rd.in h30_)
  have d42_ : Dis (Own vout33_) (Ar (some ⟨0, 0, none⟩) ((hw KL).toList)) := Dis.fresh h36_ (Rd.in h31_)
  have d43_ : Dis (Own vout33_) (One b1_) := Dis.fresh h36_ (In.one h32_)
  have d44_ : Dis (Own vout33_) (One b10_) := Dis.fresh h36_ (In.one h26_)
  have T45_ := Fr.tr T29_ F38_
  have h46_ := Rd.keep' h30_ F38_ Dis.n0
  have h47_ := Rd.keep' h31_ F38_ Dis.n0
  have h48_ := Fr.keep F38_ h32_ Dis.n0
  have h49_ := Fr.keep F38_ h26_ Dis.n0
  have N51_ : New w N0 (Own vout33_) := New.later' h36_ (Fr.size T29_)
  obtain ⟨ao52_, cap53_, rfl, hc54_, hm55_, hR56_, ho57_⟩ := Row.read h34_
  refine at_pures 3 (by kernel_rfl) (by kernel_rfl) ?_
  refine at_done (by kernel_rfl) ?_
  refine then_n ?_
  refine c_seq [1, 1, 1, 0] [1, 1, 1, 1] (by kernel_rfl) ?_
  refine c_seq [1, 1, 1, 0, 0] [1, 1, 1, 0, 1] (by kernel_rfl) ?_
  refine c_reg 3 rof_c_R3 (by kernel_rfl) ?_
  refine at_pures 1 (by kernel_rfl) (by kernel_rfl) ?_
  refine at_done (by kernel_rfl) ?_
  refine then_n ?_
  refine c_block 0 [1, 1, 1, 0, 1, 0] (by kernel_rfl) ?_
  have hpm := padded_length bl; have hpl := padL_length bl.length; have hPl : (bl ++ padL bl.length).length = bl.length + (padL bl.length).length := List.length_append; have hBP : Byt (bl ++ padL bl.length) := hB.cat (padL_byt _)
  refine c_loop (fun a w' => ∃ (j : Nat), (∃ u, a = mk 67 [(0, (.slice ao_b bl.length cap_b)), (2, (.pointer (some ⟨b1_, 0, none⟩))), (3, (.pointer (some ⟨b10_, 0, none⟩))), (4, (.slice ao52_ ((bl ++ padL bl.length).length) cap53_)), (5, (.int .i64 ((64 * j : Nat) : Int))), (8, (.agg #[(.int .u32 1779033703), (.int .u32 3144134277), (.int .u32 1013904242), (.int .u32 2773480762), (.int .u32 1359893119), (.int .u32 2600822924), (.int .u32 528734635), (.int .u32 1541459225)])), (9, (.slice ao_b bl.length cap_b)), (10, (.slice ao52_ ((bl ++ padL bl.length).length) cap53_))] u) ∧ (64 * j ≤ (bl ++ padL bl.length).length) ∧ (Rd w' ao_b (B bl)) ∧ (Rd w' (some ⟨0, 0, none⟩) ((hw KL).toList)) ∧ (w'.heap[b1_]? = some (.cells #[(.int .u8 0), (.int .u8 0), (.int .u8 0), (.int .u8 0), (.int .u8 0), (.int .u8 0), (.int .u8 0), (.int .u8 0), (.int .u8 0), (.int .u8 0), (.int .u8 0), (.int .u8 0), (.int .u8 0), (.int .u8 0), (.int .u8 0), (.int .u8 0), (.int .u8 0), (.int .u8 0), (.int .u8 0), (.int .u8 0), (.int .u8 0), (.int .u8 0), (.int .u8 0), (.int .u8 0), (.int .u8 0), (.int .u8 0), (.int .u8 0), (.int .u8 0), (.int .u8 0), (.int .u8 0), (.int .u8 0), (.int .u8 0)] 49 (0, 0))) ∧ (w'.heap[b10_]? = some (.cells (hw8 (stN (bl ++ padL bl.length) j)) 127 (0, 0))) ∧ (Row w' 5 1 (.slice ao52_ ((bl ++ padL bl.length).length) cap53_) ((bl ++ padL bl.length).length) (B (bl ++ padL bl.length))) ∧ (Fr w w' N0)) (fun a _ => cnt ((bl ++ padL bl.length).length) 5 a) [1, 1, 1, 0, 1, 0, 0] (by kernel_rfl) ⟨0, is_mk (by kernel_rfl) (by kernel_rfl) (by kernel_rfl), ⟨Nat.zero_le _, h46_, h47_, h48_, (cast (by kernel_rfl) h49_), h34_, T45_⟩⟩ ?_
  rintro a59_ w60_ ⟨j, ⟨u61_, rfl⟩, ⟨hj, q_0L58_, q_1L58_, q_2L58_, q_3L58_, q_4L58_, hFrL58_⟩⟩
  refine c_seq [1, 1, 1, 0, 1, 0, 0, 0] [1, 1, 1, 0, 1, 0, 0, 1] (by kernel_rfl) ?_
  refine c_seq [1, 1, 1, 0, 1, 0, 0, 0, 0] [1, 1, 1, 0, 1, 0, 0, 0, 1] (by kernel_rfl) ?_
  refine c_reg 4 rof_c_R4 (by kernel_rfl) ?_
  refine at_pures 4 (by kernel_rfl) (by kernel_rfl) ?_
  refine at_done (by kernel_rfl) ?_
  refine then_n ?_
  refine c_if (.tmp 14) (decide (((64 * j : Nat) : Int) < ((bl ++ padL bl.length).length : Int))) [1, 1, 1, 0, 1, 0, 0, 0, 1, 0] [1, 1, 1, 0, 1, 0, 0, 0, 1, 1] (by kernel_rfl) (by kernel_rfl) (fun c62_ => ?_) (fun c62_ => ?_)
  · -- yes
    replace c62_ : ((64 * j : Nat) : Int) < ((bl ++ padL bl.length).length : Int) := of_decide_eq_true c62_
    refine c_skip (by kernel_rfl) ?_
    refine then_n ?_
    refine c_seq [1, 1, 1, 0, 1, 0, 0, 1, 0] [1, 1, 1, 0, 1, 0, 0, 1, 1] (by kernel_rfl) ?_
    refine c_block 1 [1, 1, 1, 0, 1, 0, 0, 1, 0, 0] (by kernel_rfl) ?_
    refine c_plan 6 rof_c_R6 (fun w' => w'.heap[b10_]? = some (.cells (hw8 (stN (bl ++ padL bl.length) j)) 127 (0, 0)) ∧ True) rof_c_sk6 rof_c_pl6 (by kernel_rfl) (by kernel_rfl) (by kernel_rfl) (by kernel_rfl) (by kernel_rfl) (fun w63_ F64_ => ?_)
    have T65_ := Fr.tr hFrL58_ F64_
    have h67_ := Fr.keep F64_ q_3L58_ Dis.n0
    have S66_ : w63_.heap[b10_]? = some (.cells (hw8 (stN (bl ++ padL bl.length) j)) 127 (0, 0)) ∧ True := ⟨h67_, trivial⟩
    refine pl_read 0 (.agg (hw8 (stN (bl ++ padL bl.length) j))) (by kernel_rfl) (by kernel_rfl) (fun w' hs => run_loadN 127 (.tmp 3) b10_ 0 8 _ _ _ (hw8 (stN (bl ++ padL bl.length) j)) (by kernel_rfl) (by kernel_rfl) (by kernel_rfl) (by kernel_rfl) hs.1 (by kernel_rfl) (by kernel_rfl)) S66_ ?_
    refine pl_pures 4 (by kernel_rfl) (by kernel_rfl) (fun _ => S66_) ?_
    refine pl_as 4 (.int .i64 (IntKind.i64.wrap (((64 * j : Nat) : Int) + (64 : Int)))) (.int .i64 (((64 * j : Nat) : Int) + (64 : Int))) (by kernel_rfl) (by kernel_rfl) ⟨by kernel_rfl, by kernel_rfl⟩ (congrArg (Value.int .i64) (wrapN_i64 (by omega) (by omega))) (fun _ => S66_) ?_
    have h64 : (((bl ++ padL bl.length).drop (64 * j)).take 64).length = 64 := by rw [List.length_take, List.length_drop]; omega
    have h69_ := Row.keep q_4L58_ F64_ Dis.n0
    have hB64 : Byt (((bl ++ padL bl.length).drop (64 * j)).take 64) := (hBP.drop _).take 64; have hcp := Row.le h69_
    refine pl_quiet 5 (.slice (cutA ao52_ (64 * j : Nat) cap53_ 1) ((((bl ++ padL bl.length).drop (64 * j)).take 64).length) (cap53_ - (64 * j : Nat))) (by kernel_rfl) (by kernel_rfl) (fun w' => by rw [show (((bl ++ padL bl.length).drop (64 * j)).take 64).length = ((64 * j : Nat) + 64 - (64 * j : Nat)) from by omega]; exact run_cut 64 (.tmp 18) (some (.tmp 19)) (some (.tmp 21)) none 1 ao52_ ((bl ++ padL bl.length).length) cap53_ (64 * j : Nat) ((64 * j : Nat) + 64) cap53_ (by kernel_rfl) (by kernel_rfl) (by kernel_rfl) (by kernel_rfl) (by kernel_rfl) (by kernel_rfl) (by kernel_rfl) (by kernel_rfl) (by omega) (by omega) (by omega)) (fun _ => S66_) ?_
    have h70_ := Rd.keep' q_0L58_ F64_ Dis.n0
    have h71_ := Rd.keep' q_1L58_ F64_ Dis.n0
    have h72_ := Fr.keep F64_ q_2L58_ Dis.n0
    have h68_ : Rd w63_ (cutA ao52_ (64 * j : Nat) cap53_ 1) (B (((bl ++ padL bl.length).drop (64 * j)).take 64)) := Rd.cutB (Row.rd h69_) (64 * j) 64 cap53_ (by omega)
    refine pl_do 6 (by kernel_rfl) (by kernel_rfl) (op_call 77 #[(.tmp 17), (.tmp 22)] #[(.agg (hw8 (stN (bl ++ padL bl.length) j))), (.slice (cutA ao52_ (64 * j : Nat) cap53_ 1) ((((bl ++ padL bl.length).drop (64 * j)).take 64).length) (cap53_ - (64 * j : Nat)))] (by kernel_rfl) (by kernel_rfl) (by kernel_rfl) ?_)
    have C77_ := rblock_c (stN (bl ++ padL bl.length) j) (.slice (cutA ao52_ (64 * j : Nat) cap53_ 1) ((((bl ++ padL bl.length).drop (64 * j)).take 64).length) (cap53_ - (64 * j : Nat))) (((bl ++ padL bl.length).drop (64 * j)).take 64) w63_ ⟨_, _, rfl, h68_⟩ h71_  (by first | assumption | omega) (by first | omega | with_reducible assumption | (simp only [List.length_append, List.length_cons, List.length_nil, putB_length]; omega) | decide)
    refine Calls.mono C77_ ?_
    rintro e76_ w74_ ⟨rfl, F75_⟩
    refine ⟨_, rfl, ?_⟩
    have T78_ := Fr.tr T65_ F75_
    have h79_ := Rd.keep' h70_ F75_ Dis.n0
    have h80_ := Rd.keep' h71_ F75_ Dis.n0
    have h81_ := Fr.keep F75_ h72_ Dis.n0
    have h82_ := Fr.keep F75_ h67_ Dis.n0
    have h83_ := Row.keep h69_ F75_ Dis.n0
    have h84_ := Rd.keep' h68_ F75_ Dis.n0
    refine ⟨off (by kernel_rfl), ?_⟩
    refine pl_do 7 (by kernel_rfl) (by kernel_rfl) (op_store 127 (.tmp 3) (.tmp 23) b10_ 0 (.agg (hw8 (compress (stN (bl ++ padL bl.length) j) (((bl ++ padL bl.length).drop (64 * j)).take 64)))) _ _ (hw8 (compress (stN (bl ++ padL bl.length) j) (((bl ++ padL bl.length).drop (64 * j)).take 64))) (by kernel_rfl) (by kernel_rfl) (by kernel_rfl) h82_ (by kernel_rfl) (by kernel_rfl) (by kernel_rfl) (by kernel_rfl) (fun w85_ h86_ z87_ F88_ => ?_))
    have T89_ := Fr.then T78_ F88_ N20_
    have h90_ := Rd.keep' h79_ F88_ (Dis.sym d16_)
    have h91_ := Rd.keep' h80_ F88_ (Dis.sym d18_)
    have h92_ := Fr.keep F88_ h81_ (Dis.sym d19_)
    have h93_ := Row.keep h83_ F88_ d44_
    have h94_ := Rd.keep' h84_ F88_ (Sub.dis (Sub.trans (Sub.cutB (l := (bl ++ padL bl.length))) (Row.ar h69_)) d44_)
    refine ⟨off (by kernel_rfl), ?_⟩
    refine pl_done (by kernel_rfl) ?_
    refine blk_n ?_
    refine then_n ?_
    refine c_reg 5 rof_c_R5 (by kernel_rfl) ?_
    refine at_pures 1 (by kernel_rfl) (by kernel_rfl) ?_
    refine at_int (kd := .i64) (IntKind.i64.wrap (((64 * j : Nat) : Int) + (64 : Int))) (((64 * (j + 1) : Nat) : Int)) (by kernel_rfl) (by kernel_rfl) (by rw [wrapN_i64 (by omega) (by omega)]; omega) ?_
    refine at_pures 3 (by kernel_rfl) (by kernel_rfl) ?_
    refine at_done (by kernel_rfl) ?_
    refine then_n ?_
    exact ⟨⟨j + 1, is_mk (by kernel_rfl) (by kernel_rfl) (by kernel_rfl), ⟨(by omega), h90_, h91_, h92_, (cast (by kernel_rfl) h86_), h93_, T89_⟩⟩, cnt_lt (k := ((64 * j : Nat) : Int)) (k' := ((64 * (j + 1) : Nat) : Int)) (by kernel_rfl) (by kernel_rfl) (by omega) (by omega)⟩
  · -- no
    replace c62_ : ¬ (((64 * j : Nat) : Int) < ((bl ++ padL bl.length).length : Int)) := of_decide_eq_false c62_
    refine c_exit 0 (by kernel_rfl) ?_
    refine then_e ?_
    refine then_e ?_
    refine blk_hit ?_
    refine then_n ?_
    refine c_seq [1, 1, 1, 1, 0] [1, 1, 1, 1, 1] (by kernel_rfl) ?_
    refine c_reg 7 rof_c_R7 (by kernel_rfl) ?_
    refine at_pures 1 (by kernel_rfl) (by kernel_rfl) ?_
    refine at_do (by kernel_rfl) (op_new (.cells #[(.int .u8 0), (.int .u8 0), (.int .u8 0), (.int .u8 0), (.int .u8 0), (.int .u8 0), (.int .u8 0), (.int .u8 0), (.int .u8 0), (.int .u8 0), (.int .u8 0), (.int .u8 0), (.int .u8 0), (.int .u8 0), (.int .u8 0), (.int .u8 0), (.int .u8 0), (.int .u8 0), (.int .u8 0), (.int .u8 0), (.int .u8 0), (.int .u8 0), (.int .u8 0), (.int .u8 0), (.int .u8 0), (.int .u8 0), (.int .u8 0), (.int .u8 0), (.int .u8 0), (.int .u8 0), (.int .u8 0), (.int .u8 0)] 49) (fun N => (.pointer (some ⟨N, 0, none⟩))) (fun _ => by kernel_rfl) (fun w96_ b95_ h97_ q98_ F99_ => ?_))
    have d100_ : Dis (One b95_) (Ar ao_b (B bl)) := Dis.fresh (New.one q98_) (Rd.in q_0L58_)
    have d101_ : Dis (One b95_) (Ar (some ⟨0, 0, none⟩) ((hw KL).toList)) := Dis.fresh (New.one q98_) (Rd.in q_1L58_)
    have d102_ : Dis (One b95_) (One b1_) := Dis.fresh (New.one q98_) (In.one q_2L58_)
    have d103_ : Dis (One b95_) (One b10_) := Dis.fresh (New.one q98_) (In.one q_3L58_)
    have d104_ : Dis (One b95_) (Own (.slice ao52_ ((bl ++ padL bl.length).length) cap53_)) := Dis.fresh (New.one q98_) (Row.in q_4L58_)
    have N105_ : New w N0 (One b95_) := New.made q98_ (Fr.size hFrL58_)
    have T106_ := Fr.tr hFrL58_ F99_
    have h107_ := Rd.keep' q_0L58_ F99_ Dis.n0
    have h108_ := Rd.keep' q_1L58_ F99_ Dis.n0
    have h109_ := Fr.keep F99_ q_2L58_ Dis.n0
    have h110_ := Fr.keep F99_ q_3L58_ Dis.n0
    have h111_ := Row.keep q_4L58_ F99_ Dis.n0
    refine at_do (by kernel_rfl) (op_store 49 (.tmp 6) (.tmp 24) b95_ 0 (.agg #[(.int .u8 0), (.int .u8 0), (.int .u8 0), (.int .u8 0), (.int .u8 0), (.int .u8 0), (.int .u8 0), (.int .u8 0), (.int .u8 0), (.int .u8 0), (.int .u8 0), (.int .u8 0), (.int .u8 0), (.int .u8 0), (.int .u8 0), (.int .u8 0), (.int .u8 0), (.int .u8 0), (.int .u8 0), (.int .u8 0), (.int .u8 0), (.int .u8 0), (.int .u8 0), (.int .u8 0), (.int .u8 0), (.int .u8 0), (.int .u8 0), (.int .u8 0), (.int .u8 0), (.int .u8 0), (.int .u8 0), (.int .u8 0)]) _ _ #[(.int .u8 0), (.int .u8 0), (.int .u8 0), (.int .u8 0), (.int .u8 0), (.int .u8 0), (.int .u8 0), (.int .u8 0), (.int .u8 0), (.int .u8 0), (.int .u8 0), (.int .u8 0), (.int .u8 0), (.int .u8 0), (.int .u8 0), (.int .u8 0), (.int .u8 0), (.int .u8 0), (.int .u8 0), (.int .u8 0), (.int .u8 0), (.int .u8 0), (.int .u8 0), (.int .u8 0), (.int .u8 0), (.int .u8 0), (.int .u8 0), (.int .u8 0), (.int .u8 0), (.int .u8 0), (.int .u8 0), (.int .u8 0)] (by kernel_rfl) (by kernel_rfl) (by kernel_rfl) h97_ (by kernel_rfl) (by kernel_rfl) (by kernel_rfl) (by kernel_rfl) (fun w112_ h113_ z114_ F115_ => ?_))
    have T116_ := Fr.then T106_ F115_ N105_
    have h117_ := Rd.keep' h107_ F115_ (Dis.sym d100_)
    have h118_ := Rd.keep' h108_ F115_ (Dis.sym d101_)
    have h119_ := Fr.keep F115_ h109_ (Dis.sym d102_)
    have h120_ := Fr.keep F115_ h110_ (Dis.sym d103_)
    have h121_ := Row.keep h111_ F115_ (Dis.sym d104_)
    refine at_done (by kernel_rfl) ?_
    refine then_n ?_
    refine c_seq [1, 1, 1, 1, 1, 0] [1, 1, 1, 1, 1, 1] (by kernel_rfl) ?_
    refine c_seq [1, 1, 1, 1, 1, 0, 0] [1, 1, 1, 1, 1, 0, 1] (by kernel_rfl) ?_
    refine c_reg 8 rof_c_R8 (by kernel_rfl) ?_
    refine at_pures 1 (by kernel_rfl) (by kernel_rfl) ?_
    refine at_done (by kernel_rfl) ?_
    refine then_n ?_
    refine c_block 2 [1, 1, 1, 1, 1, 0, 1, 0] (by kernel_rfl) ?_
    refine c_loop (fun a w' => ∃ (i : Nat), (∃ u, a = mk 67 [(0, (.slice ao_b bl.length cap_b)), (2, (.pointer (some ⟨b1_, 0, none⟩))), (3, (.pointer (some ⟨b10_, 0, none⟩))), (4, (.slice ao52_ ((bl ++ padL bl.length).length) cap53_)), (5, (.int .i64 ((64 * j : Nat) : Int))), (6, (.pointer (some ⟨b95_, 0, none⟩))), (7, (.int .i64 (i : Int))), (8, (.agg #[(.int .u32 1779033703), (.int .u32 3144134277), (.int .u32 1013904242), (.int .u32 2773480762), (.int .u32 1359893119), (.int .u32 2600822924), (.int .u32 528734635), (.int .u32 1541459225)])), (9, (.slice ao_b bl.length cap_b)), (10, (.slice ao52_ ((bl ++ padL bl.length).length) cap53_)), (11, (.int .i64 ((64 * j : Nat) : Int))), (12, (.slice ao52_ ((bl ++ padL bl.length).length) cap53_)), (13, (.int .i64 ((bl ++ padL bl.length).length : Int))), (14, (.bool (decide (((64 * j : Nat) : Int) < ((bl ++ padL bl.length).length : Int))))), (24, (.agg #[(.int .u8 0), (.int .u8 0), (.int .u8 0), (.int .u8 0), (.int .u8 0), (.int .u8 0), (.int .u8 0), (.int .u8 0), (.int .u8 0), (.int .u8 0), (.int .u8 0), (.int .u8 0), (.int .u8 0), (.int .u8 0), (.int .u8 0), (.int .u8 0), (.int .u8 0), (.int .u8 0), (.int .u8 0), (.int .u8 0), (.int .u8 0), (.int .u8 0), (.int .u8 0), (.int .u8 0), (.int .u8 0), (.int .u8 0), (.int .u8 0), (.int .u8 0), (.int .u8 0), (.int .u8 0), (.int .u8 0), (.int .u8 0)]))] u) ∧ (i ≤ 8) ∧ (Rd w' ao_b (B bl)) ∧ (Rd w' (some ⟨0, 0, none⟩) ((hw KL).toList)) ∧ (w'.heap[b1_]? = some (.cells #[(.int .u8 0), (.int .u8 0), (.int .u8 0), (.int .u8 0), (.int .u8 0), (.int .u8 0), (.int .u8 0), (.int .u8 0), (.int .u8 0), (.int .u8 0), (.int .u8 0), (.int .u8 0), (.int .u8 0), (.int .u8 0), (.int .u8 0), (.int .u8 0), (.int .u8 0), (.int .u8 0), (.int .u8 0), (.int .u8 0), (.int .u8 0), (.int .u8 0), (.int .u8 0), (.int .u8 0), (.int .u8 0), (.int .u8 0), (.int .u8 0), (.int .u8 0), (.int .u8 0), (.int .u8 0), (.int .u8 0), (.int .u8 0)] 49 (0, 0))) ∧ (w'.heap[b10_]? = some (.cells (hw8 (stN (bl ++ padL bl.length) j)) 127 (0, 0))) ∧ (w'.heap[b95_]? = some (.cells (hv (fillB (outB (stN (bl ++ padL bl.length) j)) (4 * i))) 49 (0, 0))) ∧ (Fr w w' N0)) (fun a _ => cnt (8) 7 a) [1, 1, 1, 1, 1, 0, 1, 0, 0] (by kernel_rfl) ⟨0, is_mk (by kernel_rfl) (by kernel_rfl) (by kernel_rfl), ⟨Nat.zero_le _, h117_, h118_, h119_, h120_, (cast (by kernel_rfl) h113_), T116_⟩⟩ ?_
    rintro a123_ w124_ ⟨i, ⟨u125_, rfl⟩, ⟨hi, q_0L122_, q_1L122_, q_2L122_, q_3L122_, q_4L122_, hFrL122_⟩⟩
    have hX := ((stN (bl ++ padL bl.length) j).getD i 0).isLt
    refine c_seq [1, 1, 1, 1, 1, 0, 1, 0, 0, 0] [1, 1, 1, 1, 1, 0, 1, 0, 0, 1] (by kernel_rfl) ?_
    refine c_seq [1, 1, 1, 1, 1, 0, 1, 0, 0, 0, 0] [1, 1, 1, 1, 1, 0, 1, 0, 0, 0, 1] (by kernel_rfl) ?_
    refine c_reg 9 rof_c_R9 (by kernel_rfl) ?_
    refine at_pures 2 (by kernel_rfl) (by kernel_rfl) ?_
    refine at_done (by kernel_rfl) ?_
    refine then_n ?_
    refine c_if (.tmp 26) (decide ((i : Int) < (8 : Int))) [1, 1, 1, 1, 1, 0, 1, 0, 0, 0, 1, 0] [1, 1, 1, 1, 1, 0, 1, 0, 0, 0, 1, 1] (by kernel_rfl) (by kernel_rfl) (fun c126_ => ?_) (fun c126_ => ?_)
    · -- yes
      replace c126_ : (i : Int) < (8 : Int) := of_decide_eq_true c126_
      refine c_skip (by kernel_rfl) ?_
      refine then_n ?_
      refine c_seq [1, 1, 1, 1, 1, 0, 1, 0, 0, 1, 0] [1, 1, 1, 1, 1, 0, 1, 0, 0, 1, 1] (by kernel_rfl) ?_
      refine c_block 3 [1, 1, 1, 1, 1, 0, 1, 0, 0, 1, 0, 0] (by kernel_rfl) ?_
      refine c_seq [1, 1, 1, 1, 1, 0, 1, 0, 0, 1, 0, 0, 0] [1, 1, 1, 1, 1, 0, 1, 0, 0, 1, 0, 0, 1] (by kernel_rfl) ?_
      refine c_reg 11 rof_c_R11 (by kernel_rfl) ?_
      refine at_pures 1 (by kernel_rfl) (by kernel_rfl) ?_
      refine at_int (kd := .i64) (IntKind.i64.wrap ((4 : Int) * (i : Int))) ((4 : Int) * (i : Int)) (by kernel_rfl) (by kernel_rfl) (wrapN_i64 (by omega) (by omega)) ?_
      refine at_pures 3 (by kernel_rfl) (by kernel_rfl) ?_
      refine at_run (.pointer (some ⟨b10_, 0 + i * 1, none⟩)) _ (by kernel_rfl) (run_idx_arr 127 (.tmp 3) (.tmp 31) 1 b10_ 0 8 .i64 i (by kernel_rfl) (by kernel_rfl) (by kernel_rfl) (by kernel_rfl) (by kernel_rfl) (by omega)) ?_
      refine at_run (.int .u32 (((stN (bl ++ padL bl.length) j).getD i 0).toNat : Int)) _ (by kernel_rfl) (run_load1 29 (.tmp 32) b10_ (0 + i * 1) _ _ _ (.int .u32 (((stN (bl ++ padL bl.length) j).getD i 0).toNat : Int)) (by kernel_rfl) (by kernel_rfl) (by kernel_rfl) q_3L122_ (hw8_get (stN (bl ++ padL bl.length) j) i (by omega))) ?_
      refine at_int (kd := .u32) (IntKind.u32.wrap ((((stN (bl ++ padL bl.length) j).getD i 0).toNat : Int).tdiv (16777216 : Int))) ((((((stN (bl ++ padL bl.length) j).getD i 0).toNat) / 16777216 : Nat) : Int)) (by kernel_rfl) (by kernel_rfl) (quo_u32 (by omega)) ?_
      refine at_int (kd := .u8) (IntKind.u8.wrap ((((((stN (bl ++ padL bl.length) j).getD i 0).toNat) / 16777216 : Nat) : Int))) ((((((stN (bl ++ padL bl.length) j).getD i 0).toNat) / 16777216 : Nat) : Int)) (by kernel_rfl) (by kernel_rfl) (wrapN_u8 (by omega) (by omega)) ?_
      refine at_run (.pointer (some ⟨b95_, 0 + (4 * i) * 1, none⟩)) _ (by kernel_rfl) (run_idx_arr 49 (.tmp 6) (.tmp 30) 1 b95_ 0 32 .i64 (4 * i) (by kernel_rfl) (by kernel_rfl) (by kernel_rfl) (by kernel_rfl) (by kernel_rfl) (by omega)) ?_
      refine at_do (by kernel_rfl) (op_store1 5 (.tmp 36) (.tmp 35) b95_ (0 + (4 * i) * 1) (.int .u8 (((((stN (bl ++ padL bl.length) j).getD i 0).toNat) / 16777216 : Nat) : Int)) _ _ (hv (fillB (outB (stN (bl ++ padL bl.length) j)) (4 * i + 1))) (by kernel_rfl) (by kernel_rfl) (by kernel_rfl) (by rfl) (by rfl) q_4L122_ (by kernel_rfl) (Nat.ble_eq_true_of_le (by show 0 + (4 * i) * 1 + 1 ≤ 32; omega)) (by rw [show (((((stN (bl ++ padL bl.length) j).getD i 0).toNat) / 16777216 : Nat) : Int) = (((outB (stN (bl ++ padL bl.length) j)).getD (4 * i) 0 : Nat) : Int) from by have e := outB_0 (stN (bl ++ padL bl.length) j) (i := i) (by omega); omega, hv_set (fillB_length (by rw [outB_length]; omega) (by omega)) (by omega), fillB_step (by rw [outB_length]; omega) (by omega)]) (fun w127_ h128_ z129_ F130_ => ?_))
      have T131_ := Fr.then hFrL122_ F130_ N105_
      have h132_ := Rd.keep' q_0L122_ F130_ (Dis.sym d100_)
      have h133_ := Rd.keep' q_1L122_ F130_ (Dis.sym d101_)
      have h134_ := Fr.keep F130_ q_2L122_ (Dis.sym d102_)
      have h135_ := Fr.keep F130_ q_3L122_ (Dis.sym d103_)
      refine at_done (by kernel_rfl) ?_
      refine then_n ?_
      refine c_seq [1, 1, 1, 1, 1, 0, 1, 0, 0, 1, 0, 0, 1, 0] [1, 1, 1, 1, 1, 0, 1, 0, 0, 1, 0, 0, 1, 1] (by kernel_rfl) ?_
      refine c_reg 12 rof_c_R12 (by kernel_rfl) ?_
      refine at_pures 1 (by kernel_rfl) (by kernel_rfl) ?_
      refine at_int (kd := .i64) (IntKind.i64.wrap ((4 : Int) * (i : Int))) ((4 : Int) * (i : Int)) (by kernel_rfl) (by kernel_rfl) (wrapN_i64 (by omega) (by omega)) ?_
      refine at_int (kd := .i64) (IntKind.i64.wrap (((4 : Int) * (i : Int)) + (1 : Int))) (((4 : Int) * (i : Int)) + (1 : Int)) (by kernel_rfl) (by kernel_rfl) (wrapN_i64 (by omega) (by omega)) ?_
      refine at_pures 4 (by kernel_rfl) (by kernel_rfl) ?_
      refine at_run (.pointer (some ⟨b10_, 0 + i * 1, none⟩)) _ (by kernel_rfl) (run_idx_arr 127 (.tmp 3) (.tmp 40) 1 b10_ 0 8 .i64 i (by kernel_rfl) (by kernel_rfl) (by kernel_rfl) (by kernel_rfl) (by kernel_rfl) (by omega)) ?_
      refine at_run (.int .u32 (((stN (bl ++ padL bl.length) j).getD i 0).toNat : Int)) _ (by kernel_rfl) (run_load1 29 (.tmp 41) b10_ (0 + i * 1) _ _ _ (.int .u32 (((stN (bl ++ padL bl.length) j).getD i 0).toNat : Int)) (by kernel_rfl) (by kernel_rfl) (by kernel_rfl) h135_ (hw8_get (stN (bl ++ padL bl.length) j) i (by omega))) ?_
      refine at_int (kd := .u32) (IntKind.u32.wrap ((((stN (bl ++ padL bl.length) j).getD i 0).toNat : Int).tdiv (65536 : Int))) ((((((stN (bl ++ padL bl.length) j).getD i 0).toNat) / 65536 : Nat) : Int)) (by kernel_rfl) (by kernel_rfl) (quo_u32 (by omega)) ?_
      refine at_int (kd := .u32) ((((((stN (bl ++ padL bl.length) j).getD i 0).toNat) / 65536 : Nat) : Int).tmod (256 : Int)) (((((((stN (bl ++ padL bl.length) j).getD i 0).toNat) / 65536 : Nat) % 256 : Nat) : Int)) (by kernel_rfl) (by kernel_rfl) (rem_nat2 (n := ((((stN (bl ++ padL bl.length) j).getD i 0).toNat) / 65536 : Nat)) (by omega)) ?_
      refine at_int (kd := .u8) (IntKind.u8.wrap (((((((stN (bl ++ padL bl.length) j).getD i 0).toNat) / 65536 : Nat) % 256 : Nat) : Int))) (((((((stN (bl ++ padL bl.length) j).getD i 0).toNat) / 65536 : Nat) % 256 : Nat) : Int)) (by kernel_rfl) (by kernel_rfl) (wrapN_u8 (by omega) (by omega)) ?_
      refine at_run (.pointer (some ⟨b95_, 0 + ((4 * i) + 1) * 1, none⟩)) _ (by kernel_rfl) (run_idx_arr 49 (.tmp 6) (.tmp 39) 1 b95_ 0 32 .i64 ((4 * i) + 1) (by kernel_rfl) (by kernel_rfl) (by kernel_rfl) (by kernel_rfl) (by kernel_rfl) (by omega)) ?_
      refine at_do (by kernel_rfl) (op_store1 5 (.tmp 46) (.tmp 45) b95_ (0 + ((4 * i) + 1) * 1) (.int .u8 ((((((stN (bl ++ padL bl.length) j).getD i 0).toNat) / 65536 : Nat) % 256 : Nat) : Int)) _ _ (hv (fillB (outB (stN (bl ++ padL bl.length) j)) (4 * i + 1 + 1))) (by kernel_rfl) (by kernel_rfl) (by kernel_rfl) (by rfl) (by rfl) h128_ (by kernel_rfl) (Nat.ble_eq_true_of_le (by show 0 + (4 * i + 1) * 1 + 1 ≤ 32; omega)) (by rw [show ((((((stN (bl ++ padL bl.length) j).getD i 0).toNat) / 65536 : Nat) % 256 : Nat) : Int) = (((outB (stN (bl ++ padL bl.length) j)).getD (4 * i + 1) 0 : Nat) : Int) from by have e := outB_1 (stN (bl ++ padL bl.length) j) (i := i) (by omega); omega, hv_set (fillB_length (by rw [outB_length]; omega) (by omega)) (by omega), fillB_step (by rw [outB_length]; omega) (by omega)]) (fun w136_ h137_ z138_ F139_ => ?_))
      have T140_ := Fr.then T131_ F139_ N105_
      have h141_ := Rd.keep' h132_ F139_ (Dis.sym d100_)
      have h142_ := Rd.keep' h133_ F139_ (Dis.sym d101_)
      have h143_ := Fr.keep F139_ h134_ (Dis.sym d102_)
      have h144_ := Fr.keep F139_ h135_ (Dis.sym d103_)
      refine at_done (by kernel_rfl) ?_
      refine then_n ?_
      refine c_seq [1, 1, 1, 1, 1, 0, 1, 0, 0, 1, 0, 0, 1, 1, 0] [1, 1, 1, 1, 1, 0, 1, 0, 0, 1, 0, 0, 1, 1, 1] (by kernel_rfl) ?_
      refine c_reg 13 rof_c_R13 (by kernel_rfl) ?_
      refine at_pures 1 (by kernel_rfl) (by kernel_rfl) ?_
      refine at_int (kd := .i64) (IntKind.i64.wrap ((4 : Int) * (i : Int))) ((4 : Int) * (i : Int)) (by kernel_rfl) (by kernel_rfl) (wrapN_i64 (by omega) (by omega)) ?_
      refine at_int (kd := .i64) (IntKind.i64.wrap (((4 : Int) * (i : Int)) + (2 : Int))) (((4 : Int) * (i : Int)) + (2 : Int)) (by kernel_rfl) (by kernel_rfl) (wrapN_i64 (by omega) (by omega)) ?_
      refine at_pures 4 (by kernel_rfl) (by kernel_rfl) ?_
      refine at_run (.pointer (some ⟨b10_, 0 + i * 1, none⟩)) _ (by kernel_rfl) (run_idx_arr 127 (.tmp 3) (.tmp 50) 1 b10_ 0 8 .i64 i (by kernel_rfl) (by kernel_rfl) (by kernel_rfl) (by kernel_rfl) (by kernel_rfl) (by omega)) ?_
      refine at_run (.int .u32 (((stN (bl ++ padL bl.length) j).getD i 0).toNat : Int)) _ (by kernel_rfl) (run_load1 29 (.tmp 51) b10_ (0 + i * 1) _ _ _ (.int .u32 (((stN (bl ++ padL bl.length) j).getD i 0).toNat : Int)) (by kernel_rfl) (by kernel_rfl) (by kernel_rfl) h144_ (hw8_get (stN (bl ++ padL bl.length) j) i (by omega))) ?_
      refine at_int (kd := .u32) (IntKind.u32.wrap ((((stN (bl ++ padL bl.length) j).getD i 0).toNat : Int).tdiv (256 : Int))) ((((((stN (bl ++ padL bl.length) j).getD i 0).toNat) / 256 : Nat) : Int)) (by kernel_rfl) (by kernel_rfl) (quo_u32 (by omega)) ?_
      refine at_int (kd := .u32) ((((((stN (bl ++ padL bl.length) j).getD i 0).toNat) / 256 : Nat) : Int).tmod (256 : Int)) (((((((stN (bl ++ padL bl.length) j).getD i 0).toNat) / 256 : Nat) % 256 : Nat) : Int)) (by kernel_rfl) (by kernel_rfl) (rem_nat2 (n := ((((stN (bl ++ padL bl.length) j).getD i 0).toNat) / 256 : Nat)) (by omega)) ?_
      refine at_int (kd := .u8) (IntKind.u8.wrap (((((((stN (bl ++ padL bl.length) j).getD i 0).toNat) / 256 : Nat) % 256 : Nat) : Int))) (((((((stN (bl ++ padL bl.length) j).getD i 0).toNat) / 256 : Nat) % 256 : Nat) : Int)) (by kernel_rfl) (by kernel_rfl) (wrapN_u8 (by omega) (by omega)) ?_
      refine at_run (.pointer (some ⟨b95_, 0 + ((4 * i) + 2) * 1, none⟩)) _ (by kernel_rfl) (run_idx_arr 49 (.tmp 6) (.tmp 49) 1 b95_ 0 32 .i64 ((4 * i) + 2) (by kernel_rfl) (by kernel_rfl) (by kernel_rfl) (by kernel_rfl) (by kernel_rfl) (by omega)) ?_
      refine at_do (by kernel_rfl) (op_store1 5 (.tmp 56) (.tmp 55) b95_ (0 + ((4 * i) + 2) * 1) (.int .u8 ((((((stN (bl ++ padL bl.length) j).getD i 0).toNat) / 256 : Nat) % 256 : Nat) : Int)) _ _ (hv (fillB (outB (stN (bl ++ padL bl.length) j)) (4 * i + 2 + 1))) (by kernel_rfl) (by kernel_rfl) (by kernel_rfl) (by rfl) (by rfl) h137_ (by kernel_rfl) (Nat.ble_eq_true_of_le (by show 0 + (4 * i + 2) * 1 + 1 ≤ 32; omega)) (by rw [show ((((((stN (bl ++ padL bl.length) j).getD i 0).toNat) / 256 : Nat) % 256 : Nat) : Int) = (((outB (stN (bl ++ padL bl.length) j)).getD (4 * i + 2) 0 : Nat) : Int) from by have e := outB_2 (stN (bl ++ padL bl.length) j) (i := i) (by omega); omega, hv_set (fillB_length (by rw [outB_length]; omega) (by omega)) (by omega), fillB_step (by rw [outB_length]; omega) (by omega)]) (fun w145_ h146_ z147_ F148_ => ?_))
      have T149_ := Fr.then T140_ F148_ N105_
      have h150_ := Rd.keep' h141_ F148_ (Dis.sym d100_)
      have h151_ := Rd.keep' h142_ F148_ (Dis.sym d101_)
      have h152_ := Fr.keep F148_ h143_ (Dis.sym d102_)
      have h153_ := Fr.keep F148_ h144_ (Dis.sym d103_)
      refine at_done (by kernel_rfl) ?_
      refine then_n ?_
      refine c_reg 14 rof_c_R14 (by kernel_rfl) ?_
      refine at_pures 1 (by kernel_rfl) (by kernel_rfl) ?_
      refine at_int (kd := .i64) (IntKind.i64.wrap ((4 : Int) * (i : Int))) ((4 : Int) * (i : Int)) (by kernel_rfl) (by kernel_rfl) (wrapN_i64 (by omega) (by omega)) ?_
      refine at_int (kd := .i64) (IntKind.i64.wrap (((4 : Int) * (i : Int)) + (3 : Int))) (((4 : Int) * (i : Int)) + (3 : Int)) (by kernel_rfl) (by kernel_rfl) (wrapN_i64 (by omega) (by omega)) ?_
      refine at_pures 4 (by kernel_rfl) (by kernel_rfl) ?_
      refine at_run (.pointer (some ⟨b10_, 0 + i * 1, none⟩)) _ (by kernel_rfl) (run_idx_arr 127 (.tmp 3) (.tmp 60) 1 b10_ 0 8 .i64 i (by kernel_rfl) (by kernel_rfl) (by kernel_rfl) (by kernel_rfl) (by kernel_rfl) (by omega)) ?_
      refine at_run (.int .u32 (((stN (bl ++ padL bl.length) j).getD i 0).toNat : Int)) _ (by kernel_rfl) (run_load1 29 (.tmp 61) b10_ (0 + i * 1) _ _ _ (.int .u32 (((stN (bl ++ padL bl.length) j).getD i 0).toNat : Int)) (by kernel_rfl) (by kernel_rfl) (by kernel_rfl) h153_ (hw8_get (stN (bl ++ padL bl.length) j) i (by omega))) ?_
      refine at_int (kd := .u32) ((((stN (bl ++ padL bl.length) j).getD i 0).toNat : Int).tmod (256 : Int)) ((((((stN (bl ++ padL bl.length) j).getD i 0).toNat) % 256 : Nat) : Int)) (by kernel_rfl) (by kernel_rfl) (rem_nat2 (n := ((stN (bl ++ padL bl.length) j).getD i 0).toNat) (by omega)) ?_
      refine at_int (kd := .u8) (IntKind.u8.wrap ((((((stN (bl ++ padL bl.length) j).getD i 0).toNat) % 256 : Nat) : Int))) ((((((stN (bl ++ padL bl.length) j).getD i 0).toNat) % 256 : Nat) : Int)) (by kernel_rfl) (by kernel_rfl) (wrapN_u8 (by omega) (by omega)) ?_
      refine at_run (.pointer (some ⟨b95_, 0 + ((4 * i) + 3) * 1, none⟩)) _ (by kernel_rfl) (run_idx_arr 49 (.tmp 6) (.tmp 59) 1 b95_ 0 32 .i64 ((4 * i) + 3) (by kernel_rfl) (by kernel_rfl) (by kernel_rfl) (by kernel_rfl) (by kernel_rfl) (by omega)) ?_
      refine at_do (by kernel_rfl) (op_store1 5 (.tmp 65) (.tmp 64) b95_ (0 + ((4 * i) + 3) * 1) (.int .u8 (((((stN (bl ++ padL bl.length) j).getD i 0).toNat) % 256 : Nat) : Int)) _ _ (hv (fillB (outB (stN (bl ++ padL bl.length) j)) (4 * i + 3 + 1))) (by kernel_rfl) (by kernel_rfl) (by kernel_rfl) (by rfl) (by rfl) h146_ (by kernel_rfl) (Nat.ble_eq_true_of_le (by show 0 + (4 * i + 3) * 1 + 1 ≤ 32; omega)) (by rw [show (((((stN (bl ++ padL bl.length) j).getD i 0).toNat) % 256 : Nat) : Int) = (((outB (stN (bl ++ padL bl.length) j)).getD (4 * i + 3) 0 : Nat) : Int) from by have e := outB_3 (stN (bl ++ padL bl.length) j) (i := i) (by omega); omega, hv_set (fillB_length (by rw [outB_length]; omega) (by omega)) (by omega), fillB_step (by rw [outB_length]; omega) (by omega)]) (fun w154_ h155_ z156_ F157_ => ?_))
      have T158_ := Fr.then T149_ F157_ N105_
      have h159_ := Rd.keep' h150_ F157_ (Dis.sym d100_)
      have h160_ := Rd.keep' h151_ F157_ (Dis.sym d101_)
      have h161_ := Fr.keep F157_ h152_ (Dis.sym d102_)
      have h162_ := Fr.keep F157_ h153_ (Dis.sym d103_)
      refine at_done (by kernel_rfl) ?_
      refine blk_n ?_
      refine then_n ?_
      refine c_reg 10 rof_c_R10 (by kernel_rfl) ?_
      refine at_pures 1 (by kernel_rfl) (by kernel_rfl) ?_
      refine at_int (kd := .i64) (IntKind.i64.wrap ((i : Int) + (1 : Int))) ((i : Int) + (1 : Int)) (by kernel_rfl) (by kernel_rfl) (wrapN_i64 (by omega) (by omega)) ?_
      refine at_pures 3 (by kernel_rfl) (by kernel_rfl) ?_
      refine at_done (by kernel_rfl) ?_
      refine then_n ?_
      exact ⟨⟨i + 1, is_mk (by kernel_rfl) (by kernel_rfl) (by kernel_rfl), ⟨(by omega), h159_, h160_, h161_, h162_, (by have h := h155_; rw [show 4 * i + 3 + 1 = 4 * (i + 1) from by omega] at h; exact h), T158_⟩⟩, cnt_lt (k := (i : Int)) (k' := ((i : Int) + (1 : Int))) (by kernel_rfl) (by kernel_rfl) (by omega) (by omega)⟩
    · -- no
      replace c126_ : ¬ ((i : Int) < (8 : Int)) := of_decide_eq_false c126_
      refine c_exit 2 (by kernel_rfl) ?_
      refine then_e ?_
      refine then_e ?_
      refine blk_hit ?_
      refine then_n ?_
      refine c_seq [1, 1, 1, 1, 1, 1, 0] [1, 1, 1, 1, 1, 1, 1] (by kernel_rfl) ?_
      refine c_reg 15 rof_c_R15 (by kernel_rfl) ?_
      refine at_loadN 49 (.tmp 6) b95_ 0 32 _ _ _ (hv (fillB (outB (stN (bl ++ padL bl.length) j)) (4 * i))) (by kernel_rfl) (by kernel_rfl) (by kernel_rfl) (by kernel_rfl) (by kernel_rfl) q_4L122_ (by kernel_rfl) (by kernel_rfl) ?_
      refine at_do (by kernel_rfl) (op_store 49 (.tmp 2) (.tmp 66) b1_ 0 (.agg (hv (fillB (outB (stN (bl ++ padL bl.length) j)) (4 * i)))) _ _ (hv (fillB (outB (stN (bl ++ padL bl.length) j)) (4 * i))) (by kernel_rfl) (by kernel_rfl) (by kernel_rfl) q_2L122_ (by kernel_rfl) (by kernel_rfl) (by kernel_rfl) (by kernel_rfl) (fun w163_ h164_ z165_ F166_ => ?_))
      have T167_ := Fr.then hFrL122_ F166_ N8_
      have h168_ := Rd.keep' q_0L122_ F166_ (Dis.sym d6_)
      have h169_ := Rd.keep' q_1L122_ F166_ (Dis.sym d7_)
      have h170_ := Fr.keep F166_ q_3L122_ d19_
      have h171_ := Fr.keep F166_ q_4L122_ d102_
      refine at_done (by kernel_rfl) ?_
      refine then_n ?_
      refine c_ret (by kernel_rfl) ?_
      refine fin_retL [.cell 2 49] [(.agg (hv (fillB (outB (stN (bl ++ padL bl.length) j)) (4 * i))))] (.agg (hv (fillB (outB (stN (bl ++ padL bl.length) j)) (4 * i)))) (by kernel_rfl) (by rfl) ⟨ResOne.cellN (off := 0) (n := 32) (vs := (hv (fillB (outB (stN (bl ++ padL bl.length) j)) (4 * i)))) (by kernel_rfl) (by kernel_rfl) (by kernel_rfl) h164_ (by kernel_rfl) (by kernel_rfl), trivial⟩ (by rfl) ?_
      exact ⟨(by rw [show i = 8 from by omega]; rw [fillB_all (outB_length _), show j = (bl ++ padL bl.length).length / 64 from by omega]; rfl), T167_⟩
end Go.Proofs.YtokdfjelilhekaaDoor
