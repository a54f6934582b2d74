/- The walk of WireReads. -/
import Derived.Test.YtboggbknebepdaaWL
namespace Go.Proofs.Ytboggbknebepdaa
open Go Go.RowKit Go.Alm
noncomputable def wireReads_c_R0 : Array Oper := rAt Try.prog 4 [0]
noncomputable def wireReads_c_R1 : Array Oper := rAt Try.prog 4 [1, 0, 0]
noncomputable def wireReads_c_R3 : Array Oper := rAt Try.prog 4 [1, 1, 0, 0]
noncomputable def wireReads_c_R4 : Array Oper := rAt Try.prog 4 [1, 1, 0, 1, 0, 0]
noncomputable def wireReads_c_R5 : Array Oper := rAt Try.prog 4 [1, 1, 1, 0]
noncomputable def wireReads_c_R6 : Array Oper := rAt Try.prog 4 [1, 1, 1, 1, 0, 0]
noncomputable def wireReads_c_R7 : Array Oper := rAt Try.prog 4 [1, 1, 1, 1, 0, 1, 0, 0, 0]
noncomputable def wireReads_c_R8 : Array Oper := rAt Try.prog 4 [1, 1, 1, 1, 0, 1, 0, 0, 1, 1, 0, 0, 0]
noncomputable def wireReads_c_R9 : Array Oper := rAt Try.prog 4 [1, 1, 1, 1, 0, 1, 0, 0, 1, 1, 0, 0, 1, 0]
noncomputable def wireReads_c_R10 : Array Oper := rAt Try.prog 4 [1, 1, 1, 1, 0, 1, 0, 0, 1, 1, 0, 0, 1, 1, 0, 0]
noncomputable def wireReads_c_R11 : Array Oper := rAt Try.prog 4 [1, 1, 1, 1, 0, 1, 0, 0, 1, 1, 0, 0, 1, 1, 0, 1, 0, 0]
noncomputable def wireReads_c_R12 : Array Oper := rAt Try.prog 4 [1, 1, 1, 1, 0, 1, 0, 0, 1, 1, 0, 0, 1, 1, 0, 1, 0, 1, 0]
noncomputable def wireReads_c_R22 : Array Oper := rAt Try.prog 4 [1, 1, 1, 1, 0, 1, 0, 0, 1, 1, 0, 0, 1, 1, 1, 0]
noncomputable def wireReads_c_R24 : Array Oper := rAt Try.prog 4 [1, 1, 1, 1, 0, 1, 0, 0, 1, 1, 1]
noncomputable def wireReads_c_R13 : Array Oper := rAt Try.prog 4 [1, 1, 1, 1, 0, 1, 0, 0, 1, 1, 0, 0, 1, 1, 0, 1, 0, 1, 1, 0]
noncomputable def wireReads_c_R14 : Array Oper := rAt Try.prog 4 [1, 1, 1, 1, 0, 1, 0, 0, 1, 1, 0, 0, 1, 1, 0, 1, 0, 1, 1, 1, 0]
noncomputable def wireReads_c_R15 : Array Oper := rAt Try.prog 4 [1, 1, 1, 1, 0, 1, 0, 0, 1, 1, 0, 0, 1, 1, 0, 1, 0, 1, 1, 1, 1, 0]
noncomputable def wireReads_c_R16 : Array Oper := rAt Try.prog 4 [1, 1, 1, 1, 0, 1, 0, 0, 1, 1, 0, 0, 1, 1, 0, 1, 0, 1, 1, 1, 1, 1, 0]
noncomputable def wireReads_c_R17 : Array Oper := rAt Try.prog 4 [1, 1, 1, 1, 0, 1, 0, 0, 1, 1, 0, 0, 1, 1, 0, 1, 0, 1, 1, 1, 1, 1, 1, 0]
noncomputable def wireReads_c_R18 : Array Oper := rAt Try.prog 4 [1, 1, 1, 1, 0, 1, 0, 0, 1, 1, 0, 0, 1, 1, 0, 1, 0, 1, 1, 1, 1, 1, 1, 1, 0]
noncomputable def wireReads_c_R19 : Array Oper := rAt Try.prog 4 [1, 1, 1, 1, 0, 1, 0, 0, 1, 1, 0, 0, 1, 1, 0, 1, 0, 1, 1, 1, 1, 1, 1, 1, 1, 0]
noncomputable def wireReads_c_R20 : Array Oper := rAt Try.prog 4 [1, 1, 1, 1, 0, 1, 0, 0, 1, 1, 0, 0, 1, 1, 0, 1, 0, 1, 1, 1, 1, 1, 1, 1, 1, 1, 0, 0]
noncomputable def wireReads_c_R21 : Array Oper := rAt Try.prog 4 [1, 1, 1, 1, 0, 1, 0, 0, 1, 1, 0, 0, 1, 1, 0, 1, 0, 1, 1, 1, 1, 1, 1, 1, 1, 1, 0, 1, 0]
def wireReads_c_sk21 : Nat → Bool := fun i => decide (i ∈ [3, 4, 5, 6])
def wireReads_c_pl21 : List (Nat × PK) := [(0, .q false), (1, .q false), (2, .q true), (4, .q false), (5, .q false), (6, .q true), (3, .e), (7, .e), (8, .e), (9, .q false)]
noncomputable def wireReads_c_R25 : Array Oper := rAt Try.prog 4 [1, 1, 1, 1, 1, 0]
set_option maxRecDepth 100000 in
theorem wireReads_c (bo : Option Addr) (bcap : Nat) (bl : List Nat) (N : Nat) (ao : Option Addr) (cap : Nat) (ts : List Thing) (w : World) (h_b : Rd w bo (B bl)) (h_ts : ThingsAt N w ao ts) (hbB : Byt bl) (hbc : bl.length ≤ bcap) (hn : ts.length ≤ 9223372036854775807) :
    Calls Try.prog 4 #[(.slice bo bl.length bcap), (.slice ao ts.length cap)] w fun e w' => e = .returned (.bool true) ∧ Fr w w' N0 := by
  refine c_enter (mk 93 [(0, (.slice bo bl.length bcap)), (1, (.slice ao ts.length cap))] (fun _ => undef)) Try.func4 (by kernel_rfl) (by kernel_rfl) ?_
  refine c_seq [0] [1] (by kernel_rfl) ?_
  refine c_reg 0 wireReads_c_R0 (by kernel_rfl) ?_
  refine at_pures 1 (by kernel_rfl) (by kernel_rfl) ?_
  refine at_done (by kernel_rfl) ?_
  refine then_n ?_
  refine c_seq [1, 0] [1, 1] (by kernel_rfl) ?_
  refine c_seq [1, 0, 0] [1, 0, 1] (by kernel_rfl) ?_
  refine c_reg 1 wireReads_c_R1 (by kernel_rfl) ?_
  refine at_do (by kernel_rfl) (op_call 7 #[] #[] (by kernel_rfl) (by kernel_rfl) (by kernel_rfl) ?_)
  have C5_ := awake_c  w   
  refine Calls.mono C5_ ?_
  rintro e4_ w2_ ⟨rfl, F3_⟩
  have T6_ := Fr.tr (Fr.refl w N0) F3_
  have h7_ := Rd.keep' h_b F3_ Dis.n0
  have h8_ := ThingsAt.keep h_ts F3_ Dis.n0
  refine ⟨_, rfl, ?_⟩
  refine at_pures 2 (by kernel_rfl) (by kernel_rfl) ?_
  refine at_done (by kernel_rfl) ?_
  refine then_n ?_
  refine c_else (.tmp 11) [1, 0, 1, 0] [1, 0, 1, 1] (by kernel_rfl) (by kernel_rfl) ?_
  refine c_skip (by kernel_rfl) ?_
  refine then_n ?_
  refine c_seq [1, 1, 0] [1, 1, 1] (by kernel_rfl) ?_
  refine c_seq [1, 1, 0, 0] [1, 1, 0, 1] (by kernel_rfl) ?_
  refine c_reg 3 wireReads_c_R3 (by kernel_rfl) ?_
  refine at_pures 3 (by kernel_rfl) (by kernel_rfl) ?_
  refine at_split (decide ((bl.length : Int) > (3000 : Int))) (by kernel_rfl) (by kernel_rfl) (fun c9_ => ?_) (fun c9_ => ?_)
  · -- yes
    replace c9_ : (bl.length : Int) > (3000 : Int) := of_decide_eq_true c9_
    refine at_pures 7 (by kernel_rfl) (by kernel_rfl) ?_
    refine at_done (by kernel_rfl) ?_
    refine then_n ?_
    refine c_then (.tmp 18) [1, 1, 0, 1, 0] [1, 1, 0, 1, 1] (by kernel_rfl) (by kernel_rfl) ?_
    refine c_seq [1, 1, 0, 1, 0, 0] [1, 1, 0, 1, 0, 1] (by kernel_rfl) ?_
    refine c_reg 4 wireReads_c_R4 (by kernel_rfl) ?_
    refine at_pures 1 (by kernel_rfl) (by kernel_rfl) ?_
    refine at_done (by kernel_rfl) ?_
    refine then_n ?_
    refine c_ret (by kernel_rfl) ?_
    refine then_r ?_
    refine fin_ret (.bool true) (by kernel_rfl) (by kernel_rfl) ?_
    exact ⟨rfl, T6_⟩
  · -- no
    replace c9_ : ¬ ((bl.length : Int) > (3000 : Int)) := of_decide_eq_false c9_
    refine at_pures 5 (by kernel_rfl) (by kernel_rfl) ?_
    refine at_do (by kernel_rfl) (op_call 8 #[(.tmp 16)] #[(.slice ao ts.length cap)] (by kernel_rfl) (by kernel_rfl) (by kernel_rfl) ?_)
    have C14_ := large_c N ao cap ts w2_ h8_  (by first | omega | with_reducible assumption | (simp only [List.length_append, List.length_cons, List.length_nil, putB_length]; omega) | decide)
    refine Calls.mono C14_ ?_
    rintro e13_ w11_ ⟨rfl, F12_⟩
    have T15_ := Fr.tr T6_ F12_
    have h16_ := Rd.keep' h7_ F12_ Dis.n0
    have h17_ := ThingsAt.keep h8_ F12_ Dis.n0
    refine ⟨_, rfl, ?_⟩
    refine at_pures 7 (by kernel_rfl) (by kernel_rfl) ?_
    refine at_done (by kernel_rfl) ?_
    refine then_n ?_
    refine c_if (.tmp 18) (largeT ts) [1, 1, 0, 1, 0] [1, 1, 0, 1, 1] (by kernel_rfl) (by kernel_rfl) (fun c18_ => ?_) (fun c18_ => ?_)
    · -- yes
      refine c_seq [1, 1, 0, 1, 0, 0] [1, 1, 0, 1, 0, 1] (by kernel_rfl) ?_
      refine c_reg 4 wireReads_c_R4 (by kernel_rfl) ?_
      refine at_pures 1 (by kernel_rfl) (by kernel_rfl) ?_
      refine at_done (by kernel_rfl) ?_
      refine then_n ?_
      refine c_ret (by kernel_rfl) ?_
      refine then_r ?_
      refine fin_ret (.bool true) (by kernel_rfl) (by kernel_rfl) ?_
      exact ⟨rfl, T15_⟩
    · -- no
      refine c_skip (by kernel_rfl) ?_
      refine then_n ?_
      refine c_seq [1, 1, 1, 0] [1, 1, 1, 1] (by kernel_rfl) ?_
      refine c_reg 5 wireReads_c_R5 (by kernel_rfl) ?_
      refine at_pures 1 (by kernel_rfl) (by kernel_rfl) ?_
      refine at_do (by kernel_rfl) (op_call 14 #[(.tmp 19)] #[(.slice bo bl.length bcap)] (by kernel_rfl) (by kernel_rfl) (by kernel_rfl) ?_)
      have C28_ := rnew_c (.slice bo bl.length bcap) bl w11_ ⟨_, _, rfl, h16_⟩  (by first | omega | with_reducible assumption | (simp only [List.length_append, List.length_cons, List.length_nil, putB_length]; omega) | decide)
      refine Calls.mono C28_ ?_
      rintro e27_ w25_ ⟨b19_, aorr20_, caprr21_, rfl, h22_, F26_, h24_⟩
      have d29_ : Dis (rrS b19_ aorr20_ (Rs.mk 0 bl)) (Ar bo (B bl)) := Dis.fresh h24_ (Rd.in h16_)
      have d30_ : Dis (rrS b19_ aorr20_ (Rs.mk 0 bl)) (Old N) := Dis.fresh h24_ (ThingsAt.in h17_)
      have T31_ := Fr.tr T15_ F26_
      have h32_ := Rd.keep' h16_ F26_ Dis.n0
      have h33_ := ThingsAt.keep h17_ F26_ Dis.n0
      have N35_ : New w N0 (rrS b19_ aorr20_ (Rs.mk 0 bl)) := New.later' h24_ (Fr.size T15_)
      refine ⟨_, rfl, ?_⟩
      refine at_pures 4 (by kernel_rfl) (by kernel_rfl) ?_
      refine at_do (by kernel_rfl) (op_new (.cells #[(.slice bo bl.length bcap), (.int .i64 0), (.int .i64 0)] 45) (fun N => (.pointer (some ⟨N, 0, none⟩))) (fun _ => by kernel_rfl) (fun w37_ b36_ h38_ q39_ F40_ => ?_))
      have d41_ : Dis (One b36_) (Ar bo (B bl)) := Dis.fresh (New.one q39_) (Rd.in h32_)
      have d42_ : Dis (One b36_) (Old N) := Dis.fresh (New.one q39_) (ThingsAt.in h33_)
      have d43_ : Dis (One b36_) (rrS b19_ aorr20_ (Rs.mk 0 bl)) := Dis.fresh (New.one q39_) (RrAt.in h22_)
      have N44_ : New w N0 (One b36_) := New.made q39_ (Fr.size T31_)
      have T45_ := Fr.tr T31_ F40_
      refine at_pures 7 (by kernel_rfl) (by kernel_rfl) ?_
      refine at_done (by kernel_rfl) ?_
      refine then_n ?_
      refine c_seq [1, 1, 1, 1, 0] [1, 1, 1, 1, 1] (by kernel_rfl) ?_
      refine c_seq [1, 1, 1, 1, 0, 0] [1, 1, 1, 1, 0, 1] (by kernel_rfl) ?_
      refine c_reg 6 wireReads_c_R6 (by kernel_rfl) ?_
      refine at_pures 3 (by kernel_rfl) (by kernel_rfl) ?_
      refine at_done (by kernel_rfl) ?_
      refine then_n ?_
      refine c_block 0 [1, 1, 1, 1, 0, 1, 0] (by kernel_rfl) ?_
      have h46_ := Rd.keep' h32_ F40_ Dis.n0
      have h47_ := ThingsAt.keep h33_ F40_ Dis.n0
      have h48_ := RrAt.keep h22_ F40_ Dis.n0
      have hlg := largeT_spec (ts := ts) (by assumption)
      refine c_loop (fun a w' => ∃ (k : Nat), ∃ (ao1 : Option Addr), ∃ (cap1 : Nat), ∃ (a0 : Nat), ∃ (e0 : Nat), (∃ u, a = mk 93 [(0, (.slice bo bl.length bcap)), (1, (.slice ao ts.length cap)), (5, (.pointer (some ⟨b19_, 0, none⟩))), (6, (.pointer (some ⟨b36_, 0, none⟩))), (10, (.bool true)), (11, (.bool false)), (12, (.slice bo bl.length bcap)), (13, (.int .i64 (bl.length : Int))), (14, (.bool (decide ((bl.length : Int) > (3000 : Int))))), (15, (.bool false)), (16, (.slice ao ts.length cap)), (17, (.bool (largeT ts))), (18, (.bool (largeT ts))), (19, (.slice bo bl.length bcap)), (20, (.pointer (some ⟨b19_, 0, none⟩))), (21, (.slice bo bl.length bcap)), (22, (.agg #[(.slice bo bl.length bcap), (.int .i64 0), (.int .i64 0)])), (23, (.pointer (some ⟨b36_, 0, none⟩))), (24, (.slice ao ts.length cap)), (25, (.int .i64 (ts.length : Int))), (26, (.int .i64 (k : Int)))] u) ∧ (k ≤ ts.length) ∧ (a0 ≤ bl.length) ∧ (Rf.r bl ⟨a0, e0⟩ = (readM (Rs.mk 0 bl) (ts.take k))) ∧ (Rd w' bo (B bl)) ∧ (ThingsAt N w' ao ts) ∧ (RrAt 67 w' b19_ ao1 cap1 (readM (Rs.mk 0 bl) (ts.take k))) ∧ (w'.heap[b36_]? = some (.cells #[(.slice bo bl.length bcap), (.int .i64 (a0 : Int)), (.int .i64 (e0 : Int))] 45 (0, 0))) ∧ (Dis (Ar bo (B bl)) (rrS b19_ ao1 (readM (Rs.mk 0 bl) (ts.take k)))) ∧ (Dis (Old N) (rrS b19_ ao1 (readM (Rs.mk 0 bl) (ts.take k)))) ∧ (Dis (rrS b19_ ao1 (readM (Rs.mk 0 bl) (ts.take k))) (One b36_)) ∧ (New w N0 (rrS b19_ ao1 (readM (Rs.mk 0 bl) (ts.take k)))) ∧ (Fr w w' N0)) (fun a _ => cnt (ts.length) 26 a) [1, 1, 1, 1, 0, 1, 0, 0] (by kernel_rfl) ⟨0, _, _, 0, 0, is_mk (by kernel_rfl) (by kernel_rfl) (by kernel_rfl), ⟨Nat.zero_le _, Nat.zero_le _, rfl, h46_, h47_, h48_, h38_, (Dis.sym d29_), (Dis.sym d30_), (Dis.sym d43_), N35_, T45_⟩⟩ ?_
      rintro a50_ w51_ ⟨k, ao1, cap1, a0, e0, ⟨u52_, rfl⟩, ⟨hk, ha, hQ, q_0L49_, q_1L49_, q_2L49_, q_3L49_, d_0_2L49_, d_1_2L49_, d_2_3L49_, n_2L49_, hFrL49_⟩⟩
      have hRB : Byt (readM (Rs.mk 0 bl) (ts.take k)).l := readM_byt _ hbB; have hRL : (readM (Rs.mk 0 bl) (ts.take k)).l.length ≤ bl.length := readM_len _ _
      refine c_seq [1, 1, 1, 1, 0, 1, 0, 0, 0] [1, 1, 1, 1, 0, 1, 0, 0, 1] (by kernel_rfl) ?_
      refine c_reg 7 wireReads_c_R7 (by kernel_rfl) ?_
      refine at_pures 1 (by kernel_rfl) (by kernel_rfl) ?_
      refine at_done (by kernel_rfl) ?_
      refine then_n ?_
      refine c_seq [1, 1, 1, 1, 0, 1, 0, 0, 1, 0] [1, 1, 1, 1, 0, 1, 0, 0, 1, 1] (by kernel_rfl) ?_
      refine c_if (.tmp 27) (decide ((k : Int) < (ts.length : Int))) [1, 1, 1, 1, 0, 1, 0, 0, 1, 0, 0] [1, 1, 1, 1, 0, 1, 0, 0, 1, 0, 1] (by kernel_rfl) (by kernel_rfl) (fun c53_ => ?_) (fun c53_ => ?_)
      · -- yes
        replace c53_ : (k : Int) < (ts.length : Int) := of_decide_eq_true c53_
        refine c_skip (by kernel_rfl) ?_
        refine then_n ?_
        refine c_seq [1, 1, 1, 1, 0, 1, 0, 0, 1, 1, 0] [1, 1, 1, 1, 0, 1, 0, 0, 1, 1, 1] (by kernel_rfl) ?_
        refine c_block 1 [1, 1, 1, 1, 0, 1, 0, 0, 1, 1, 0, 0] (by kernel_rfl) ?_
        refine c_seq [1, 1, 1, 1, 0, 1, 0, 0, 1, 1, 0, 0, 0] [1, 1, 1, 1, 0, 1, 0, 0, 1, 1, 0, 0, 1] (by kernel_rfl) ?_
        refine c_reg 8 wireReads_c_R8 (by kernel_rfl) ?_
        obtain ⟨x, hx_x⟩ : ∃ x, ts[k]? = some x := ⟨_, List.getElem?_eq_getElem (by omega)⟩
        have hm_x := List.mem_of_getElem? hx_x; have ho_x := ThingsAt.ok q_1L49_ x hm_x; have hi_x := ThingsAt.in2 q_1L49_ x hm_x; have hn_x := ho_x.n
        obtain ⟨ad54_, ha55_⟩ := (ThingsAt.rd q_1L49_).has (k * 36) (by rw [cellsT_length]; omega)
        refine at_run (.pointer (some (ad54_.add (k * 36)))) _ (by kernel_rfl) (run_idx_o 22 (.tmp 24) (.tmp 26) 36 ao ad54_ ts.length cap .i64 k (by kernel_rfl) (by kernel_rfl) (by kernel_rfl) (by kernel_rfl) (by kernel_rfl) ha55_ (by omega)) ?_
        refine at_run (.agg (Thing.cells x)) _ (by kernel_rfl) (run_loadEn 33 (.tmp 28) ao ad54_ (k * 36) 36 (cellsT ts) (Thing.cells x) (by kernel_rfl) (by kernel_rfl) (by kernel_rfl) (by kernel_rfl) ha55_ (ThingsAt.rd q_1L49_) (by kernel_rfl) (cellsT_get ts k x hx_x)) ?_
        refine at_do (by kernel_rfl) (op_new (.cells #[(.int .i64 0), (.int .u64 0), (.int .u8 0), (.int .u8 0), (.int .u8 0), (.int .u8 0), (.int .u8 0), (.int .u8 0), (.int .u8 0), (.int .u8 0), (.int .u8 0), (.int .u8 0), (.int .u8 0), (.int .u8 0), (.int .u8 0), (.int .u8 0), (.int .u8 0), (.int .u8 0), (.int .u8 0), (.int .u8 0), (.int .u8 0), (.int .u8 0), (.int .u8 0), (.int .u8 0), (.int .u8 0), (.int .u8 0), (.int .u8 0), (.int .u8 0), (.int .u8 0), (.int .u8 0), (.int .u8 0), (.int .u8 0), (.int .u8 0), (.int .u8 0), (.slice none 0 0), (.int .i64 0)] 33) (fun N => (.pointer (some ⟨N, 0, none⟩))) (fun _ => by kernel_rfl) (fun w57_ b56_ h58_ q59_ F60_ => ?_))
        have d61_ : Dis (One b56_) (Ar bo (B bl)) := Dis.fresh (New.one q59_) (Rd.in q_0L49_)
        have d62_ : Dis (One b56_) (Old N) := Dis.fresh (New.one q59_) (ThingsAt.in q_1L49_)
        have d63_ : Dis (One b56_) (rrS b19_ ao1 (readM (Rs.mk 0 bl) (ts.take k))) := Dis.fresh (New.one q59_) (RrAt.in q_2L49_)
        have d64_ : Dis (One b56_) (One b36_) := Dis.fresh (New.one q59_) (In.one q_3L49_)
        have d65_ : Dis (One b56_) (Ar x.ao (B x.b)) := Dis.fresh (New.one q59_) (Rd.in (ThingsAt.rdb q_1L49_ x hm_x))
        have N66_ : New w N0 (One b56_) := New.made q59_ (Fr.size hFrL49_)
        have T67_ := Fr.tr hFrL49_ F60_
        have h68_ := Rd.keep' q_0L49_ F60_ Dis.n0
        have h69_ := ThingsAt.keep q_1L49_ F60_ Dis.n0
        have h70_ := RrAt.keep q_2L49_ F60_ Dis.n0
        have h71_ := Fr.keep F60_ q_3L49_ Dis.n0
        have h72_ := Rd.keep' (ThingsAt.rdb q_1L49_ x hm_x) F60_ Dis.n0
        refine at_do (by kernel_rfl) (op_store 33 (.tmp 8) (.tmp 29) b56_ 0 (.agg (Thing.cells x)) _ _ (Thing.cells x) (by kernel_rfl) (by kernel_rfl) (by kernel_rfl) h58_ (by kernel_rfl) (by kernel_rfl) (by kernel_rfl) (by kernel_rfl) (fun w73_ h74_ z75_ F76_ => ?_))
        have T77_ := Fr.then T67_ F76_ N66_
        have h78_ := Rd.keep' h68_ F76_ (Dis.sym d61_)
        have h79_ := ThingsAt.keep h69_ F76_ (Dis.sym d62_)
        have h80_ := RrAt.keep h70_ F76_ (Dis.sym d63_)
        have h81_ := Fr.keep F76_ h71_ (Dis.sym d64_)
        have h82_ := Rd.keep' h72_ F76_ (Dis.sym d65_)
        refine at_done (by kernel_rfl) ?_
        refine then_n ?_
        refine c_seq [1, 1, 1, 1, 0, 1, 0, 0, 1, 1, 0, 0, 1, 0] [1, 1, 1, 1, 0, 1, 0, 0, 1, 1, 0, 0, 1, 1] (by kernel_rfl) ?_
        refine c_reg 9 wireReads_c_R9 (by kernel_rfl) ?_
        refine at_pures 1 (by kernel_rfl) (by kernel_rfl) ?_
        refine at_done (by kernel_rfl) ?_
        refine then_n ?_
        refine c_seq [1, 1, 1, 1, 0, 1, 0, 0, 1, 1, 0, 0, 1, 1, 0] [1, 1, 1, 1, 0, 1, 0, 0, 1, 1, 0, 0, 1, 1, 1] (by kernel_rfl) ?_
        refine c_seq [1, 1, 1, 1, 0, 1, 0, 0, 1, 1, 0, 0, 1, 1, 0, 0] [1, 1, 1, 1, 0, 1, 0, 0, 1, 1, 0, 0, 1, 1, 0, 1] (by kernel_rfl) ?_
        refine c_reg 10 wireReads_c_R10 (by kernel_rfl) ?_
        refine at_pures 1 (by kernel_rfl) (by kernel_rfl) ?_
        refine at_load1 3 (.tmp 30) b56_ 0 _ _ _ (.int .i64 x.kind) (by kernel_rfl) (by kernel_rfl) (by kernel_rfl) (by kernel_rfl) h74_ (by kernel_rfl) ?_
        refine at_done (by kernel_rfl) ?_
        refine then_n ?_
        refine c_block 2 [1, 1, 1, 1, 0, 1, 0, 0, 1, 1, 0, 0, 1, 1, 0, 1, 0] (by kernel_rfl) ?_
        refine c_seq [1, 1, 1, 1, 0, 1, 0, 0, 1, 1, 0, 0, 1, 1, 0, 1, 0, 0] [1, 1, 1, 1, 0, 1, 0, 0, 1, 1, 0, 0, 1, 1, 0, 1, 0, 1] (by kernel_rfl) ?_
        refine c_reg 11 wireReads_c_R11 (by kernel_rfl) ?_
        refine at_pures 2 (by kernel_rfl) (by kernel_rfl) ?_
        refine at_done (by kernel_rfl) ?_
        refine then_n ?_
        refine c_if (.tmp 32) (x.kind == (0 : Int)) [1, 1, 1, 1, 0, 1, 0, 0, 1, 1, 0, 0, 1, 1, 0, 1, 0, 1, 0] [1, 1, 1, 1, 0, 1, 0, 0, 1, 1, 0, 0, 1, 1, 0, 1, 0, 1, 1] (by kernel_rfl) (by kernel_rfl) (fun c83_ => ?_) (fun c83_ => ?_)
        · -- yes
          replace c83_ : x.kind = (0 : Int) := by simpa using c83_
          refine c_reg 12 wireReads_c_R12 (by kernel_rfl) ?_
          refine at_pures 1 (by kernel_rfl) (by kernel_rfl) ?_
          refine at_do (by kernel_rfl) (op_call 15 #[(.tmp 34)] #[(.pointer (some ⟨b19_, 0, none⟩))] (by kernel_rfl) (by kernel_rfl) (by kernel_rfl) ?_)
          have C92_ := rbyte_c b19_ ao1 cap1 (readM (Rs.mk 0 bl) (ts.take k)) w73_ h80_  (by first | omega | with_reducible assumption | (simp only [List.length_append, List.length_cons, List.length_nil, putB_length]; omega) | decide)
          refine Calls.mono C92_ ?_
          rintro e91_ w89_ ⟨aorr84_, caprr85_, rfl, h86_, F90_, h88_⟩
          have T93_ := Fr.then T77_ F90_ (Sub.new Sub.inl n_2L49_)
          have d94_ : Dis (rrS b19_ aorr84_ ((readM (Rs.mk 0 bl) (ts.take k)).take 1)) (Ar bo (B bl)) := Dis.step (Dis.sym d_0_2L49_) h88_ (Rd.in h78_)
          have h95_ := Rd.keep' h78_ F90_ (Dis.sub Sub.inl d_0_2L49_)
          have d96_ : Dis (rrS b19_ aorr84_ ((readM (Rs.mk 0 bl) (ts.take k)).take 1)) (Old N) := Dis.step (Dis.sym d_1_2L49_) h88_ (ThingsAt.in h79_)
          have h97_ := ThingsAt.keep h79_ F90_ (Dis.sub Sub.inl d_1_2L49_)
          have d98_ : Dis (rrS b19_ aorr84_ ((readM (Rs.mk 0 bl) (ts.take k)).take 1)) (One b36_) := Dis.step d_2_3L49_ h88_ (In.one h81_)
          have h99_ := Fr.keep F90_ h81_ (Dis.sub Sub.inl (Dis.sym d_2_3L49_))
          have d100_ : Dis (rrS b19_ aorr84_ ((readM (Rs.mk 0 bl) (ts.take k)).take 1)) (Ar x.ao (B x.b)) := Dis.step (Dis.sym (Sub.dis hi_x d_1_2L49_)) h88_ (Rd.in h82_)
          have h101_ := Rd.keep' h82_ F90_ (Dis.sub Sub.inl (Sub.dis hi_x d_1_2L49_))
          have d102_ : Dis (rrS b19_ aorr84_ ((readM (Rs.mk 0 bl) (ts.take k)).take 1)) (One b56_) := Dis.step (Dis.sym d63_) h88_ (In.one h74_)
          have h103_ := Fr.keep F90_ h74_ (Dis.sub Sub.inl d63_)
          have N104_ := New.trans n_2L49_ h88_ (Fr.size T77_)
          refine ⟨_, rfl, ?_⟩
          refine at_int (kd := .u64) (IntKind.u64.wrap (((readM (Rs.mk 0 bl) (ts.take k)).num 1 : Int))) (((readM (Rs.mk 0 bl) (ts.take k)).num 1 : Int)) (by kernel_rfl) (by kernel_rfl) (wrapN_u64 (Int.natCast_nonneg _) (by have := Rs.num_lt hRB (Nat.le_refl 1); omega)) ?_
          refine at_pures 4 (by kernel_rfl) (by kernel_rfl) ?_
          refine at_do (by kernel_rfl) (op_call 16 #[(.tmp 37), (.const (.int .i64 1))] #[(.pointer (some ⟨b36_, 0, none⟩)), (.int .i64 1)] (by kernel_rfl) (by kernel_rfl) (by kernel_rfl) ?_)
          have C114_ := rnumber_c b36_ bo bcap bl a0 e0 1 w89_ h95_ h99_ d41_ (by first | omega | with_reducible assumption | (simp only [List.length_append, List.length_cons, List.length_nil, putB_length]; omega) | decide) (by first | omega | with_reducible assumption | (simp only [List.length_append, List.length_cons, List.length_nil, putB_length]; omega) | decide) (by first | omega | with_reducible assumption | (simp only [List.length_append, List.length_cons, List.length_nil, putB_length]; omega) | decide) (by first | omega | with_reducible assumption | (simp only [List.length_append, List.length_cons, List.length_nil, putB_length]; omega) | decide) (by first | omega | with_reducible assumption | (simp only [List.length_append, List.length_cons, List.length_nil, putB_length]; omega) | decide)
          refine Calls.mono C114_ ?_
          rintro e113_ w111_ ⟨a105_, e106_, rfl, h107_, F112_, h109_, h110_⟩
          have T115_ := Fr.then T93_ F112_ N44_
          have h116_ := Rd.keep' h95_ F112_ (Dis.sym d41_)
          have h117_ := ThingsAt.keep h97_ F112_ (Dis.sym d42_)
          have h118_ := RrAt.keep h86_ F112_ d98_
          have h119_ := Rd.keep' h101_ F112_ (Sub.dis hi_x (Dis.sym d42_))
          have h120_ := Fr.keep F112_ h103_ d64_
          have hQ121_ := h110_; rw [hQ] at hQ121_
          refine ⟨(.int .u64 ((readM (Rs.mk 0 bl) (ts.take k)).num 1 : Int)), (by rw [hQ]), ?_⟩
          refine at_as (.bool (((readM (Rs.mk 0 bl) (ts.take k)).num 1 : Int) == ((readM (Rs.mk 0 bl) (ts.take k)).num 1 : Int))) (.bool true) (by kernel_rfl) (by kernel_rfl) (congrArg Value.bool (beq_self_eq_true _)) ?_
          refine at_pures 7 (by kernel_rfl) (by kernel_rfl) ?_
          refine at_done (by kernel_rfl) ?_
          refine blk_n ?_
          refine then_n ?_
          refine c_seq [1, 1, 1, 1, 0, 1, 0, 0, 1, 1, 0, 0, 1, 1, 1, 0] [1, 1, 1, 1, 0, 1, 0, 0, 1, 1, 0, 0, 1, 1, 1, 1] (by kernel_rfl) ?_
          refine c_reg 22 wireReads_c_R22 (by kernel_rfl) ?_
          refine at_pures 4 (by kernel_rfl) (by kernel_rfl) ?_
          refine at_do (by kernel_rfl) (op_call 23 #[(.tmp 79)] #[(.pointer (some ⟨b19_, 0, none⟩))] (by kernel_rfl) (by kernel_rfl) (by kernel_rfl) ?_)
          have C126_ := rleft_c b19_ aorr84_ caprr85_ ((readM (Rs.mk 0 bl) (ts.take k)).take 1) w111_ h118_  
          refine Calls.mono C126_ ?_
          rintro e125_ w123_ ⟨rfl, F124_⟩
          have T127_ := Fr.tr T115_ F124_
          have h128_ := Rd.keep' h116_ F124_ Dis.n0
          have h129_ := ThingsAt.keep h117_ F124_ Dis.n0
          have h130_ := RrAt.keep h118_ F124_ Dis.n0
          have h131_ := Fr.keep F124_ h107_ Dis.n0
          have h132_ := Rd.keep' h119_ F124_ Dis.n0
          have h133_ := Fr.keep F124_ h120_ Dis.n0
          refine ⟨_, rfl, ?_⟩
          refine at_pures 6 (by kernel_rfl) (by kernel_rfl) ?_
          refine at_do (by kernel_rfl) (op_call 24 #[(.tmp 81)] #[(.pointer (some ⟨b36_, 0, none⟩))] (by kernel_rfl) (by kernel_rfl) (by kernel_rfl) ?_)
          have C138_ := rleft4_c b36_ bo bcap bl a105_ e106_ w123_ h128_ h131_  (by first | omega | with_reducible assumption | (simp only [List.length_append, List.length_cons, List.length_nil, putB_length]; omega) | decide) (by first | omega | with_reducible assumption | (simp only [List.length_append, List.length_cons, List.length_nil, putB_length]; omega) | decide) (by first | omega | with_reducible assumption | (simp only [List.length_append, List.length_cons, List.length_nil, putB_length]; omega) | decide)
          refine Calls.mono C138_ ?_
          rintro e137_ w135_ ⟨rfl, F136_⟩
          have T139_ := Fr.tr T127_ F136_
          have h140_ := Rd.keep' h128_ F136_ Dis.n0
          have h141_ := ThingsAt.keep h129_ F136_ Dis.n0
          have h142_ := RrAt.keep h130_ F136_ Dis.n0
          have h143_ := Fr.keep F136_ h131_ Dis.n0
          have h144_ := Rd.keep' h132_ F136_ Dis.n0
          have h145_ := Fr.keep F136_ h133_ Dis.n0
          refine ⟨(.int .i64 (((readM (Rs.mk 0 bl) (ts.take k)).take 1).l.length : Int)), (by rw [hQ121_]), ?_⟩
          refine at_as (.bool ((((readM (Rs.mk 0 bl) (ts.take k)).take 1).l.length : Int) != (((readM (Rs.mk 0 bl) (ts.take k)).take 1).l.length : Int))) (.bool false) (by kernel_rfl) (by kernel_rfl) (congrArg Value.bool (bne_self_eq_false _)) ?_
          refine at_pures 11 (by kernel_rfl) (by kernel_rfl) ?_
          refine at_do (by kernel_rfl) (op_call 25 #[(.tmp 86)] #[(.pointer (some ⟨b19_, 0, none⟩))] (by kernel_rfl) (by kernel_rfl) (by kernel_rfl) ?_)
          have C150_ := rend_c b19_ aorr84_ caprr85_ ((readM (Rs.mk 0 bl) (ts.take k)).take 1) w135_ h142_  
          refine Calls.mono C150_ ?_
          rintro e149_ w147_ ⟨rfl, F148_⟩
          have T151_ := Fr.tr T139_ F148_
          have h152_ := Rd.keep' h140_ F148_ Dis.n0
          have h153_ := ThingsAt.keep h141_ F148_ Dis.n0
          have h154_ := RrAt.keep h142_ F148_ Dis.n0
          have h155_ := Fr.keep F148_ h143_ Dis.n0
          have h156_ := Rd.keep' h144_ F148_ Dis.n0
          have h157_ := Fr.keep F148_ h145_ Dis.n0
          refine ⟨_, rfl, ?_⟩
          refine at_pures 13 (by kernel_rfl) (by kernel_rfl) ?_
          refine at_do (by kernel_rfl) (op_call 26 #[(.tmp 88)] #[(.pointer (some ⟨b36_, 0, none⟩))] (by kernel_rfl) (by kernel_rfl) (by kernel_rfl) ?_)
          have C162_ := rend4_c b36_ bo bcap bl a105_ e106_ w147_ h152_ h155_  (by first | omega | with_reducible assumption | (simp only [List.length_append, List.length_cons, List.length_nil, putB_length]; omega) | decide) (by first | omega | with_reducible assumption | (simp only [List.length_append, List.length_cons, List.length_nil, putB_length]; omega) | decide) (by first | omega | with_reducible assumption | (simp only [List.length_append, List.length_cons, List.length_nil, putB_length]; omega) | decide)
          refine Calls.mono C162_ ?_
          rintro e161_ w159_ ⟨rfl, F160_⟩
          have T163_ := Fr.tr T151_ F160_
          have h164_ := Rd.keep' h152_ F160_ Dis.n0
          have h165_ := ThingsAt.keep h153_ F160_ Dis.n0
          have h166_ := RrAt.keep h154_ F160_ Dis.n0
          have h167_ := Fr.keep F160_ h155_ Dis.n0
          have h168_ := Rd.keep' h156_ F160_ Dis.n0
          have h169_ := Fr.keep F160_ h157_ Dis.n0
          refine ⟨(.int .i64 (((readM (Rs.mk 0 bl) (ts.take k)).take 1).end : Int)), (by rw [hQ121_]), ?_⟩
          refine at_as (.bool ((((readM (Rs.mk 0 bl) (ts.take k)).take 1).end : Int) != (((readM (Rs.mk 0 bl) (ts.take k)).take 1).end : Int))) (.bool false) (by kernel_rfl) (by kernel_rfl) (congrArg Value.bool (bne_self_eq_false _)) ?_
          refine at_pures 16 (by kernel_rfl) (by kernel_rfl) ?_
          refine at_done (by kernel_rfl) ?_
          refine then_n ?_
          refine c_else (.tmp 91) [1, 1, 1, 1, 0, 1, 0, 0, 1, 1, 0, 0, 1, 1, 1, 1, 0] [1, 1, 1, 1, 0, 1, 0, 0, 1, 1, 0, 0, 1, 1, 1, 1, 1] (by kernel_rfl) (by kernel_rfl) ?_
          refine c_skip (by kernel_rfl) ?_
          refine blk_n ?_
          refine then_n ?_
          refine c_reg 24 wireReads_c_R24 (by kernel_rfl) ?_
          refine at_int (kd := .i64) (IntKind.i64.wrap ((k : Int) + (1 : Int))) ((k : Int) + (1 : Int)) (by kernel_rfl) (by kernel_rfl) (wrapN_i64 (by omega) (by omega)) ?_
          refine at_pures 2 (by kernel_rfl) (by kernel_rfl) ?_
          refine at_done (by kernel_rfl) ?_
          refine then_n ?_
          have hN : (readM (Rs.mk 0 bl) (ts.take k)).take 1 = readM (Rs.mk 0 bl) (ts.take (k + 1)) := by rw [readM_snoc hx_x]; unfold Thing.rm; symm; first | rw [if_pos (by omega)] | rw [if_neg (by omega), if_pos (by omega)] | rw [if_neg (by omega), if_neg (by omega), if_pos (by omega)] | rw [if_neg (by omega), if_neg (by omega), if_neg (by omega), if_pos (by omega)] | rw [if_neg (by omega), if_neg (by omega), if_neg (by omega), if_neg (by omega), if_pos (by omega), if_pos (by omega)] | rw [if_neg (by omega), if_neg (by omega), if_neg (by omega), if_neg (by omega), if_pos (by omega), if_neg (by omega)] | rw [if_neg (by omega), if_neg (by omega), if_neg (by omega), if_neg (by omega), if_neg (by omega)]
          rw [hN] at N104_ d100_ d102_ d94_ d96_ d98_ h166_ hQ121_
          exact ⟨⟨k + 1, aorr84_, caprr85_, a105_, e106_, is_mk (by kernel_rfl) (by kernel_rfl) (by kernel_rfl), ⟨(by omega), (by assumption), (by assumption), h164_, h165_, h166_, h167_, (Dis.sym d94_), (Dis.sym d96_), d98_, N104_, T163_⟩⟩, cnt_lt (k := (k : Int)) (k' := ((k : Int) + (1 : Int))) (by kernel_rfl) (by kernel_rfl) (by omega) (by omega)⟩
        · -- no
          replace c83_ : x.kind ≠ (0 : Int) := by simpa using c83_
          refine c_seq [1, 1, 1, 1, 0, 1, 0, 0, 1, 1, 0, 0, 1, 1, 0, 1, 0, 1, 1, 0] [1, 1, 1, 1, 0, 1, 0, 0, 1, 1, 0, 0, 1, 1, 0, 1, 0, 1, 1, 1] (by kernel_rfl) ?_
          refine c_reg 13 wireReads_c_R13 (by kernel_rfl) ?_
          refine at_pures 2 (by kernel_rfl) (by kernel_rfl) ?_
          refine at_done (by kernel_rfl) ?_
          refine then_n ?_
          refine c_if (.tmp 40) (x.kind == (1 : Int)) [1, 1, 1, 1, 0, 1, 0, 0, 1, 1, 0, 0, 1, 1, 0, 1, 0, 1, 1, 1, 0] [1, 1, 1, 1, 0, 1, 0, 0, 1, 1, 0, 0, 1, 1, 0, 1, 0, 1, 1, 1, 1] (by kernel_rfl) (by kernel_rfl) (fun c170_ => ?_) (fun c170_ => ?_)
          · -- yes
            replace c170_ : x.kind = (1 : Int) := by simpa using c170_
            refine c_reg 14 wireReads_c_R14 (by kernel_rfl) ?_
            refine at_pures 1 (by kernel_rfl) (by kernel_rfl) ?_
            refine at_do (by kernel_rfl) (op_call 17 #[(.tmp 42)] #[(.pointer (some ⟨b19_, 0, none⟩))] (by kernel_rfl) (by kernel_rfl) (by kernel_rfl) ?_)
            have C179_ := rnum_c b19_ ao1 cap1 (readM (Rs.mk 0 bl) (ts.take k)) w73_ h80_  (by first | omega | with_reducible assumption | (simp only [List.length_append, List.length_cons, List.length_nil, putB_length]; omega) | decide)
            refine Calls.mono C179_ ?_
            rintro e178_ w176_ ⟨aorr171_, caprr172_, rfl, h173_, F177_, h175_⟩
            have T180_ := Fr.then T77_ F177_ (Sub.new Sub.inl n_2L49_)
            have d181_ : Dis (rrS b19_ aorr171_ ((readM (Rs.mk 0 bl) (ts.take k)).take 4)) (Ar bo (B bl)) := Dis.step (Dis.sym d_0_2L49_) h175_ (Rd.in h78_)
            have h182_ := Rd.keep' h78_ F177_ (Dis.sub Sub.inl d_0_2L49_)
            have d183_ : Dis (rrS b19_ aorr171_ ((readM (Rs.mk 0 bl) (ts.take k)).take 4)) (Old N) := Dis.step (Dis.sym d_1_2L49_) h175_ (ThingsAt.in h79_)
            have h184_ := ThingsAt.keep h79_ F177_ (Dis.sub Sub.inl d_1_2L49_)
            have d185_ : Dis (rrS b19_ aorr171_ ((readM (Rs.mk 0 bl) (ts.take k)).take 4)) (One b36_) := Dis.step d_2_3L49_ h175_ (In.one h81_)
            have h186_ := Fr.keep F177_ h81_ (Dis.sub Sub.inl (Dis.sym d_2_3L49_))
            have d187_ : Dis (rrS b19_ aorr171_ ((readM (Rs.mk 0 bl) (ts.take k)).take 4)) (Ar x.ao (B x.b)) := Dis.step (Dis.sym (Sub.dis hi_x d_1_2L49_)) h175_ (Rd.in h82_)
            have h188_ := Rd.keep' h82_ F177_ (Dis.sub Sub.inl (Sub.dis hi_x d_1_2L49_))
            have d189_ : Dis (rrS b19_ aorr171_ ((readM (Rs.mk 0 bl) (ts.take k)).take 4)) (One b56_) := Dis.step (Dis.sym d63_) h175_ (In.one h74_)
            have h190_ := Fr.keep F177_ h74_ (Dis.sub Sub.inl d63_)
            have N191_ := New.trans n_2L49_ h175_ (Fr.size T77_)
            refine ⟨_, rfl, ?_⟩
            refine at_int (kd := .u64) (IntKind.u64.wrap (((readM (Rs.mk 0 bl) (ts.take k)).num 4 : Int))) (((readM (Rs.mk 0 bl) (ts.take k)).num 4 : Int)) (by kernel_rfl) (by kernel_rfl) (wrapN_u64 (Int.natCast_nonneg _) (by have := Rs.num_lt hRB (Nat.le_refl 4); omega)) ?_
            refine at_pures 4 (by kernel_rfl) (by kernel_rfl) ?_
            refine at_do (by kernel_rfl) (op_call 16 #[(.tmp 45), (.const (.int .i64 4))] #[(.pointer (some ⟨b36_, 0, none⟩)), (.int .i64 4)] (by kernel_rfl) (by kernel_rfl) (by kernel_rfl) ?_)
            have C201_ := rnumber_c b36_ bo bcap bl a0 e0 4 w176_ h182_ h186_ d41_ (by first | omega | with_reducible assumption | (simp only [List.length_append, List.length_cons, List.length_nil, putB_length]; omega) | decide) (by first | omega | with_reducible assumption | (simp only [List.length_append, List.length_cons, List.length_nil, putB_length]; omega) | decide) (by first | omega | with_reducible assumption | (simp only [List.length_append, List.length_cons, List.length_nil, putB_length]; omega) | decide) (by first | omega | with_reducible assumption | (simp only [List.length_append, List.length_cons, List.length_nil, putB_length]; omega) | decide) (by first | omega | with_reducible assumption | (simp only [List.length_append, List.length_cons, List.length_nil, putB_length]; omega) | decide)
            refine Calls.mono C201_ ?_
            rintro e200_ w198_ ⟨a192_, e193_, rfl, h194_, F199_, h196_, h197_⟩
            have T202_ := Fr.then T180_ F199_ N44_
            have h203_ := Rd.keep' h182_ F199_ (Dis.sym d41_)
            have h204_ := ThingsAt.keep h184_ F199_ (Dis.sym d42_)
            have h205_ := RrAt.keep h173_ F199_ d185_
            have h206_ := Rd.keep' h188_ F199_ (Sub.dis hi_x (Dis.sym d42_))
            have h207_ := Fr.keep F199_ h190_ d64_
            have hQ208_ := h197_; rw [hQ] at hQ208_
            refine ⟨(.int .u64 ((readM (Rs.mk 0 bl) (ts.take k)).num 4 : Int)), (by rw [hQ]), ?_⟩
            refine at_as (.bool (((readM (Rs.mk 0 bl) (ts.take k)).num 4 : Int) == ((readM (Rs.mk 0 bl) (ts.take k)).num 4 : Int))) (.bool true) (by kernel_rfl) (by kernel_rfl) (congrArg Value.bool (beq_self_eq_true _)) ?_
            refine at_pures 7 (by kernel_rfl) (by kernel_rfl) ?_
            refine at_done (by kernel_rfl) ?_
            refine blk_n ?_
            refine then_n ?_
            refine c_seq [1, 1, 1, 1, 0, 1, 0, 0, 1, 1, 0, 0, 1, 1, 1, 0] [1, 1, 1, 1, 0, 1, 0, 0, 1, 1, 0, 0, 1, 1, 1, 1] (by kernel_rfl) ?_
            refine c_reg 22 wireReads_c_R22 (by kernel_rfl) ?_
            refine at_pures 4 (by kernel_rfl) (by kernel_rfl) ?_
            refine at_do (by kernel_rfl) (op_call 23 #[(.tmp 79)] #[(.pointer (some ⟨b19_, 0, none⟩))] (by kernel_rfl) (by kernel_rfl) (by kernel_rfl) ?_)
            have C213_ := rleft_c b19_ aorr171_ caprr172_ ((readM (Rs.mk 0 bl) (ts.take k)).take 4) w198_ h205_  
            refine Calls.mono C213_ ?_
            rintro e212_ w210_ ⟨rfl, F211_⟩
            have T214_ := Fr.tr T202_ F211_
            have h215_ := Rd.keep' h203_ F211_ Dis.n0
            have h216_ := ThingsAt.keep h204_ F211_ Dis.n0
            have h217_ := RrAt.keep h205_ F211_ Dis.n0
            have h218_ := Fr.keep F211_ h194_ Dis.n0
            have h219_ := Rd.keep' h206_ F211_ Dis.n0
            have h220_ := Fr.keep F211_ h207_ Dis.n0
            refine ⟨_, rfl, ?_⟩
            refine at_pures 6 (by kernel_rfl) (by kernel_rfl) ?_
            refine at_do (by kernel_rfl) (op_call 24 #[(.tmp 81)] #[(.pointer (some ⟨b36_, 0, none⟩))] (by kernel_rfl) (by kernel_rfl) (by kernel_rfl) ?_)
            have C225_ := rleft4_c b36_ bo bcap bl a192_ e193_ w210_ h215_ h218_  (by first | omega | with_reducible assumption | (simp only [List.length_append, List.length_cons, List.length_nil, putB_length]; omega) | decide) (by first | omega | with_reducible assumption | (simp only [List.length_append, List.length_cons, List.length_nil, putB_length]; omega) | decide) (by first | omega | with_reducible assumption | (simp only [List.length_append, List.length_cons, List.length_nil, putB_length]; omega) | decide)
            refine Calls.mono C225_ ?_
            rintro e224_ w222_ ⟨rfl, F223_⟩
            have T226_ := Fr.tr T214_ F223_
            have h227_ := Rd.keep' h215_ F223_ Dis.n0
            have h228_ := ThingsAt.keep h216_ F223_ Dis.n0
            have h229_ := RrAt.keep h217_ F223_ Dis.n0
            have h230_ := Fr.keep F223_ h218_ Dis.n0
            have h231_ := Rd.keep' h219_ F223_ Dis.n0
            have h232_ := Fr.keep F223_ h220_ Dis.n0
            refine ⟨(.int .i64 (((readM (Rs.mk 0 bl) (ts.take k)).take 4).l.length : Int)), (by rw [hQ208_]), ?_⟩
            refine at_as (.bool ((((readM (Rs.mk 0 bl) (ts.take k)).take 4).l.length : Int) != (((readM (Rs.mk 0 bl) (ts.take k)).take 4).l.length : Int))) (.bool false) (by kernel_rfl) (by kernel_rfl) (congrArg Value.bool (bne_self_eq_false _)) ?_
            refine at_pures 11 (by kernel_rfl) (by kernel_rfl) ?_
            refine at_do (by kernel_rfl) (op_call 25 #[(.tmp 86)] #[(.pointer (some ⟨b19_, 0, none⟩))] (by kernel_rfl) (by kernel_rfl) (by kernel_rfl) ?_)
            have C237_ := rend_c b19_ aorr171_ caprr172_ ((readM (Rs.mk 0 bl) (ts.take k)).take 4) w222_ h229_  
            refine Calls.mono C237_ ?_
            rintro e236_ w234_ ⟨rfl, F235_⟩
            have T238_ := Fr.tr T226_ F235_
            have h239_ := Rd.keep' h227_ F235_ Dis.n0
            have h240_ := ThingsAt.keep h228_ F235_ Dis.n0
            have h241_ := RrAt.keep h229_ F235_ Dis.n0
            have h242_ := Fr.keep F235_ h230_ Dis.n0
            have h243_ := Rd.keep' h231_ F235_ Dis.n0
            have h244_ := Fr.keep F235_ h232_ Dis.n0
            refine ⟨_, rfl, ?_⟩
            refine at_pures 13 (by kernel_rfl) (by kernel_rfl) ?_
            refine at_do (by kernel_rfl) (op_call 26 #[(.tmp 88)] #[(.pointer (some ⟨b36_, 0, none⟩))] (by kernel_rfl) (by kernel_rfl) (by kernel_rfl) ?_)
            have C249_ := rend4_c b36_ bo bcap bl a192_ e193_ w234_ h239_ h242_  (by first | omega | with_reducible assumption | (simp only [List.length_append, List.length_cons, List.length_nil, putB_length]; omega) | decide) (by first | omega | with_reducible assumption | (simp only [List.length_append, List.length_cons, List.length_nil, putB_length]; omega) | decide) (by first | omega | with_reducible assumption | (simp only [List.length_append, List.length_cons, List.length_nil, putB_length]; omega) | decide)
            refine Calls.mono C249_ ?_
            rintro e248_ w246_ ⟨rfl, F247_⟩
            have T250_ := Fr.tr T238_ F247_
            have h251_ := Rd.keep' h239_ F247_ Dis.n0
            have h252_ := ThingsAt.keep h240_ F247_ Dis.n0
            have h253_ := RrAt.keep h241_ F247_ Dis.n0
            have h254_ := Fr.keep F247_ h242_ Dis.n0
            have h255_ := Rd.keep' h243_ F247_ Dis.n0
            have h256_ := Fr.keep F247_ h244_ Dis.n0
            refine ⟨(.int .i64 (((readM (Rs.mk 0 bl) (ts.take k)).take 4).end : Int)), (by rw [hQ208_]), ?_⟩
            refine at_as (.bool ((((readM (Rs.mk 0 bl) (ts.take k)).take 4).end : Int) != (((readM (Rs.mk 0 bl) (ts.take k)).take 4).end : Int))) (.bool false) (by kernel_rfl) (by kernel_rfl) (congrArg Value.bool (bne_self_eq_false _)) ?_
            refine at_pures 16 (by kernel_rfl) (by kernel_rfl) ?_
            refine at_done (by kernel_rfl) ?_
            refine then_n ?_
            refine c_else (.tmp 91) [1, 1, 1, 1, 0, 1, 0, 0, 1, 1, 0, 0, 1, 1, 1, 1, 0] [1, 1, 1, 1, 0, 1, 0, 0, 1, 1, 0, 0, 1, 1, 1, 1, 1] (by kernel_rfl) (by kernel_rfl) ?_
            refine c_skip (by kernel_rfl) ?_
            refine blk_n ?_
            refine then_n ?_
            refine c_reg 24 wireReads_c_R24 (by kernel_rfl) ?_
            refine at_int (kd := .i64) (IntKind.i64.wrap ((k : Int) + (1 : Int))) ((k : Int) + (1 : Int)) (by kernel_rfl) (by kernel_rfl) (wrapN_i64 (by omega) (by omega)) ?_
            refine at_pures 2 (by kernel_rfl) (by kernel_rfl) ?_
            refine at_done (by kernel_rfl) ?_
            refine then_n ?_
            have hN : (readM (Rs.mk 0 bl) (ts.take k)).take 4 = readM (Rs.mk 0 bl) (ts.take (k + 1)) := by rw [readM_snoc hx_x]; unfold Thing.rm; symm; first | rw [if_pos (by omega)] | rw [if_neg (by omega), if_pos (by omega)] | rw [if_neg (by omega), if_neg (by omega), if_pos (by omega)] | rw [if_neg (by omega), if_neg (by omega), if_neg (by omega), if_pos (by omega)] | rw [if_neg (by omega), if_neg (by omega), if_neg (by omega), if_neg (by omega), if_pos (by omega), if_pos (by omega)] | rw [if_neg (by omega), if_neg (by omega), if_neg (by omega), if_neg (by omega), if_pos (by omega), if_neg (by omega)] | rw [if_neg (by omega), if_neg (by omega), if_neg (by omega), if_neg (by omega), if_neg (by omega)]
            rw [hN] at N191_ d181_ d183_ d185_ d187_ d189_ h253_ hQ208_
            exact ⟨⟨k + 1, aorr171_, caprr172_, a192_, e193_, is_mk (by kernel_rfl) (by kernel_rfl) (by kernel_rfl), ⟨(by omega), (by assumption), (by assumption), h251_, h252_, h253_, h254_, (Dis.sym d181_), (Dis.sym d183_), d185_, N191_, T250_⟩⟩, cnt_lt (k := (k : Int)) (k' := ((k : Int) + (1 : Int))) (by kernel_rfl) (by kernel_rfl) (by omega) (by omega)⟩
          · -- no
            replace c170_ : x.kind ≠ (1 : Int) := by simpa using c170_
            refine c_seq [1, 1, 1, 1, 0, 1, 0, 0, 1, 1, 0, 0, 1, 1, 0, 1, 0, 1, 1, 1, 1, 0] [1, 1, 1, 1, 0, 1, 0, 0, 1, 1, 0, 0, 1, 1, 0, 1, 0, 1, 1, 1, 1, 1] (by kernel_rfl) ?_
            refine c_reg 15 wireReads_c_R15 (by kernel_rfl) ?_
            refine at_pures 2 (by kernel_rfl) (by kernel_rfl) ?_
            refine at_done (by kernel_rfl) ?_
            refine then_n ?_
            refine c_if (.tmp 48) (x.kind == (2 : Int)) [1, 1, 1, 1, 0, 1, 0, 0, 1, 1, 0, 0, 1, 1, 0, 1, 0, 1, 1, 1, 1, 1, 0] [1, 1, 1, 1, 0, 1, 0, 0, 1, 1, 0, 0, 1, 1, 0, 1, 0, 1, 1, 1, 1, 1, 1] (by kernel_rfl) (by kernel_rfl) (fun c257_ => ?_) (fun c257_ => ?_)
            · -- yes
              replace c257_ : x.kind = (2 : Int) := by simpa using c257_
              refine c_reg 16 wireReads_c_R16 (by kernel_rfl) ?_
              refine at_pures 1 (by kernel_rfl) (by kernel_rfl) ?_
              refine at_do (by kernel_rfl) (op_call 18 #[(.tmp 50)] #[(.pointer (some ⟨b19_, 0, none⟩))] (by kernel_rfl) (by kernel_rfl) (by kernel_rfl) ?_)
              have C266_ := rlong_c b19_ ao1 cap1 (readM (Rs.mk 0 bl) (ts.take k)) w73_ h80_  (by first | omega | with_reducible assumption | (simp only [List.length_append, List.length_cons, List.length_nil, putB_length]; omega) | decide)
              refine Calls.mono C266_ ?_
              rintro e265_ w263_ ⟨aorr258_, caprr259_, rfl, h260_, F264_, h262_⟩
              have T267_ := Fr.then T77_ F264_ (Sub.new Sub.inl n_2L49_)
              have d268_ : Dis (rrS b19_ aorr258_ ((readM (Rs.mk 0 bl) (ts.take k)).take 8)) (Ar bo (B bl)) := Dis.step (Dis.sym d_0_2L49_) h262_ (Rd.in h78_)
              have h269_ := Rd.keep' h78_ F264_ (Dis.sub Sub.inl d_0_2L49_)
              have d270_ : Dis (rrS b19_ aorr258_ ((readM (Rs.mk 0 bl) (ts.take k)).take 8)) (Old N) := Dis.step (Dis.sym d_1_2L49_) h262_ (ThingsAt.in h79_)
              have h271_ := ThingsAt.keep h79_ F264_ (Dis.sub Sub.inl d_1_2L49_)
              have d272_ : Dis (rrS b19_ aorr258_ ((readM (Rs.mk 0 bl) (ts.take k)).take 8)) (One b36_) := Dis.step d_2_3L49_ h262_ (In.one h81_)
              have h273_ := Fr.keep F264_ h81_ (Dis.sub Sub.inl (Dis.sym d_2_3L49_))
              have d274_ : Dis (rrS b19_ aorr258_ ((readM (Rs.mk 0 bl) (ts.take k)).take 8)) (Ar x.ao (B x.b)) := Dis.step (Dis.sym (Sub.dis hi_x d_1_2L49_)) h262_ (Rd.in h82_)
              have h275_ := Rd.keep' h82_ F264_ (Dis.sub Sub.inl (Sub.dis hi_x d_1_2L49_))
              have d276_ : Dis (rrS b19_ aorr258_ ((readM (Rs.mk 0 bl) (ts.take k)).take 8)) (One b56_) := Dis.step (Dis.sym d63_) h262_ (In.one h74_)
              have h277_ := Fr.keep F264_ h74_ (Dis.sub Sub.inl d63_)
              have N278_ := New.trans n_2L49_ h262_ (Fr.size T77_)
              refine ⟨_, rfl, ?_⟩
              refine at_pures 3 (by kernel_rfl) (by kernel_rfl) ?_
              refine at_do (by kernel_rfl) (op_call 16 #[(.tmp 52), (.const (.int .i64 8))] #[(.pointer (some ⟨b36_, 0, none⟩)), (.int .i64 8)] (by kernel_rfl) (by kernel_rfl) (by kernel_rfl) ?_)
              have C288_ := rnumber_c b36_ bo bcap bl a0 e0 8 w263_ h269_ h273_ d41_ (by first | omega | with_reducible assumption | (simp only [List.length_append, List.length_cons, List.length_nil, putB_length]; omega) | decide) (by first | omega | with_reducible assumption | (simp only [List.length_append, List.length_cons, List.length_nil, putB_length]; omega) | decide) (by first | omega | with_reducible assumption | (simp only [List.length_append, List.length_cons, List.length_nil, putB_length]; omega) | decide) (by first | omega | with_reducible assumption | (simp only [List.length_append, List.length_cons, List.length_nil, putB_length]; omega) | decide) (by first | omega | with_reducible assumption | (simp only [List.length_append, List.length_cons, List.length_nil, putB_length]; omega) | decide)
              refine Calls.mono C288_ ?_
              rintro e287_ w285_ ⟨a279_, e280_, rfl, h281_, F286_, h283_, h284_⟩
              have T289_ := Fr.then T267_ F286_ N44_
              have h290_ := Rd.keep' h269_ F286_ (Dis.sym d41_)
              have h291_ := ThingsAt.keep h271_ F286_ (Dis.sym d42_)
              have h292_ := RrAt.keep h260_ F286_ d272_
              have h293_ := Rd.keep' h275_ F286_ (Sub.dis hi_x (Dis.sym d42_))
              have h294_ := Fr.keep F286_ h277_ d64_
              have hQ295_ := h284_; rw [hQ] at hQ295_
              refine ⟨(.int .u64 ((readM (Rs.mk 0 bl) (ts.take k)).num 8 : Int)), (by rw [hQ]), ?_⟩
              refine at_as (.bool (((readM (Rs.mk 0 bl) (ts.take k)).num 8 : Int) == ((readM (Rs.mk 0 bl) (ts.take k)).num 8 : Int))) (.bool true) (by kernel_rfl) (by kernel_rfl) (congrArg Value.bool (beq_self_eq_true _)) ?_
              refine at_pures 6 (by kernel_rfl) (by kernel_rfl) ?_
              refine at_done (by kernel_rfl) ?_
              refine blk_n ?_
              refine then_n ?_
              refine c_seq [1, 1, 1, 1, 0, 1, 0, 0, 1, 1, 0, 0, 1, 1, 1, 0] [1, 1, 1, 1, 0, 1, 0, 0, 1, 1, 0, 0, 1, 1, 1, 1] (by kernel_rfl) ?_
              refine c_reg 22 wireReads_c_R22 (by kernel_rfl) ?_
              refine at_pures 4 (by kernel_rfl) (by kernel_rfl) ?_
              refine at_do (by kernel_rfl) (op_call 23 #[(.tmp 79)] #[(.pointer (some ⟨b19_, 0, none⟩))] (by kernel_rfl) (by kernel_rfl) (by kernel_rfl) ?_)
              have C300_ := rleft_c b19_ aorr258_ caprr259_ ((readM (Rs.mk 0 bl) (ts.take k)).take 8) w285_ h292_  
              refine Calls.mono C300_ ?_
              rintro e299_ w297_ ⟨rfl, F298_⟩
              have T301_ := Fr.tr T289_ F298_
              have h302_ := Rd.keep' h290_ F298_ Dis.n0
              have h303_ := ThingsAt.keep h291_ F298_ Dis.n0
              have h304_ := RrAt.keep h292_ F298_ Dis.n0
              have h305_ := Fr.keep F298_ h281_ Dis.n0
              have h306_ := Rd.keep' h293_ F298_ Dis.n0
              have h307_ := Fr.keep F298_ h294_ Dis.n0
              refine ⟨_, rfl, ?_⟩
              refine at_pures 6 (by kernel_rfl) (by kernel_rfl) ?_
              refine at_do (by kernel_rfl) (op_call 24 #[(.tmp 81)] #[(.pointer (some ⟨b36_, 0, none⟩))] (by kernel_rfl) (by kernel_rfl) (by kernel_rfl) ?_)
              have C312_ := rleft4_c b36_ bo bcap bl a279_ e280_ w297_ h302_ h305_  (by first | omega | with_reducible assumption | (simp only [List.length_append, List.length_cons, List.length_nil, putB_length]; omega) | decide) (by first | omega | with_reducible assumption | (simp only [List.length_append, List.length_cons, List.length_nil, putB_length]; omega) | decide) (by first | omega | with_reducible assumption | (simp only [List.length_append, List.length_cons, List.length_nil, putB_length]; omega) | decide)
              refine Calls.mono C312_ ?_
              rintro e311_ w309_ ⟨rfl, F310_⟩
              have T313_ := Fr.tr T301_ F310_
              have h314_ := Rd.keep' h302_ F310_ Dis.n0
              have h315_ := ThingsAt.keep h303_ F310_ Dis.n0
              have h316_ := RrAt.keep h304_ F310_ Dis.n0
              have h317_ := Fr.keep F310_ h305_ Dis.n0
              have h318_ := Rd.keep' h306_ F310_ Dis.n0
              have h319_ := Fr.keep F310_ h307_ Dis.n0
              refine ⟨(.int .i64 (((readM (Rs.mk 0 bl) (ts.take k)).take 8).l.length : Int)), (by rw [hQ295_]), ?_⟩
              refine at_as (.bool ((((readM (Rs.mk 0 bl) (ts.take k)).take 8).l.length : Int) != (((readM (Rs.mk 0 bl) (ts.take k)).take 8).l.length : Int))) (.bool false) (by kernel_rfl) (by kernel_rfl) (congrArg Value.bool (bne_self_eq_false _)) ?_
              refine at_pures 11 (by kernel_rfl) (by kernel_rfl) ?_
              refine at_do (by kernel_rfl) (op_call 25 #[(.tmp 86)] #[(.pointer (some ⟨b19_, 0, none⟩))] (by kernel_rfl) (by kernel_rfl) (by kernel_rfl) ?_)
              have C324_ := rend_c b19_ aorr258_ caprr259_ ((readM (Rs.mk 0 bl) (ts.take k)).take 8) w309_ h316_  
              refine Calls.mono C324_ ?_
              rintro e323_ w321_ ⟨rfl, F322_⟩
              have T325_ := Fr.tr T313_ F322_
              have h326_ := Rd.keep' h314_ F322_ Dis.n0
              have h327_ := ThingsAt.keep h315_ F322_ Dis.n0
              have h328_ := RrAt.keep h316_ F322_ Dis.n0
              have h329_ := Fr.keep F322_ h317_ Dis.n0
              have h330_ := Rd.keep' h318_ F322_ Dis.n0
              have h331_ := Fr.keep F322_ h319_ Dis.n0
              refine ⟨_, rfl, ?_⟩
              refine at_pures 13 (by kernel_rfl) (by kernel_rfl) ?_
              refine at_do (by kernel_rfl) (op_call 26 #[(.tmp 88)] #[(.pointer (some ⟨b36_, 0, none⟩))] (by kernel_rfl) (by kernel_rfl) (by kernel_rfl) ?_)
              have C336_ := rend4_c b36_ bo bcap bl a279_ e280_ w321_ h326_ h329_  (by first | omega | with_reducible assumption | (simp only [List.length_append, List.length_cons, List.length_nil, putB_length]; omega) | decide) (by first | omega | with_reducible assumption | (simp only [List.length_append, List.length_cons, List.length_nil, putB_length]; omega) | decide) (by first | omega | with_reducible assumption | (simp only [List.length_append, List.length_cons, List.length_nil, putB_length]; omega) | decide)
              refine Calls.mono C336_ ?_
              rintro e335_ w333_ ⟨rfl, F334_⟩
              have T337_ := Fr.tr T325_ F334_
              have h338_ := Rd.keep' h326_ F334_ Dis.n0
              have h339_ := ThingsAt.keep h327_ F334_ Dis.n0
              have h340_ := RrAt.keep h328_ F334_ Dis.n0
              have h341_ := Fr.keep F334_ h329_ Dis.n0
              have h342_ := Rd.keep' h330_ F334_ Dis.n0
              have h343_ := Fr.keep F334_ h331_ Dis.n0
              refine ⟨(.int .i64 (((readM (Rs.mk 0 bl) (ts.take k)).take 8).end : Int)), (by rw [hQ295_]), ?_⟩
              refine at_as (.bool ((((readM (Rs.mk 0 bl) (ts.take k)).take 8).end : Int) != (((readM (Rs.mk 0 bl) (ts.take k)).take 8).end : Int))) (.bool false) (by kernel_rfl) (by kernel_rfl) (congrArg Value.bool (bne_self_eq_false _)) ?_
              refine at_pures 16 (by kernel_rfl) (by kernel_rfl) ?_
              refine at_done (by kernel_rfl) ?_
              refine then_n ?_
              refine c_else (.tmp 91) [1, 1, 1, 1, 0, 1, 0, 0, 1, 1, 0, 0, 1, 1, 1, 1, 0] [1, 1, 1, 1, 0, 1, 0, 0, 1, 1, 0, 0, 1, 1, 1, 1, 1] (by kernel_rfl) (by kernel_rfl) ?_
              refine c_skip (by kernel_rfl) ?_
              refine blk_n ?_
              refine then_n ?_
              refine c_reg 24 wireReads_c_R24 (by kernel_rfl) ?_
              refine at_int (kd := .i64) (IntKind.i64.wrap ((k : Int) + (1 : Int))) ((k : Int) + (1 : Int)) (by kernel_rfl) (by kernel_rfl) (wrapN_i64 (by omega) (by omega)) ?_
              refine at_pures 2 (by kernel_rfl) (by kernel_rfl) ?_
              refine at_done (by kernel_rfl) ?_
              refine then_n ?_
              have hN : (readM (Rs.mk 0 bl) (ts.take k)).take 8 = readM (Rs.mk 0 bl) (ts.take (k + 1)) := by rw [readM_snoc hx_x]; unfold Thing.rm; symm; first | rw [if_pos (by omega)] | rw [if_neg (by omega), if_pos (by omega)] | rw [if_neg (by omega), if_neg (by omega), if_pos (by omega)] | rw [if_neg (by omega), if_neg (by omega), if_neg (by omega), if_pos (by omega)] | rw [if_neg (by omega), if_neg (by omega), if_neg (by omega), if_neg (by omega), if_pos (by omega), if_pos (by omega)] | rw [if_neg (by omega), if_neg (by omega), if_neg (by omega), if_neg (by omega), if_pos (by omega), if_neg (by omega)] | rw [if_neg (by omega), if_neg (by omega), if_neg (by omega), if_neg (by omega), if_neg (by omega)]
              rw [hN] at N278_ d268_ d270_ d272_ d274_ d276_ h340_ hQ295_
              exact ⟨⟨k + 1, aorr258_, caprr259_, a279_, e280_, is_mk (by kernel_rfl) (by kernel_rfl) (by kernel_rfl), ⟨(by omega), (by assumption), (by assumption), h338_, h339_, h340_, h341_, (Dis.sym d268_), (Dis.sym d270_), d272_, N278_, T337_⟩⟩, cnt_lt (k := (k : Int)) (k' := ((k : Int) + (1 : Int))) (by kernel_rfl) (by kernel_rfl) (by omega) (by omega)⟩
            · -- no
              replace c257_ : x.kind ≠ (2 : Int) := by simpa using c257_
              refine c_seq [1, 1, 1, 1, 0, 1, 0, 0, 1, 1, 0, 0, 1, 1, 0, 1, 0, 1, 1, 1, 1, 1, 1, 0] [1, 1, 1, 1, 0, 1, 0, 0, 1, 1, 0, 0, 1, 1, 0, 1, 0, 1, 1, 1, 1, 1, 1, 1] (by kernel_rfl) ?_
              refine c_reg 17 wireReads_c_R17 (by kernel_rfl) ?_
              refine at_pures 2 (by kernel_rfl) (by kernel_rfl) ?_
              refine at_done (by kernel_rfl) ?_
              refine then_n ?_
              refine c_if (.tmp 55) (x.kind == (3 : Int)) [1, 1, 1, 1, 0, 1, 0, 0, 1, 1, 0, 0, 1, 1, 0, 1, 0, 1, 1, 1, 1, 1, 1, 1, 0] [1, 1, 1, 1, 0, 1, 0, 0, 1, 1, 0, 0, 1, 1, 0, 1, 0, 1, 1, 1, 1, 1, 1, 1, 1] (by kernel_rfl) (by kernel_rfl) (fun c344_ => ?_) (fun c344_ => ?_)
              · -- yes
                replace c344_ : x.kind = (3 : Int) := by simpa using c344_
                refine c_reg 18 wireReads_c_R18 (by kernel_rfl) ?_
                refine at_pures 1 (by kernel_rfl) (by kernel_rfl) ?_
                refine at_do (by kernel_rfl) (op_call 19 #[(.tmp 57)] #[(.pointer (some ⟨b19_, 0, none⟩))] (by kernel_rfl) (by kernel_rfl) (by kernel_rfl) ?_)
                have C353_ := rhash_c b19_ ao1 cap1 (readM (Rs.mk 0 bl) (ts.take k)) w73_ h80_  
                refine Calls.mono C353_ ?_
                rintro e352_ w350_ ⟨aorr345_, caprr346_, rfl, h347_, F351_, h349_⟩
                have T354_ := Fr.then T77_ F351_ (Sub.new Sub.inl n_2L49_)
                have d355_ : Dis (rrS b19_ aorr345_ ((readM (Rs.mk 0 bl) (ts.take k)).take 32)) (Ar bo (B bl)) := Dis.step (Dis.sym d_0_2L49_) h349_ (Rd.in h78_)
                have h356_ := Rd.keep' h78_ F351_ (Dis.sub Sub.inl d_0_2L49_)
                have d357_ : Dis (rrS b19_ aorr345_ ((readM (Rs.mk 0 bl) (ts.take k)).take 32)) (Old N) := Dis.step (Dis.sym d_1_2L49_) h349_ (ThingsAt.in h79_)
                have h358_ := ThingsAt.keep h79_ F351_ (Dis.sub Sub.inl d_1_2L49_)
                have d359_ : Dis (rrS b19_ aorr345_ ((readM (Rs.mk 0 bl) (ts.take k)).take 32)) (One b36_) := Dis.step d_2_3L49_ h349_ (In.one h81_)
                have h360_ := Fr.keep F351_ h81_ (Dis.sub Sub.inl (Dis.sym d_2_3L49_))
                have d361_ : Dis (rrS b19_ aorr345_ ((readM (Rs.mk 0 bl) (ts.take k)).take 32)) (Ar x.ao (B x.b)) := Dis.step (Dis.sym (Sub.dis hi_x d_1_2L49_)) h349_ (Rd.in h82_)
                have h362_ := Rd.keep' h82_ F351_ (Dis.sub Sub.inl (Sub.dis hi_x d_1_2L49_))
                have d363_ : Dis (rrS b19_ aorr345_ ((readM (Rs.mk 0 bl) (ts.take k)).take 32)) (One b56_) := Dis.step (Dis.sym d63_) h349_ (In.one h74_)
                have h364_ := Fr.keep F351_ h74_ (Dis.sub Sub.inl d63_)
                have N365_ := New.trans n_2L49_ h349_ (Fr.size T77_)
                refine ⟨_, rfl, ?_⟩
                refine at_pures 3 (by kernel_rfl) (by kernel_rfl) ?_
                refine at_do (by kernel_rfl) (op_call 20 #[(.tmp 59)] #[(.pointer (some ⟨b36_, 0, none⟩))] (by kernel_rfl) (by kernel_rfl) (by kernel_rfl) ?_)
                have C375_ := rhash4_c b36_ bo bcap bl a0 e0 w350_ h356_ h360_ d41_ (by first | omega | with_reducible assumption | (simp only [List.length_append, List.length_cons, List.length_nil, putB_length]; omega) | decide) (by first | omega | with_reducible assumption | (simp only [List.length_append, List.length_cons, List.length_nil, putB_length]; omega) | decide) (by first | omega | with_reducible assumption | (simp only [List.length_append, List.length_cons, List.length_nil, putB_length]; omega) | decide)
                refine Calls.mono C375_ ?_
                rintro e374_ w372_ ⟨a366_, e367_, rfl, h368_, F373_, h370_, h371_⟩
                have T376_ := Fr.then T354_ F373_ N44_
                have h377_ := Rd.keep' h356_ F373_ (Dis.sym d41_)
                have h378_ := ThingsAt.keep h358_ F373_ (Dis.sym d42_)
                have h379_ := RrAt.keep h347_ F373_ d359_
                have h380_ := Rd.keep' h362_ F373_ (Sub.dis hi_x (Dis.sym d42_))
                have h381_ := Fr.keep F373_ h364_ d64_
                have hQ382_ := h371_; rw [hQ] at hQ382_
                refine ⟨(.agg (hv ((readM (Rs.mk 0 bl) (ts.take k)).hash))), (by rw [hQ]), ?_⟩
                refine at_run (.bool true) _ (by kernel_rfl) (run_eq_hash_self 31 (.tmp 58) (.tmp 60) (readM (Rs.mk 0 bl) (ts.take k)).hash (by kernel_rfl) (by kernel_rfl) (by kernel_rfl) (by kernel_rfl) (by kernel_rfl) (by kernel_rfl) (hash_length _) hRB.hash) ?_
                refine at_pures 6 (by kernel_rfl) (by kernel_rfl) ?_
                refine at_done (by kernel_rfl) ?_
                refine blk_n ?_
                refine then_n ?_
                refine c_seq [1, 1, 1, 1, 0, 1, 0, 0, 1, 1, 0, 0, 1, 1, 1, 0] [1, 1, 1, 1, 0, 1, 0, 0, 1, 1, 0, 0, 1, 1, 1, 1] (by kernel_rfl) ?_
                refine c_reg 22 wireReads_c_R22 (by kernel_rfl) ?_
                refine at_pures 4 (by kernel_rfl) (by kernel_rfl) ?_
                refine at_do (by kernel_rfl) (op_call 23 #[(.tmp 79)] #[(.pointer (some ⟨b19_, 0, none⟩))] (by kernel_rfl) (by kernel_rfl) (by kernel_rfl) ?_)
                have C387_ := rleft_c b19_ aorr345_ caprr346_ ((readM (Rs.mk 0 bl) (ts.take k)).take 32) w372_ h379_  
                refine Calls.mono C387_ ?_
                rintro e386_ w384_ ⟨rfl, F385_⟩
                have T388_ := Fr.tr T376_ F385_
                have h389_ := Rd.keep' h377_ F385_ Dis.n0
                have h390_ := ThingsAt.keep h378_ F385_ Dis.n0
                have h391_ := RrAt.keep h379_ F385_ Dis.n0
                have h392_ := Fr.keep F385_ h368_ Dis.n0
                have h393_ := Rd.keep' h380_ F385_ Dis.n0
                have h394_ := Fr.keep F385_ h381_ Dis.n0
                refine ⟨_, rfl, ?_⟩
                refine at_pures 6 (by kernel_rfl) (by kernel_rfl) ?_
                refine at_do (by kernel_rfl) (op_call 24 #[(.tmp 81)] #[(.pointer (some ⟨b36_, 0, none⟩))] (by kernel_rfl) (by kernel_rfl) (by kernel_rfl) ?_)
                have C399_ := rleft4_c b36_ bo bcap bl a366_ e367_ w384_ h389_ h392_  (by first | omega | with_reducible assumption | (simp only [List.length_append, List.length_cons, List.length_nil, putB_length]; omega) | decide) (by first | omega | with_reducible assumption | (simp only [List.length_append, List.length_cons, List.length_nil, putB_length]; omega) | decide) (by first | omega | with_reducible assumption | (simp only [List.length_append, List.length_cons, List.length_nil, putB_length]; omega) | decide)
                refine Calls.mono C399_ ?_
                rintro e398_ w396_ ⟨rfl, F397_⟩
                have T400_ := Fr.tr T388_ F397_
                have h401_ := Rd.keep' h389_ F397_ Dis.n0
                have h402_ := ThingsAt.keep h390_ F397_ Dis.n0
                have h403_ := RrAt.keep h391_ F397_ Dis.n0
                have h404_ := Fr.keep F397_ h392_ Dis.n0
                have h405_ := Rd.keep' h393_ F397_ Dis.n0
                have h406_ := Fr.keep F397_ h394_ Dis.n0
                refine ⟨(.int .i64 (((readM (Rs.mk 0 bl) (ts.take k)).take 32).l.length : Int)), (by rw [hQ382_]), ?_⟩
                refine at_as (.bool ((((readM (Rs.mk 0 bl) (ts.take k)).take 32).l.length : Int) != (((readM (Rs.mk 0 bl) (ts.take k)).take 32).l.length : Int))) (.bool false) (by kernel_rfl) (by kernel_rfl) (congrArg Value.bool (bne_self_eq_false _)) ?_
                refine at_pures 11 (by kernel_rfl) (by kernel_rfl) ?_
                refine at_do (by kernel_rfl) (op_call 25 #[(.tmp 86)] #[(.pointer (some ⟨b19_, 0, none⟩))] (by kernel_rfl) (by kernel_rfl) (by kernel_rfl) ?_)
                have C411_ := rend_c b19_ aorr345_ caprr346_ ((readM (Rs.mk 0 bl) (ts.take k)).take 32) w396_ h403_  
                refine Calls.mono C411_ ?_
                rintro e410_ w408_ ⟨rfl, F409_⟩
                have T412_ := Fr.tr T400_ F409_
                have h413_ := Rd.keep' h401_ F409_ Dis.n0
                have h414_ := ThingsAt.keep h402_ F409_ Dis.n0
                have h415_ := RrAt.keep h403_ F409_ Dis.n0
                have h416_ := Fr.keep F409_ h404_ Dis.n0
                have h417_ := Rd.keep' h405_ F409_ Dis.n0
                have h418_ := Fr.keep F409_ h406_ Dis.n0
                refine ⟨_, rfl, ?_⟩
                refine at_pures 13 (by kernel_rfl) (by kernel_rfl) ?_
                refine at_do (by kernel_rfl) (op_call 26 #[(.tmp 88)] #[(.pointer (some ⟨b36_, 0, none⟩))] (by kernel_rfl) (by kernel_rfl) (by kernel_rfl) ?_)
                have C423_ := rend4_c b36_ bo bcap bl a366_ e367_ w408_ h413_ h416_  (by first | omega | with_reducible assumption | (simp only [List.length_append, List.length_cons, List.length_nil, putB_length]; omega) | decide) (by first | omega | with_reducible assumption | (simp only [List.length_append, List.length_cons, List.length_nil, putB_length]; omega) | decide) (by first | omega | with_reducible assumption | (simp only [List.length_append, List.length_cons, List.length_nil, putB_length]; omega) | decide)
                refine Calls.mono C423_ ?_
                rintro e422_ w420_ ⟨rfl, F421_⟩
                have T424_ := Fr.tr T412_ F421_
                have h425_ := Rd.keep' h413_ F421_ Dis.n0
                have h426_ := ThingsAt.keep h414_ F421_ Dis.n0
                have h427_ := RrAt.keep h415_ F421_ Dis.n0
                have h428_ := Fr.keep F421_ h416_ Dis.n0
                have h429_ := Rd.keep' h417_ F421_ Dis.n0
                have h430_ := Fr.keep F421_ h418_ Dis.n0
                refine ⟨(.int .i64 (((readM (Rs.mk 0 bl) (ts.take k)).take 32).end : Int)), (by rw [hQ382_]), ?_⟩
                refine at_as (.bool ((((readM (Rs.mk 0 bl) (ts.take k)).take 32).end : Int) != (((readM (Rs.mk 0 bl) (ts.take k)).take 32).end : Int))) (.bool false) (by kernel_rfl) (by kernel_rfl) (congrArg Value.bool (bne_self_eq_false _)) ?_
                refine at_pures 16 (by kernel_rfl) (by kernel_rfl) ?_
                refine at_done (by kernel_rfl) ?_
                refine then_n ?_
                refine c_else (.tmp 91) [1, 1, 1, 1, 0, 1, 0, 0, 1, 1, 0, 0, 1, 1, 1, 1, 0] [1, 1, 1, 1, 0, 1, 0, 0, 1, 1, 0, 0, 1, 1, 1, 1, 1] (by kernel_rfl) (by kernel_rfl) ?_
                refine c_skip (by kernel_rfl) ?_
                refine blk_n ?_
                refine then_n ?_
                refine c_reg 24 wireReads_c_R24 (by kernel_rfl) ?_
                refine at_int (kd := .i64) (IntKind.i64.wrap ((k : Int) + (1 : Int))) ((k : Int) + (1 : Int)) (by kernel_rfl) (by kernel_rfl) (wrapN_i64 (by omega) (by omega)) ?_
                refine at_pures 2 (by kernel_rfl) (by kernel_rfl) ?_
                refine at_done (by kernel_rfl) ?_
                refine then_n ?_
                have hN : (readM (Rs.mk 0 bl) (ts.take k)).take 32 = readM (Rs.mk 0 bl) (ts.take (k + 1)) := by rw [readM_snoc hx_x]; unfold Thing.rm; symm; first | rw [if_pos (by omega)] | rw [if_neg (by omega), if_pos (by omega)] | rw [if_neg (by omega), if_neg (by omega), if_pos (by omega)] | rw [if_neg (by omega), if_neg (by omega), if_neg (by omega), if_pos (by omega)] | rw [if_neg (by omega), if_neg (by omega), if_neg (by omega), if_neg (by omega), if_pos (by omega), if_pos (by omega)] | rw [if_neg (by omega), if_neg (by omega), if_neg (by omega), if_neg (by omega), if_pos (by omega), if_neg (by omega)] | rw [if_neg (by omega), if_neg (by omega), if_neg (by omega), if_neg (by omega), if_neg (by omega)]
                rw [hN] at N365_ d355_ d357_ d359_ d361_ d363_ h427_ hQ382_
                exact ⟨⟨k + 1, aorr345_, caprr346_, a366_, e367_, is_mk (by kernel_rfl) (by kernel_rfl) (by kernel_rfl), ⟨(by omega), (by assumption), (by assumption), h425_, h426_, h427_, h428_, (Dis.sym d355_), (Dis.sym d357_), d359_, N365_, T424_⟩⟩, cnt_lt (k := (k : Int)) (k' := ((k : Int) + (1 : Int))) (by kernel_rfl) (by kernel_rfl) (by omega) (by omega)⟩
              · -- no
                replace c344_ : x.kind ≠ (3 : Int) := by simpa using c344_
                refine c_seq [1, 1, 1, 1, 0, 1, 0, 0, 1, 1, 0, 0, 1, 1, 0, 1, 0, 1, 1, 1, 1, 1, 1, 1, 1, 0] [1, 1, 1, 1, 0, 1, 0, 0, 1, 1, 0, 0, 1, 1, 0, 1, 0, 1, 1, 1, 1, 1, 1, 1, 1, 1] (by kernel_rfl) ?_
                refine c_reg 19 wireReads_c_R19 (by kernel_rfl) ?_
                refine at_pures 2 (by kernel_rfl) (by kernel_rfl) ?_
                refine at_done (by kernel_rfl) ?_
                refine then_n ?_
                refine c_if (.tmp 62) (x.kind == (4 : Int)) [1, 1, 1, 1, 0, 1, 0, 0, 1, 1, 0, 0, 1, 1, 0, 1, 0, 1, 1, 1, 1, 1, 1, 1, 1, 1, 0] [1, 1, 1, 1, 0, 1, 0, 0, 1, 1, 0, 0, 1, 1, 0, 1, 0, 1, 1, 1, 1, 1, 1, 1, 1, 1, 1] (by kernel_rfl) (by kernel_rfl) (fun c431_ => ?_) (fun c431_ => ?_)
                · -- yes
                  replace c431_ : x.kind = (4 : Int) := by simpa using c431_
                  refine c_seq [1, 1, 1, 1, 0, 1, 0, 0, 1, 1, 0, 0, 1, 1, 0, 1, 0, 1, 1, 1, 1, 1, 1, 1, 1, 1, 0, 0] [1, 1, 1, 1, 0, 1, 0, 0, 1, 1, 0, 0, 1, 1, 0, 1, 0, 1, 1, 1, 1, 1, 1, 1, 1, 1, 0, 1] (by kernel_rfl) ?_
                  refine c_reg 20 wireReads_c_R20 (by kernel_rfl) ?_
                  refine at_pures 1 (by kernel_rfl) (by kernel_rfl) ?_
                  refine at_load1 3 (.tmp 64) b56_ 35 _ _ _ (.int .i64 x.most) (by kernel_rfl) (by kernel_rfl) (by kernel_rfl) (by kernel_rfl) h74_ (by kernel_rfl) ?_
                  refine at_pures 3 (by kernel_rfl) (by kernel_rfl) ?_
                  refine at_done (by kernel_rfl) ?_
                  refine then_n ?_
                  refine c_if (.tmp 66) (decide (x.most ≥ (0 : Int))) [1, 1, 1, 1, 0, 1, 0, 0, 1, 1, 0, 0, 1, 1, 0, 1, 0, 1, 1, 1, 1, 1, 1, 1, 1, 1, 0, 1, 0] [1, 1, 1, 1, 0, 1, 0, 0, 1, 1, 0, 0, 1, 1, 0, 1, 0, 1, 1, 1, 1, 1, 1, 1, 1, 1, 0, 1, 1] (by kernel_rfl) (by kernel_rfl) (fun c432_ => ?_) (fun c432_ => ?_)
                  · -- yes
                    replace c432_ : x.most ≥ (0 : Int) := of_decide_eq_true c432_
                    refine c_plan 21 wireReads_c_R21 (fun w' => w'.heap[b56_]? = some (.cells (Thing.cells x) 33 (0, 0)) ∧ True) wireReads_c_sk21 wireReads_c_pl21 (by kernel_rfl) (by kernel_rfl) (by kernel_rfl) (by kernel_rfl) (by kernel_rfl) (fun w433_ F434_ => ?_)
                    have T435_ := Fr.tr T77_ F434_
                    have h437_ := Fr.keep F434_ h74_ Dis.n0
                    have S436_ : w433_.heap[b56_]? = some (.cells (Thing.cells x) 33 (0, 0)) ∧ True := ⟨h437_, trivial⟩
                    refine pl_pures 2 (by kernel_rfl) (by kernel_rfl) (off (by kernel_rfl)) ?_
                    have hTX := Nat.le_trans (text_len (readM (Rs.mk 0 bl) (ts.take k)) x.most.toNat) hRL; have hTY : ((Rf.r bl ⟨a0, e0⟩).text x.most.toNat).length ≤ bl.length := by rw [hQ]; exact hTX
                    refine pl_read 2 (.int .i64 (x.most.toNat : Int)) (by kernel_rfl) (by kernel_rfl) (fun w' hs => by rw [Int.toNat_of_nonneg (by omega)]; exact run_load1 3 (.tmp 68) b56_ 35 _ _ _ (.int .i64 x.most) (by kernel_rfl) (by kernel_rfl) (by kernel_rfl) hs.1 (by kernel_rfl)) S436_ ?_
                    refine pl_pures 5 (by kernel_rfl) (by kernel_rfl) (fun _ => S436_) ?_
                    refine pl_read 6 (.int .i64 (x.most.toNat : Int)) (by kernel_rfl) (by kernel_rfl) (fun w' hs => by rw [Int.toNat_of_nonneg (by omega)]; exact run_load1 3 (.tmp 72) b56_ 35 _ _ _ (.int .i64 x.most) (by kernel_rfl) (by kernel_rfl) (by kernel_rfl) hs.1 (by kernel_rfl)) S436_ ?_
                    have h438_ := Rd.keep' h78_ F434_ Dis.n0
                    have h439_ := ThingsAt.keep h79_ F434_ Dis.n0
                    have h440_ := RrAt.keep h80_ F434_ Dis.n0
                    have h441_ := Fr.keep F434_ h81_ Dis.n0
                    have h442_ := Rd.keep' h82_ F434_ Dis.n0
                    refine pl_do 3 (by kernel_rfl) (by kernel_rfl) (op_call 21 #[(.tmp 67), (.tmp 69)] #[(.pointer (some ⟨b19_, 0, none⟩)), (.int .i64 (x.most.toNat : Int))] (by kernel_rfl) (by kernel_rfl) (by kernel_rfl) ?_)
                    have C457_ := rtext_c b19_ ao1 cap1 (readM (Rs.mk 0 bl) (ts.take k)) x.most.toNat w433_ h440_  (by first | omega | with_reducible assumption | (simp only [List.length_append, List.length_cons, List.length_nil, putB_length]; omega) | decide)
                    refine Calls.mono C457_ ?_
                    rintro e456_ w454_ ⟨oc443_, aorr444_, caprr445_, aoout446_, rfl, h447_, h448_, F455_, h450_, h451_, h452_, h453_⟩
                    have d458_ : Dis (Ar aoout446_ (B ((readM (Rs.mk 0 bl) (ts.take k)).text x.most.toNat))) (Ar bo (B bl)) := Dis.step (Dis.sym d_0_2L49_) h451_ (Rd.in h438_)
                    have d459_ : Dis (Ar aoout446_ (B ((readM (Rs.mk 0 bl) (ts.take k)).text x.most.toNat))) (Old N) := Dis.step (Dis.sym d_1_2L49_) h451_ (ThingsAt.in h439_)
                    have d460_ : Dis (Ar aoout446_ (B ((readM (Rs.mk 0 bl) (ts.take k)).text x.most.toNat))) (One b36_) := Dis.step d_2_3L49_ h451_ (In.one h441_)
                    have d461_ : Dis (Ar aoout446_ (B ((readM (Rs.mk 0 bl) (ts.take k)).text x.most.toNat))) (Ar x.ao (B x.b)) := Dis.step (Dis.sym (Sub.dis hi_x d_1_2L49_)) h451_ (Rd.in h442_)
                    have d462_ : Dis (Ar aoout446_ (B ((readM (Rs.mk 0 bl) (ts.take k)).text x.most.toNat))) (One b56_) := Dis.step (Dis.sym d63_) h451_ (In.one h437_)
                    have T463_ := Fr.then T435_ F455_ (Sub.new Sub.inl n_2L49_)
                    have d464_ : Dis (rrS b19_ aorr444_ ((readM (Rs.mk 0 bl) (ts.take k)).textR x.most.toNat)) (Ar bo (B bl)) := Dis.step (Dis.sym d_0_2L49_) h450_ (Rd.in h438_)
                    have h465_ := Rd.keep' h438_ F455_ (Dis.sub Sub.inl d_0_2L49_)
                    have d466_ : Dis (rrS b19_ aorr444_ ((readM (Rs.mk 0 bl) (ts.take k)).textR x.most.toNat)) (Old N) := Dis.step (Dis.sym d_1_2L49_) h450_ (ThingsAt.in h439_)
                    have h467_ := ThingsAt.keep h439_ F455_ (Dis.sub Sub.inl d_1_2L49_)
                    have d468_ : Dis (rrS b19_ aorr444_ ((readM (Rs.mk 0 bl) (ts.take k)).textR x.most.toNat)) (One b36_) := Dis.step d_2_3L49_ h450_ (In.one h441_)
                    have h469_ := Fr.keep F455_ h441_ (Dis.sub Sub.inl (Dis.sym d_2_3L49_))
                    have d470_ : Dis (rrS b19_ aorr444_ ((readM (Rs.mk 0 bl) (ts.take k)).textR x.most.toNat)) (Ar x.ao (B x.b)) := Dis.step (Dis.sym (Sub.dis hi_x d_1_2L49_)) h450_ (Rd.in h442_)
                    have h471_ := Rd.keep' h442_ F455_ (Dis.sub Sub.inl (Sub.dis hi_x d_1_2L49_))
                    have d472_ : Dis (rrS b19_ aorr444_ ((readM (Rs.mk 0 bl) (ts.take k)).textR x.most.toNat)) (One b56_) := Dis.step (Dis.sym d63_) h450_ (In.one h437_)
                    have h473_ := Fr.keep F455_ h437_ (Dis.sub Sub.inl d63_)
                    have N474_ := New.trans n_2L49_ h450_ (Fr.size T435_)
                    have N476_ := New.trans n_2L49_ h451_ (Fr.size T435_)
                    refine ⟨_, rfl, ?_⟩
                    have S477_ : w454_.heap[b56_]? = some (.cells (Thing.cells x) 33 (0, 0)) ∧ True := ⟨h473_, trivial⟩
                    refine ⟨fun _ => S477_, ?_⟩
                    refine pl_do 7 (by kernel_rfl) (by kernel_rfl) (op_call 22 #[(.tmp 71), (.tmp 73)] #[(.pointer (some ⟨b36_, 0, none⟩)), (.int .i64 (x.most.toNat : Int))] (by kernel_rfl) (by kernel_rfl) (by kernel_rfl) ?_)
                    have C491_ := rtext4_c b36_ bo bcap bl a0 e0 x.most.toNat w454_ h465_ h469_ d41_ (by first | omega | with_reducible assumption | (simp only [List.length_append, List.length_cons, List.length_nil, putB_length]; omega) | decide) (by first | omega | with_reducible assumption | (simp only [List.length_append, List.length_cons, List.length_nil, putB_length]; omega) | decide) (by first | omega | with_reducible assumption | (simp only [List.length_append, List.length_cons, List.length_nil, putB_length]; omega) | decide) (by first | omega | with_reducible assumption | (simp only [List.length_append, List.length_cons, List.length_nil, putB_length]; omega) | decide)
                    refine Calls.mono C491_ ?_
                    rintro e490_ w488_ ⟨a478_, e479_, vout480_, rfl, h481_, h482_, F489_, h484_, h485_, h486_, h487_⟩
                    have d492_ : Dis (Own vout480_) (Ar bo (B bl)) := Dis.step d41_ h484_ (Rd.in h465_)
                    have d493_ : Dis (Own vout480_) (Old N) := Dis.step d42_ h484_ (ThingsAt.in h467_)
                    have d494_ : Dis (Own vout480_) (rrS b19_ aorr444_ ((readM (Rs.mk 0 bl) (ts.take k)).textR x.most.toNat)) := Dis.step (Dis.sym d468_) h484_ (RrAt.in h447_)
                    have d495_ : Dis (Own vout480_) (Ar x.ao (B x.b)) := Dis.step (Dis.sym (Sub.dis hi_x (Dis.sym d42_))) h484_ (Rd.in h471_)
                    have d496_ : Dis (Own vout480_) (One b56_) := Dis.step (Dis.sym d64_) h484_ (In.one h473_)
                    have d497_ : Dis (Own vout480_) (Ar aoout446_ (B ((readM (Rs.mk 0 bl) (ts.take k)).text x.most.toNat))) := Dis.step (Dis.sym d460_) h484_ (Rd.in h448_)
                    have T498_ := Fr.then T463_ F489_ N44_
                    have h499_ := Rd.keep' h465_ F489_ (Dis.sym d41_)
                    have h500_ := ThingsAt.keep h467_ F489_ (Dis.sym d42_)
                    have h501_ := RrAt.keep h447_ F489_ d468_
                    have h502_ := Rd.keep' h471_ F489_ (Sub.dis hi_x (Dis.sym d42_))
                    have h503_ := Fr.keep F489_ h473_ d64_
                    have h504_ := Rd.keep' h448_ F489_ d460_
                    have N506_ : New w N0 (Own vout480_) := New.trans N44_ h484_ (Fr.size T463_)
                    obtain ⟨ao508_, cap509_, rfl, hc510_, hm511_, hR512_, ho513_⟩ := Row.read h482_
                    have hQ514_ := h487_; rw [hQ] at hQ514_
                    refine ⟨_, rfl, ?_⟩
                    refine ⟨off (by kernel_rfl), ?_⟩
                    refine pl_do 8 (by kernel_rfl) (by kernel_rfl) (op_call 12 #[(.tmp 70), (.tmp 74)] #[(.slice aoout446_ (((readM (Rs.mk 0 bl) (ts.take k)).text x.most.toNat).length) oc443_), (.slice ao508_ (((Rf.r bl ⟨a0, e0⟩).text x.most.toNat).length) cap509_)] (by kernel_rfl) (by kernel_rfl) (by kernel_rfl) ?_)
                    have C519_ := same_c (.slice aoout446_ (((readM (Rs.mk 0 bl) (ts.take k)).text x.most.toNat).length) oc443_) ((readM (Rs.mk 0 bl) (ts.take k)).text x.most.toNat) (.slice ao508_ (((Rf.r bl ⟨a0, e0⟩).text x.most.toNat).length) cap509_) ((Rf.r bl ⟨a0, e0⟩).text x.most.toNat) w488_ ⟨_, _, rfl, h504_⟩ (Row.sl h482_)  (by first | omega | with_reducible assumption | (simp only [List.length_append, List.length_cons, List.length_nil, putB_length]; omega) | decide) (by first | omega | with_reducible assumption | (simp only [List.length_append, List.length_cons, List.length_nil, putB_length]; omega) | decide)
                    refine Calls.mono C519_ ?_
                    rintro e518_ w516_ ⟨rfl, F517_⟩
                    have T520_ := Fr.tr T498_ F517_
                    have h521_ := Rd.keep' h499_ F517_ Dis.n0
                    have h522_ := ThingsAt.keep h500_ F517_ Dis.n0
                    have h523_ := RrAt.keep h501_ F517_ Dis.n0
                    have h524_ := Fr.keep F517_ h481_ Dis.n0
                    have h525_ := Rd.keep' h502_ F517_ Dis.n0
                    have h526_ := Fr.keep F517_ h503_ Dis.n0
                    have h527_ := Rd.keep' h504_ F517_ Dis.n0
                    have h528_ := Row.keep h482_ F517_ Dis.n0
                    refine ⟨(.bool true), (by rw [decide_eq_true (by rw [hQ])]), ?_⟩
                    refine ⟨off (by kernel_rfl), ?_⟩
                    refine pl_pures 10 (by kernel_rfl) (by kernel_rfl) (off (by kernel_rfl)) ?_
                    refine pl_done (by kernel_rfl) ?_
                    refine blk_n ?_
                    refine then_n ?_
                    refine c_seq [1, 1, 1, 1, 0, 1, 0, 0, 1, 1, 0, 0, 1, 1, 1, 0] [1, 1, 1, 1, 0, 1, 0, 0, 1, 1, 0, 0, 1, 1, 1, 1] (by kernel_rfl) ?_
                    refine c_reg 22 wireReads_c_R22 (by kernel_rfl) ?_
                    refine at_pures 4 (by kernel_rfl) (by kernel_rfl) ?_
                    refine at_do (by kernel_rfl) (op_call 23 #[(.tmp 79)] #[(.pointer (some ⟨b19_, 0, none⟩))] (by kernel_rfl) (by kernel_rfl) (by kernel_rfl) ?_)
                    have C533_ := rleft_c b19_ aorr444_ caprr445_ ((readM (Rs.mk 0 bl) (ts.take k)).textR x.most.toNat) w516_ h523_  
                    refine Calls.mono C533_ ?_
                    rintro e532_ w530_ ⟨rfl, F531_⟩
                    have T534_ := Fr.tr T520_ F531_
                    have h535_ := Rd.keep' h521_ F531_ Dis.n0
                    have h536_ := ThingsAt.keep h522_ F531_ Dis.n0
                    have h537_ := RrAt.keep h523_ F531_ Dis.n0
                    have h538_ := Fr.keep F531_ h524_ Dis.n0
                    have h539_ := Rd.keep' h525_ F531_ Dis.n0
                    have h540_ := Fr.keep F531_ h526_ Dis.n0
                    have h541_ := Rd.keep' h527_ F531_ Dis.n0
                    have h542_ := Row.keep h528_ F531_ Dis.n0
                    refine ⟨_, rfl, ?_⟩
                    refine at_pures 6 (by kernel_rfl) (by kernel_rfl) ?_
                    refine at_do (by kernel_rfl) (op_call 24 #[(.tmp 81)] #[(.pointer (some ⟨b36_, 0, none⟩))] (by kernel_rfl) (by kernel_rfl) (by kernel_rfl) ?_)
                    have C547_ := rleft4_c b36_ bo bcap bl a478_ e479_ w530_ h535_ h538_  (by first | omega | with_reducible assumption | (simp only [List.length_append, List.length_cons, List.length_nil, putB_length]; omega) | decide) (by first | omega | with_reducible assumption | (simp only [List.length_append, List.length_cons, List.length_nil, putB_length]; omega) | decide) (by first | omega | with_reducible assumption | (simp only [List.length_append, List.length_cons, List.length_nil, putB_length]; omega) | decide)
                    refine Calls.mono C547_ ?_
                    rintro e546_ w544_ ⟨rfl, F545_⟩
                    have T548_ := Fr.tr T534_ F545_
                    have h549_ := Rd.keep' h535_ F545_ Dis.n0
                    have h550_ := ThingsAt.keep h536_ F545_ Dis.n0
                    have h551_ := RrAt.keep h537_ F545_ Dis.n0
                    have h552_ := Fr.keep F545_ h538_ Dis.n0
                    have h553_ := Rd.keep' h539_ F545_ Dis.n0
                    have h554_ := Fr.keep F545_ h540_ Dis.n0
                    have h555_ := Rd.keep' h541_ F545_ Dis.n0
                    have h556_ := Row.keep h542_ F545_ Dis.n0
                    refine ⟨(.int .i64 (((readM (Rs.mk 0 bl) (ts.take k)).textR x.most.toNat).l.length : Int)), (by rw [hQ514_]), ?_⟩
                    refine at_as (.bool ((((readM (Rs.mk 0 bl) (ts.take k)).textR x.most.toNat).l.length : Int) != (((readM (Rs.mk 0 bl) (ts.take k)).textR x.most.toNat).l.length : Int))) (.bool false) (by kernel_rfl) (by kernel_rfl) (congrArg Value.bool (bne_self_eq_false _)) ?_
                    refine at_pures 11 (by kernel_rfl) (by kernel_rfl) ?_
                    refine at_do (by kernel_rfl) (op_call 25 #[(.tmp 86)] #[(.pointer (some ⟨b19_, 0, none⟩))] (by kernel_rfl) (by kernel_rfl) (by kernel_rfl) ?_)
                    have C561_ := rend_c b19_ aorr444_ caprr445_ ((readM (Rs.mk 0 bl) (ts.take k)).textR x.most.toNat) w544_ h551_  
                    refine Calls.mono C561_ ?_
                    rintro e560_ w558_ ⟨rfl, F559_⟩
                    have T562_ := Fr.tr T548_ F559_
                    have h563_ := Rd.keep' h549_ F559_ Dis.n0
                    have h564_ := ThingsAt.keep h550_ F559_ Dis.n0
                    have h565_ := RrAt.keep h551_ F559_ Dis.n0
                    have h566_ := Fr.keep F559_ h552_ Dis.n0
                    have h567_ := Rd.keep' h553_ F559_ Dis.n0
                    have h568_ := Fr.keep F559_ h554_ Dis.n0
                    have h569_ := Rd.keep' h555_ F559_ Dis.n0
                    have h570_ := Row.keep h556_ F559_ Dis.n0
                    refine ⟨_, rfl, ?_⟩
                    refine at_pures 13 (by kernel_rfl) (by kernel_rfl) ?_
                    refine at_do (by kernel_rfl) (op_call 26 #[(.tmp 88)] #[(.pointer (some ⟨b36_, 0, none⟩))] (by kernel_rfl) (by kernel_rfl) (by kernel_rfl) ?_)
                    have C575_ := rend4_c b36_ bo bcap bl a478_ e479_ w558_ h563_ h566_  (by first | omega | with_reducible assumption | (simp only [List.length_append, List.length_cons, List.length_nil, putB_length]; omega) | decide) (by first | omega | with_reducible assumption | (simp only [List.length_append, List.length_cons, List.length_nil, putB_length]; omega) | decide) (by first | omega | with_reducible assumption | (simp only [List.length_append, List.length_cons, List.length_nil, putB_length]; omega) | decide)
                    refine Calls.mono C575_ ?_
                    rintro e574_ w572_ ⟨rfl, F573_⟩
                    have T576_ := Fr.tr T562_ F573_
                    have h577_ := Rd.keep' h563_ F573_ Dis.n0
                    have h578_ := ThingsAt.keep h564_ F573_ Dis.n0
                    have h579_ := RrAt.keep h565_ F573_ Dis.n0
                    have h580_ := Fr.keep F573_ h566_ Dis.n0
                    have h581_ := Rd.keep' h567_ F573_ Dis.n0
                    have h582_ := Fr.keep F573_ h568_ Dis.n0
                    have h583_ := Rd.keep' h569_ F573_ Dis.n0
                    have h584_ := Row.keep h570_ F573_ Dis.n0
                    refine ⟨(.int .i64 (((readM (Rs.mk 0 bl) (ts.take k)).textR x.most.toNat).end : Int)), (by rw [hQ514_]), ?_⟩
                    refine at_as (.bool ((((readM (Rs.mk 0 bl) (ts.take k)).textR x.most.toNat).end : Int) != (((readM (Rs.mk 0 bl) (ts.take k)).textR x.most.toNat).end : Int))) (.bool false) (by kernel_rfl) (by kernel_rfl) (congrArg Value.bool (bne_self_eq_false _)) ?_
                    refine at_pures 16 (by kernel_rfl) (by kernel_rfl) ?_
                    refine at_done (by kernel_rfl) ?_
                    refine then_n ?_
                    refine c_else (.tmp 91) [1, 1, 1, 1, 0, 1, 0, 0, 1, 1, 0, 0, 1, 1, 1, 1, 0] [1, 1, 1, 1, 0, 1, 0, 0, 1, 1, 0, 0, 1, 1, 1, 1, 1] (by kernel_rfl) (by kernel_rfl) ?_
                    refine c_skip (by kernel_rfl) ?_
                    refine blk_n ?_
                    refine then_n ?_
                    refine c_reg 24 wireReads_c_R24 (by kernel_rfl) ?_
                    refine at_int (kd := .i64) (IntKind.i64.wrap ((k : Int) + (1 : Int))) ((k : Int) + (1 : Int)) (by kernel_rfl) (by kernel_rfl) (wrapN_i64 (by omega) (by omega)) ?_
                    refine at_pures 2 (by kernel_rfl) (by kernel_rfl) ?_
                    refine at_done (by kernel_rfl) ?_
                    refine then_n ?_
                    have hN : (readM (Rs.mk 0 bl) (ts.take k)).textR x.most.toNat = readM (Rs.mk 0 bl) (ts.take (k + 1)) := by rw [readM_snoc hx_x]; unfold Thing.rm; symm; first | rw [if_pos (by omega)] | rw [if_neg (by omega), if_pos (by omega)] | rw [if_neg (by omega), if_neg (by omega), if_pos (by omega)] | rw [if_neg (by omega), if_neg (by omega), if_neg (by omega), if_pos (by omega)] | rw [if_neg (by omega), if_neg (by omega), if_neg (by omega), if_neg (by omega), if_pos (by omega), if_pos (by omega)] | rw [if_neg (by omega), if_neg (by omega), if_neg (by omega), if_neg (by omega), if_pos (by omega), if_neg (by omega)] | rw [if_neg (by omega), if_neg (by omega), if_neg (by omega), if_neg (by omega), if_neg (by omega)]
                    rw [hN] at N474_ d464_ d466_ d468_ d470_ d472_ d494_ h579_ hQ514_
                    exact ⟨⟨k + 1, aorr444_, caprr445_, a478_, e479_, is_mk (by kernel_rfl) (by kernel_rfl) (by kernel_rfl), ⟨(by omega), (by assumption), (by assumption), h577_, h578_, h579_, h580_, (Dis.sym d464_), (Dis.sym d466_), d468_, N474_, T576_⟩⟩, cnt_lt (k := (k : Int)) (k' := ((k : Int) + (1 : Int))) (by kernel_rfl) (by kernel_rfl) (by omega) (by omega)⟩
                  · -- no
                    replace c432_ : ¬ (x.most ≥ (0 : Int)) := of_decide_eq_false c432_
                    refine c_skip (by kernel_rfl) ?_
                    refine blk_n ?_
                    refine then_n ?_
                    refine c_seq [1, 1, 1, 1, 0, 1, 0, 0, 1, 1, 0, 0, 1, 1, 1, 0] [1, 1, 1, 1, 0, 1, 0, 0, 1, 1, 0, 0, 1, 1, 1, 1] (by kernel_rfl) ?_
                    refine c_reg 22 wireReads_c_R22 (by kernel_rfl) ?_
                    refine at_pures 4 (by kernel_rfl) (by kernel_rfl) ?_
                    refine at_do (by kernel_rfl) (op_call 23 #[(.tmp 79)] #[(.pointer (some ⟨b19_, 0, none⟩))] (by kernel_rfl) (by kernel_rfl) (by kernel_rfl) ?_)
                    have C589_ := rleft_c b19_ ao1 cap1 (readM (Rs.mk 0 bl) (ts.take k)) w73_ h80_  
                    refine Calls.mono C589_ ?_
                    rintro e588_ w586_ ⟨rfl, F587_⟩
                    have T590_ := Fr.tr T77_ F587_
                    have h591_ := Rd.keep' h78_ F587_ Dis.n0
                    have h592_ := ThingsAt.keep h79_ F587_ Dis.n0
                    have h593_ := RrAt.keep h80_ F587_ Dis.n0
                    have h594_ := Fr.keep F587_ h81_ Dis.n0
                    have h595_ := Rd.keep' h82_ F587_ Dis.n0
                    have h596_ := Fr.keep F587_ h74_ Dis.n0
                    refine ⟨_, rfl, ?_⟩
                    refine at_pures 6 (by kernel_rfl) (by kernel_rfl) ?_
                    refine at_do (by kernel_rfl) (op_call 24 #[(.tmp 81)] #[(.pointer (some ⟨b36_, 0, none⟩))] (by kernel_rfl) (by kernel_rfl) (by kernel_rfl) ?_)
                    have C601_ := rleft4_c b36_ bo bcap bl a0 e0 w586_ h591_ h594_  (by first | omega | with_reducible assumption | (simp only [List.length_append, List.length_cons, List.length_nil, putB_length]; omega) | decide) (by first | omega | with_reducible assumption | (simp only [List.length_append, List.length_cons, List.length_nil, putB_length]; omega) | decide) (by first | omega | with_reducible assumption | (simp only [List.length_append, List.length_cons, List.length_nil, putB_length]; omega) | decide)
                    refine Calls.mono C601_ ?_
                    rintro e600_ w598_ ⟨rfl, F599_⟩
                    have T602_ := Fr.tr T590_ F599_
                    have h603_ := Rd.keep' h591_ F599_ Dis.n0
                    have h604_ := ThingsAt.keep h592_ F599_ Dis.n0
                    have h605_ := RrAt.keep h593_ F599_ Dis.n0
                    have h606_ := Fr.keep F599_ h594_ Dis.n0
                    have h607_ := Rd.keep' h595_ F599_ Dis.n0
                    have h608_ := Fr.keep F599_ h596_ Dis.n0
                    refine ⟨(.int .i64 ((readM (Rs.mk 0 bl) (ts.take k)).l.length : Int)), (by rw [hQ]), ?_⟩
                    refine at_as (.bool (((readM (Rs.mk 0 bl) (ts.take k)).l.length : Int) != ((readM (Rs.mk 0 bl) (ts.take k)).l.length : Int))) (.bool false) (by kernel_rfl) (by kernel_rfl) (congrArg Value.bool (bne_self_eq_false _)) ?_
                    refine at_pures 11 (by kernel_rfl) (by kernel_rfl) ?_
                    refine at_do (by kernel_rfl) (op_call 25 #[(.tmp 86)] #[(.pointer (some ⟨b19_, 0, none⟩))] (by kernel_rfl) (by kernel_rfl) (by kernel_rfl) ?_)
                    have C613_ := rend_c b19_ ao1 cap1 (readM (Rs.mk 0 bl) (ts.take k)) w598_ h605_  
                    refine Calls.mono C613_ ?_
                    rintro e612_ w610_ ⟨rfl, F611_⟩
                    have T614_ := Fr.tr T602_ F611_
                    have h615_ := Rd.keep' h603_ F611_ Dis.n0
                    have h616_ := ThingsAt.keep h604_ F611_ Dis.n0
                    have h617_ := RrAt.keep h605_ F611_ Dis.n0
                    have h618_ := Fr.keep F611_ h606_ Dis.n0
                    have h619_ := Rd.keep' h607_ F611_ Dis.n0
                    have h620_ := Fr.keep F611_ h608_ Dis.n0
                    refine ⟨_, rfl, ?_⟩
                    refine at_pures 13 (by kernel_rfl) (by kernel_rfl) ?_
                    refine at_do (by kernel_rfl) (op_call 26 #[(.tmp 88)] #[(.pointer (some ⟨b36_, 0, none⟩))] (by kernel_rfl) (by kernel_rfl) (by kernel_rfl) ?_)
                    have C625_ := rend4_c b36_ bo bcap bl a0 e0 w610_ h615_ h618_  (by first | omega | with_reducible assumption | (simp only [List.length_append, List.length_cons, List.length_nil, putB_length]; omega) | decide) (by first | omega | with_reducible assumption | (simp only [List.length_append, List.length_cons, List.length_nil, putB_length]; omega) | decide) (by first | omega | with_reducible assumption | (simp only [List.length_append, List.length_cons, List.length_nil, putB_length]; omega) | decide)
                    refine Calls.mono C625_ ?_
                    rintro e624_ w622_ ⟨rfl, F623_⟩
                    have T626_ := Fr.tr T614_ F623_
                    have h627_ := Rd.keep' h615_ F623_ Dis.n0
                    have h628_ := ThingsAt.keep h616_ F623_ Dis.n0
                    have h629_ := RrAt.keep h617_ F623_ Dis.n0
                    have h630_ := Fr.keep F623_ h618_ Dis.n0
                    have h631_ := Rd.keep' h619_ F623_ Dis.n0
                    have h632_ := Fr.keep F623_ h620_ Dis.n0
                    refine ⟨(.int .i64 ((readM (Rs.mk 0 bl) (ts.take k)).end : Int)), (by rw [hQ]), ?_⟩
                    refine at_as (.bool (((readM (Rs.mk 0 bl) (ts.take k)).end : Int) != ((readM (Rs.mk 0 bl) (ts.take k)).end : Int))) (.bool false) (by kernel_rfl) (by kernel_rfl) (congrArg Value.bool (bne_self_eq_false _)) ?_
                    refine at_pures 16 (by kernel_rfl) (by kernel_rfl) ?_
                    refine at_done (by kernel_rfl) ?_
                    refine then_n ?_
                    refine c_else (.tmp 91) [1, 1, 1, 1, 0, 1, 0, 0, 1, 1, 0, 0, 1, 1, 1, 1, 0] [1, 1, 1, 1, 0, 1, 0, 0, 1, 1, 0, 0, 1, 1, 1, 1, 1] (by kernel_rfl) (by kernel_rfl) ?_
                    refine c_skip (by kernel_rfl) ?_
                    refine blk_n ?_
                    refine then_n ?_
                    refine c_reg 24 wireReads_c_R24 (by kernel_rfl) ?_
                    refine at_int (kd := .i64) (IntKind.i64.wrap ((k : Int) + (1 : Int))) ((k : Int) + (1 : Int)) (by kernel_rfl) (by kernel_rfl) (wrapN_i64 (by omega) (by omega)) ?_
                    refine at_pures 2 (by kernel_rfl) (by kernel_rfl) ?_
                    refine at_done (by kernel_rfl) ?_
                    refine then_n ?_
                    have hN : (readM (Rs.mk 0 bl) (ts.take k)) = readM (Rs.mk 0 bl) (ts.take (k + 1)) := by rw [readM_snoc hx_x]; unfold Thing.rm; symm; first | rw [if_pos (by omega)] | rw [if_neg (by omega), if_pos (by omega)] | rw [if_neg (by omega), if_neg (by omega), if_pos (by omega)] | rw [if_neg (by omega), if_neg (by omega), if_neg (by omega), if_pos (by omega)] | rw [if_neg (by omega), if_neg (by omega), if_neg (by omega), if_neg (by omega), if_pos (by omega), if_pos (by omega)] | rw [if_neg (by omega), if_neg (by omega), if_neg (by omega), if_neg (by omega), if_pos (by omega), if_neg (by omega)] | rw [if_neg (by omega), if_neg (by omega), if_neg (by omega), if_neg (by omega), if_neg (by omega)]
                    rw [hN] at d63_ d_0_2L49_ d_1_2L49_ d_2_3L49_ h629_ hQ n_2L49_
                    exact ⟨⟨k + 1, ao1, cap1, a0, e0, is_mk (by kernel_rfl) (by kernel_rfl) (by kernel_rfl), ⟨(by omega), (by assumption), (by assumption), h627_, h628_, h629_, h630_, d_0_2L49_, d_1_2L49_, d_2_3L49_, n_2L49_, T626_⟩⟩, cnt_lt (k := (k : Int)) (k' := ((k : Int) + (1 : Int))) (by kernel_rfl) (by kernel_rfl) (by omega) (by omega)⟩
                · -- no
                  replace c431_ : x.kind ≠ (4 : Int) := by simpa using c431_
                  refine c_skip (by kernel_rfl) ?_
                  refine blk_n ?_
                  refine then_n ?_
                  refine c_seq [1, 1, 1, 1, 0, 1, 0, 0, 1, 1, 0, 0, 1, 1, 1, 0] [1, 1, 1, 1, 0, 1, 0, 0, 1, 1, 0, 0, 1, 1, 1, 1] (by kernel_rfl) ?_
                  refine c_reg 22 wireReads_c_R22 (by kernel_rfl) ?_
                  refine at_pures 4 (by kernel_rfl) (by kernel_rfl) ?_
                  refine at_do (by kernel_rfl) (op_call 23 #[(.tmp 79)] #[(.pointer (some ⟨b19_, 0, none⟩))] (by kernel_rfl) (by kernel_rfl) (by kernel_rfl) ?_)
                  have C637_ := rleft_c b19_ ao1 cap1 (readM (Rs.mk 0 bl) (ts.take k)) w73_ h80_  
                  refine Calls.mono C637_ ?_
                  rintro e636_ w634_ ⟨rfl, F635_⟩
                  have T638_ := Fr.tr T77_ F635_
                  have h639_ := Rd.keep' h78_ F635_ Dis.n0
                  have h640_ := ThingsAt.keep h79_ F635_ Dis.n0
                  have h641_ := RrAt.keep h80_ F635_ Dis.n0
                  have h642_ := Fr.keep F635_ h81_ Dis.n0
                  have h643_ := Rd.keep' h82_ F635_ Dis.n0
                  have h644_ := Fr.keep F635_ h74_ Dis.n0
                  refine ⟨_, rfl, ?_⟩
                  refine at_pures 6 (by kernel_rfl) (by kernel_rfl) ?_
                  refine at_do (by kernel_rfl) (op_call 24 #[(.tmp 81)] #[(.pointer (some ⟨b36_, 0, none⟩))] (by kernel_rfl) (by kernel_rfl) (by kernel_rfl) ?_)
                  have C649_ := rleft4_c b36_ bo bcap bl a0 e0 w634_ h639_ h642_  (by first | omega | with_reducible assumption | (simp only [List.length_append, List.length_cons, List.length_nil, putB_length]; omega) | decide) (by first | omega | with_reducible assumption | (simp only [List.length_append, List.length_cons, List.length_nil, putB_length]; omega) | decide) (by first | omega | with_reducible assumption | (simp only [List.length_append, List.length_cons, List.length_nil, putB_length]; omega) | decide)
                  refine Calls.mono C649_ ?_
                  rintro e648_ w646_ ⟨rfl, F647_⟩
                  have T650_ := Fr.tr T638_ F647_
                  have h651_ := Rd.keep' h639_ F647_ Dis.n0
                  have h652_ := ThingsAt.keep h640_ F647_ Dis.n0
                  have h653_ := RrAt.keep h641_ F647_ Dis.n0
                  have h654_ := Fr.keep F647_ h642_ Dis.n0
                  have h655_ := Rd.keep' h643_ F647_ Dis.n0
                  have h656_ := Fr.keep F647_ h644_ Dis.n0
                  refine ⟨(.int .i64 ((readM (Rs.mk 0 bl) (ts.take k)).l.length : Int)), (by rw [hQ]), ?_⟩
                  refine at_as (.bool (((readM (Rs.mk 0 bl) (ts.take k)).l.length : Int) != ((readM (Rs.mk 0 bl) (ts.take k)).l.length : Int))) (.bool false) (by kernel_rfl) (by kernel_rfl) (congrArg Value.bool (bne_self_eq_false _)) ?_
                  refine at_pures 11 (by kernel_rfl) (by kernel_rfl) ?_
                  refine at_do (by kernel_rfl) (op_call 25 #[(.tmp 86)] #[(.pointer (some ⟨b19_, 0, none⟩))] (by kernel_rfl) (by kernel_rfl) (by kernel_rfl) ?_)
                  have C661_ := rend_c b19_ ao1 cap1 (readM (Rs.mk 0 bl) (ts.take k)) w646_ h653_  
                  refine Calls.mono C661_ ?_
                  rintro e660_ w658_ ⟨rfl, F659_⟩
                  have T662_ := Fr.tr T650_ F659_
                  have h663_ := Rd.keep' h651_ F659_ Dis.n0
                  have h664_ := ThingsAt.keep h652_ F659_ Dis.n0
                  have h665_ := RrAt.keep h653_ F659_ Dis.n0
                  have h666_ := Fr.keep F659_ h654_ Dis.n0
                  have h667_ := Rd.keep' h655_ F659_ Dis.n0
                  have h668_ := Fr.keep F659_ h656_ Dis.n0
                  refine ⟨_, rfl, ?_⟩
                  refine at_pures 13 (by kernel_rfl) (by kernel_rfl) ?_
                  refine at_do (by kernel_rfl) (op_call 26 #[(.tmp 88)] #[(.pointer (some ⟨b36_, 0, none⟩))] (by kernel_rfl) (by kernel_rfl) (by kernel_rfl) ?_)
                  have C673_ := rend4_c b36_ bo bcap bl a0 e0 w658_ h663_ h666_  (by first | omega | with_reducible assumption | (simp only [List.length_append, List.length_cons, List.length_nil, putB_length]; omega) | decide) (by first | omega | with_reducible assumption | (simp only [List.length_append, List.length_cons, List.length_nil, putB_length]; omega) | decide) (by first | omega | with_reducible assumption | (simp only [List.length_append, List.length_cons, List.length_nil, putB_length]; omega) | decide)
                  refine Calls.mono C673_ ?_
                  rintro e672_ w670_ ⟨rfl, F671_⟩
                  have T674_ := Fr.tr T662_ F671_
                  have h675_ := Rd.keep' h663_ F671_ Dis.n0
                  have h676_ := ThingsAt.keep h664_ F671_ Dis.n0
                  have h677_ := RrAt.keep h665_ F671_ Dis.n0
                  have h678_ := Fr.keep F671_ h666_ Dis.n0
                  have h679_ := Rd.keep' h667_ F671_ Dis.n0
                  have h680_ := Fr.keep F671_ h668_ Dis.n0
                  refine ⟨(.int .i64 ((readM (Rs.mk 0 bl) (ts.take k)).end : Int)), (by rw [hQ]), ?_⟩
                  refine at_as (.bool (((readM (Rs.mk 0 bl) (ts.take k)).end : Int) != ((readM (Rs.mk 0 bl) (ts.take k)).end : Int))) (.bool false) (by kernel_rfl) (by kernel_rfl) (congrArg Value.bool (bne_self_eq_false _)) ?_
                  refine at_pures 16 (by kernel_rfl) (by kernel_rfl) ?_
                  refine at_done (by kernel_rfl) ?_
                  refine then_n ?_
                  refine c_else (.tmp 91) [1, 1, 1, 1, 0, 1, 0, 0, 1, 1, 0, 0, 1, 1, 1, 1, 0] [1, 1, 1, 1, 0, 1, 0, 0, 1, 1, 0, 0, 1, 1, 1, 1, 1] (by kernel_rfl) (by kernel_rfl) ?_
                  refine c_skip (by kernel_rfl) ?_
                  refine blk_n ?_
                  refine then_n ?_
                  refine c_reg 24 wireReads_c_R24 (by kernel_rfl) ?_
                  refine at_int (kd := .i64) (IntKind.i64.wrap ((k : Int) + (1 : Int))) ((k : Int) + (1 : Int)) (by kernel_rfl) (by kernel_rfl) (wrapN_i64 (by omega) (by omega)) ?_
                  refine at_pures 2 (by kernel_rfl) (by kernel_rfl) ?_
                  refine at_done (by kernel_rfl) ?_
                  refine then_n ?_
                  have hN : (readM (Rs.mk 0 bl) (ts.take k)) = readM (Rs.mk 0 bl) (ts.take (k + 1)) := by rw [readM_snoc hx_x]; unfold Thing.rm; symm; first | rw [if_pos (by omega)] | rw [if_neg (by omega), if_pos (by omega)] | rw [if_neg (by omega), if_neg (by omega), if_pos (by omega)] | rw [if_neg (by omega), if_neg (by omega), if_neg (by omega), if_pos (by omega)] | rw [if_neg (by omega), if_neg (by omega), if_neg (by omega), if_neg (by omega), if_pos (by omega), if_pos (by omega)] | rw [if_neg (by omega), if_neg (by omega), if_neg (by omega), if_neg (by omega), if_pos (by omega), if_neg (by omega)] | rw [if_neg (by omega), if_neg (by omega), if_neg (by omega), if_neg (by omega), if_neg (by omega)]
                  rw [hN] at d63_ d_0_2L49_ d_1_2L49_ d_2_3L49_ h677_ hQ n_2L49_
                  exact ⟨⟨k + 1, ao1, cap1, a0, e0, is_mk (by kernel_rfl) (by kernel_rfl) (by kernel_rfl), ⟨(by omega), (by assumption), (by assumption), h675_, h676_, h677_, h678_, d_0_2L49_, d_1_2L49_, d_2_3L49_, n_2L49_, T674_⟩⟩, cnt_lt (k := (k : Int)) (k' := ((k : Int) + (1 : Int))) (by kernel_rfl) (by kernel_rfl) (by omega) (by omega)⟩
      · -- no
        replace c53_ : ¬ ((k : Int) < (ts.length : Int)) := of_decide_eq_false c53_
        refine c_exit 0 (by kernel_rfl) ?_
        refine then_e ?_
        refine then_e ?_
        refine blk_hit ?_
        refine then_n ?_
        refine c_seq [1, 1, 1, 1, 1, 0] [1, 1, 1, 1, 1, 1] (by kernel_rfl) ?_
        refine c_reg 25 wireReads_c_R25 (by kernel_rfl) ?_
        refine at_pures 1 (by kernel_rfl) (by kernel_rfl) ?_
        refine at_done (by kernel_rfl) ?_
        refine then_n ?_
        refine c_ret (by kernel_rfl) ?_
        refine fin_ret (.bool true) (by kernel_rfl) (by kernel_rfl) ?_
        exact ⟨rfl, hFrL49_⟩
end Go.Proofs.Ytboggbknebepdaa
