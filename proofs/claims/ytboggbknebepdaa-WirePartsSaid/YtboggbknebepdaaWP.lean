/- The walk of WireParts. -/
import Derived.Test.YtboggbknebepdaaWL
import Derived.Test.YtboggbknebepdaaBack
namespace Go.Proofs.Ytboggbknebepdaa
open Go Go.RowKit Go.Alm
noncomputable def wireParts_c_R0 : Array Oper := rAt Try.prog 6 [0]
noncomputable def wireParts_c_R1 : Array Oper := rAt Try.prog 6 [1, 0, 0]
noncomputable def wireParts_c_R3 : Array Oper := rAt Try.prog 6 [1, 1, 0, 0]
noncomputable def wireParts_c_R4 : Array Oper := rAt Try.prog 6 [1, 1, 0, 1, 0, 0]
noncomputable def wireParts_c_R5 : Array Oper := rAt Try.prog 6 [1, 1, 1, 0]
noncomputable def wireParts_c_R6 : Array Oper := rAt Try.prog 6 [1, 1, 1, 1, 0]
noncomputable def wireParts_c_R7 : Array Oper := rAt Try.prog 6 [1, 1, 1, 1, 1, 0, 0]
noncomputable def wireParts_c_R8 : Array Oper := rAt Try.prog 6 [1, 1, 1, 1, 1, 0, 1, 0, 0, 0]
noncomputable def wireParts_c_R9 : Array Oper := rAt Try.prog 6 [1, 1, 1, 1, 1, 0, 1, 0, 0, 1, 1, 0, 0, 0]
noncomputable def wireParts_c_R10 : Array Oper := rAt Try.prog 6 [1, 1, 1, 1, 1, 0, 1, 0, 0, 1, 1, 0, 0, 1, 0]
def wireParts_c_sk10 : Nat → Bool := fun i => decide (i ∈ [2, 3, 4])
def wireParts_c_pl10 : List (Nat × PK) := [(0, .q false), (1, .q true), (3, .q false), (4, .q true), (2, .e), (5, .e), (6, .q false), (7, .q false)]
noncomputable def wireParts_c_R11 : Array Oper := rAt Try.prog 6 [1, 1, 1, 1, 1, 0, 1, 0, 0, 1, 1, 0, 0, 1, 1]
noncomputable def wireParts_c_R12 : Array Oper := rAt Try.prog 6 [1, 1, 1, 1, 1, 0, 1, 0, 0, 1, 1, 1]
noncomputable def wireParts_c_R13 : Array Oper := rAt Try.prog 6 [1, 1, 1, 1, 1, 1, 0]
noncomputable def wireParts_c_R14 : Array Oper := rAt Try.prog 6 [1, 1, 1, 1, 1, 1, 1, 0, 0]
noncomputable def wireParts_c_R15 : Array Oper := rAt Try.prog 6 [1, 1, 1, 1, 1, 1, 1, 0, 1, 0, 0, 0]
noncomputable def wireParts_c_R16 : Array Oper := rAt Try.prog 6 [1, 1, 1, 1, 1, 1, 1, 0, 1, 0, 0, 1, 1, 0, 0, 0]
noncomputable def wireParts_c_R17 : Array Oper := rAt Try.prog 6 [1, 1, 1, 1, 1, 1, 1, 0, 1, 0, 0, 1, 1, 0, 0, 1, 0]
def wireParts_c_sk17 : Nat → Bool := fun i => decide (i ∈ [2, 3, 4])
def wireParts_c_pl17 : List (Nat × PK) := [(0, .q false), (1, .q true), (3, .q false), (4, .q true), (2, .e), (5, .e), (6, .q false), (7, .q false)]
noncomputable def wireParts_c_R18 : Array Oper := rAt Try.prog 6 [1, 1, 1, 1, 1, 1, 1, 0, 1, 0, 0, 1, 1, 0, 0, 1, 1]
noncomputable def wireParts_c_R19 : Array Oper := rAt Try.prog 6 [1, 1, 1, 1, 1, 1, 1, 0, 1, 0, 0, 1, 1, 1]
noncomputable def wireParts_c_R20 : Array Oper := rAt Try.prog 6 [1, 1, 1, 1, 1, 1, 1, 1, 0]
noncomputable def wireParts_c_R21 : Array Oper := rAt Try.prog 6 [1, 1, 1, 1, 1, 1, 1, 1, 1, 0, 0]
noncomputable def wireParts_c_R23 : Array Oper := rAt Try.prog 6 [1, 1, 1, 1, 1, 1, 1, 1, 1, 1, 0]
noncomputable def wireParts_c_R24 : Array Oper := rAt Try.prog 6 [1, 1, 1, 1, 1, 1, 1, 1, 1, 1, 1, 0, 0]
noncomputable def wireParts_c_R25 : Array Oper := rAt Try.prog 6 [1, 1, 1, 1, 1, 1, 1, 1, 1, 1, 1, 0, 1, 0, 0, 0]
noncomputable def wireParts_c_R26 : Array Oper := rAt Try.prog 6 [1, 1, 1, 1, 1, 1, 1, 1, 1, 1, 1, 0, 1, 0, 0, 1, 1, 0, 0, 0]
noncomputable def wireParts_c_R27 : Array Oper := rAt Try.prog 6 [1, 1, 1, 1, 1, 1, 1, 1, 1, 1, 1, 0, 1, 0, 0, 1, 1, 0, 0, 1, 0]
noncomputable def wireParts_c_R28 : Array Oper := rAt Try.prog 6 [1, 1, 1, 1, 1, 1, 1, 1, 1, 1, 1, 0, 1, 0, 0, 1, 1, 0, 0, 1, 1, 0]
noncomputable def wireParts_c_R29 : Array Oper := rAt Try.prog 6 [1, 1, 1, 1, 1, 1, 1, 1, 1, 1, 1, 0, 1, 0, 0, 1, 1, 1]
noncomputable def wireParts_c_R30 : Array Oper := rAt Try.prog 6 [1, 1, 1, 1, 1, 1, 1, 1, 1, 1, 1, 1, 0]
set_option maxRecDepth 100000 in
set_option maxHeartbeats 1000000 in
theorem wireParts_c (N : Nat) (ao : Option Addr) (cap : Nat) (ts : List Thing) (bo : Option Addr) (bcap : Nat) (us : List Thing) (w : World) (h_ts : ThingsAt N w ao ts) (h_us : ThingsAt N w bo us) (hn : ts.length ≤ 9223372036854775807) (hnu : us.length ≤ 9223372036854775807) :
    Calls Try.prog 6 #[(.slice ao ts.length cap), (.slice bo us.length bcap)] w fun e w' => e = .returned (.bool true) ∧ Fr w w' N0 := by
  refine c_enter (mk 126 [(0, (.slice ao ts.length cap)), (1, (.slice bo us.length bcap))] (fun _ => undef)) Try.func6 (by kernel_rfl) (by kernel_rfl) ?_
  refine c_seq [0] [1] (by kernel_rfl) ?_
  refine c_reg 0 wireParts_c_R0 (by kernel_rfl) ?_
  refine at_pures 1 (by kernel_rfl) (by kernel_rfl) ?_
  refine at_done (by kernel_rfl) ?_
  refine then_n ?_
  refine c_seq [1, 0] [1, 1] (by kernel_rfl) ?_
  refine c_seq [1, 0, 0] [1, 0, 1] (by kernel_rfl) ?_
  refine c_reg 1 wireParts_c_R1 (by kernel_rfl) ?_
  refine at_do (by kernel_rfl) (op_call 7 #[] #[] (by kernel_rfl) (by kernel_rfl) (by kernel_rfl) ?_)
  have C5_ := awake_c  w   
  refine Calls.mono C5_ ?_
  rintro e4_ w2_ ⟨rfl, F3_⟩
  have T6_ := Fr.tr (Fr.refl w N0) F3_
  have h7_ := ThingsAt.keep h_ts F3_ Dis.n0
  have h8_ := ThingsAt.keep h_us F3_ Dis.n0
  refine ⟨_, rfl, ?_⟩
  refine at_pures 2 (by kernel_rfl) (by kernel_rfl) ?_
  refine at_done (by kernel_rfl) ?_
  refine then_n ?_
  refine c_else (.tmp 23) [1, 0, 1, 0] [1, 0, 1, 1] (by kernel_rfl) (by kernel_rfl) ?_
  refine c_skip (by kernel_rfl) ?_
  refine then_n ?_
  refine c_seq [1, 1, 0] [1, 1, 1] (by kernel_rfl) ?_
  refine c_seq [1, 1, 0, 0] [1, 1, 0, 1] (by kernel_rfl) ?_
  refine c_reg 3 wireParts_c_R3 (by kernel_rfl) ?_
  refine at_pures 1 (by kernel_rfl) (by kernel_rfl) ?_
  refine at_do (by kernel_rfl) (op_call 8 #[(.tmp 24)] #[(.slice ao ts.length cap)] (by kernel_rfl) (by kernel_rfl) (by kernel_rfl) ?_)
  have C13_ := large_c N ao cap ts w2_ h7_  (by first | omega | with_reducible assumption | (simp only [List.length_append, List.length_cons, List.length_nil, putB_length]; omega) | decide)
  refine Calls.mono C13_ ?_
  rintro e12_ w10_ ⟨rfl, F11_⟩
  have T14_ := Fr.tr T6_ F11_
  have h15_ := ThingsAt.keep h7_ F11_ Dis.n0
  have h16_ := ThingsAt.keep h8_ F11_ Dis.n0
  refine ⟨_, rfl, ?_⟩
  refine at_split (largeT ts) (by kernel_rfl) (by kernel_rfl) (fun c17_ => ?_) (fun c17_ => ?_)
  · -- yes
    refine at_pures 6 (by kernel_rfl) (by kernel_rfl) ?_
    refine at_done (by kernel_rfl) ?_
    refine then_n ?_
    refine c_then (.tmp 29) [1, 1, 0, 1, 0] [1, 1, 0, 1, 1] (by kernel_rfl) (by kernel_rfl) ?_
    refine c_seq [1, 1, 0, 1, 0, 0] [1, 1, 0, 1, 0, 1] (by kernel_rfl) ?_
    refine c_reg 4 wireParts_c_R4 (by kernel_rfl) ?_
    refine at_pures 1 (by kernel_rfl) (by kernel_rfl) ?_
    refine at_done (by kernel_rfl) ?_
    refine then_n ?_
    refine c_ret (by kernel_rfl) ?_
    refine then_r ?_
    refine fin_ret (.bool true) (by kernel_rfl) (by kernel_rfl) ?_
    exact ⟨rfl, T14_⟩
  · -- no
    refine at_pures 4 (by kernel_rfl) (by kernel_rfl) ?_
    refine at_do (by kernel_rfl) (op_call 8 #[(.tmp 27)] #[(.slice bo us.length bcap)] (by kernel_rfl) (by kernel_rfl) (by kernel_rfl) ?_)
    have C22_ := large_c N bo bcap us w10_ h16_  (by first | omega | with_reducible assumption | (simp only [List.length_append, List.length_cons, List.length_nil, putB_length]; omega) | decide)
    refine Calls.mono C22_ ?_
    rintro e21_ w19_ ⟨rfl, F20_⟩
    have T23_ := Fr.tr T14_ F20_
    have h24_ := ThingsAt.keep h15_ F20_ Dis.n0
    have h25_ := ThingsAt.keep h16_ F20_ Dis.n0
    refine ⟨_, rfl, ?_⟩
    refine at_pures 6 (by kernel_rfl) (by kernel_rfl) ?_
    refine at_done (by kernel_rfl) ?_
    refine then_n ?_
    refine c_if (.tmp 29) (largeT us) [1, 1, 0, 1, 0] [1, 1, 0, 1, 1] (by kernel_rfl) (by kernel_rfl) (fun c26_ => ?_) (fun c26_ => ?_)
    · -- yes
      refine c_seq [1, 1, 0, 1, 0, 0] [1, 1, 0, 1, 0, 1] (by kernel_rfl) ?_
      refine c_reg 4 wireParts_c_R4 (by kernel_rfl) ?_
      refine at_pures 1 (by kernel_rfl) (by kernel_rfl) ?_
      refine at_done (by kernel_rfl) ?_
      refine then_n ?_
      refine c_ret (by kernel_rfl) ?_
      refine then_r ?_
      refine fin_ret (.bool true) (by kernel_rfl) (by kernel_rfl) ?_
      exact ⟨rfl, T23_⟩
    · -- no
      refine c_skip (by kernel_rfl) ?_
      refine then_n ?_
      refine c_seq [1, 1, 1, 0] [1, 1, 1, 1] (by kernel_rfl) ?_
      refine c_reg 5 wireParts_c_R5 (by kernel_rfl) ?_
      refine at_pures 1 (by kernel_rfl) (by kernel_rfl) ?_
      refine at_do (by kernel_rfl) (op_new (.cells #[(.slice none 0 0)] 28) (fun N => (.pointer (some ⟨N, 0, none⟩))) (fun _ => by kernel_rfl) (fun w28_ b27_ h29_ q30_ F31_ => ?_))
      have d32_ : Dis (One b27_) (Old N) := Dis.fresh (New.one q30_) (ThingsAt.in h24_)
      have d33_ : Dis (One b27_) (Old N) := Dis.fresh (New.one q30_) (ThingsAt.in h25_)
      have N34_ : New w N0 (One b27_) := New.made q30_ (Fr.size T23_)
      have T35_ := Fr.tr T23_ F31_
      refine at_pures 3 (by kernel_rfl) (by kernel_rfl) ?_
      refine at_do (by kernel_rfl) (op_new (.cells #[(.slice none 0 0)] 28) (fun N => (.pointer (some ⟨N, 0, none⟩))) (fun _ => by kernel_rfl) (fun w37_ b36_ h38_ q39_ F40_ => ?_))
      have h41_ := ThingsAt.keep h24_ F31_ Dis.n0
      have d42_ : Dis (One b36_) (Old N) := Dis.fresh (New.one q39_) (ThingsAt.in h41_)
      have h43_ := ThingsAt.keep h25_ F31_ Dis.n0
      have d44_ : Dis (One b36_) (Old N) := Dis.fresh (New.one q39_) (ThingsAt.in h43_)
      have d45_ : Dis (One b36_) (One b27_) := Dis.fresh (New.one q39_) (In.one h29_)
      have N46_ : New w N0 (One b36_) := New.made q39_ (Fr.size T35_)
      have T47_ := Fr.tr T35_ F40_
      refine at_pures 5 (by kernel_rfl) (by kernel_rfl) ?_
      refine at_do (by kernel_rfl) (op_new (.cells #[(.slice none 0 0)] 28) (fun N => (.pointer (some ⟨N, 0, none⟩))) (fun _ => by kernel_rfl) (fun w49_ b48_ h50_ q51_ F52_ => ?_))
      have h53_ := ThingsAt.keep h41_ F40_ Dis.n0
      have d54_ : Dis (One b48_) (Old N) := Dis.fresh (New.one q51_) (ThingsAt.in h53_)
      have h55_ := ThingsAt.keep h43_ F40_ Dis.n0
      have d56_ : Dis (One b48_) (Old N) := Dis.fresh (New.one q51_) (ThingsAt.in h55_)
      have h57_ := Fr.keep F40_ h29_ Dis.n0
      have d58_ : Dis (One b48_) (One b27_) := Dis.fresh (New.one q51_) (In.one h57_)
      have d59_ : Dis (One b48_) (One b36_) := Dis.fresh (New.one q51_) (In.one h38_)
      have N60_ : New w N0 (One b48_) := New.made q51_ (Fr.size T47_)
      have T61_ := Fr.tr T47_ F52_
      refine at_pures 9 (by kernel_rfl) (by kernel_rfl) ?_
      refine at_done (by kernel_rfl) ?_
      refine then_n ?_
      refine c_seq [1, 1, 1, 1, 0] [1, 1, 1, 1, 1] (by kernel_rfl) ?_
      refine c_reg 6 wireParts_c_R6 (by kernel_rfl) ?_
      refine at_pures 1 (by kernel_rfl) (by kernel_rfl) ?_
      refine at_done (by kernel_rfl) ?_
      refine then_n ?_
      refine c_seq [1, 1, 1, 1, 1, 0] [1, 1, 1, 1, 1, 1] (by kernel_rfl) ?_
      refine c_seq [1, 1, 1, 1, 1, 0, 0] [1, 1, 1, 1, 1, 0, 1] (by kernel_rfl) ?_
      refine c_reg 7 wireParts_c_R7 (by kernel_rfl) ?_
      refine at_pures 3 (by kernel_rfl) (by kernel_rfl) ?_
      refine at_done (by kernel_rfl) ?_
      refine then_n ?_
      refine c_block 0 [1, 1, 1, 1, 1, 0, 1, 0] (by kernel_rfl) ?_
      have h62_ := ThingsAt.keep h53_ F52_ Dis.n0
      have h63_ := ThingsAt.keep h55_ F52_ Dis.n0
      have h64_ := Fr.keep F52_ h57_ Dis.n0
      have h65_ := Fr.keep F52_ h38_ Dis.n0
      have h66_ : WrAt 5 28 w49_ b27_ (.slice none 0 0) [] := WrAt.nil h64_
      have h67_ : WrAt 5 28 w49_ b36_ (.slice none 0 0) [] := WrAt.nil h65_
      have h68_ : WrAt 5 28 w49_ b48_ (.slice none 0 0) [] := WrAt.nil h50_
      have hlg := largeT_spec (ts := ts) (by assumption); have hlgu := largeT_spec (ts := us) (by assumption)
      refine c_loop (fun a w' => ∃ (k : Nat), ∃ (v1 : Value), ∃ (l1 : List Nat), ∃ (v3 : Value), ∃ (l3 : List Nat), (∃ u, a = mk 126 [(0, (.slice ao ts.length cap)), (1, (.slice bo us.length bcap)), (4, (.bool false)), (5, (.pointer (some ⟨b27_, 0, none⟩))), (6, (.pointer (some ⟨b36_, 0, none⟩))), (7, (.pointer (some ⟨b48_, 0, none⟩))), (8, (.bool true)), (22, (.bool true)), (23, (.bool false)), (24, (.slice ao ts.length cap)), (25, (.bool (largeT ts))), (26, (.bool false)), (27, (.slice bo us.length bcap)), (28, (.bool (largeT us))), (29, (.bool (largeT us))), (30, (.agg #[(.slice none 0 0)])), (31, (.pointer (some ⟨b27_, 0, none⟩))), (32, (.agg #[(.slice none 0 0)])), (33, (.pointer (some ⟨b36_, 0, none⟩))), (34, (.agg #[(.slice none 0 0)])), (35, (.pointer (some ⟨b48_, 0, none⟩))), (36, (.slice ao ts.length cap)), (37, (.int .i64 (ts.length : Int))), (38, (.int .i64 (k : Int)))] u) ∧ (k ≤ ts.length) ∧ (l1 = writeT (ts.take k)) ∧ (l3 = writeT (ts.take k)) ∧ (ThingsAt N w' ao ts) ∧ (ThingsAt N w' bo us) ∧ (WrAt 5 28 w' b27_ v1 l1) ∧ (WrAt 5 28 w' b36_ (.slice none 0 0) []) ∧ (WrAt 5 28 w' b48_ v3 l3) ∧ (Dis (Old N) (wrS b27_ v1)) ∧ (Dis (Old N) (wrS b48_ v3)) ∧ (Dis (Old N) (wrS b27_ v1)) ∧ (Dis (Old N) (wrS b48_ v3)) ∧ (Dis (wrS b27_ v1) (wrS b36_ (.slice none 0 0))) ∧ (Dis (wrS b27_ v1) (wrS b48_ v3)) ∧ (Dis (wrS b36_ (.slice none 0 0)) (wrS b48_ v3)) ∧ (New w N0 (wrS b27_ v1)) ∧ (New w N0 (wrS b48_ v3)) ∧ (Fr w w' N0)) (fun a _ => cnt (ts.length) 38 a) [1, 1, 1, 1, 1, 0, 1, 0, 0] (by kernel_rfl) ⟨0, _, _, _, _, is_mk (by kernel_rfl) (by kernel_rfl) (by kernel_rfl), ⟨Nat.zero_le _, rfl, rfl, h62_, h63_, h66_, h67_, h68_, (Dis.sym (Dis.wrNil d32_)), (Dis.sym (Dis.wrNil d54_)), (Dis.sym (Dis.wrNil d33_)), (Dis.sym (Dis.wrNil d56_)), (Dis.sym (Dis.wrNil (Dis.sym (Dis.wrNil (Dis.sym d45_))))), (Dis.sym (Dis.wrNil (Dis.sym (Dis.wrNil (Dis.sym d58_))))), (Dis.sym (Dis.wrNil (Dis.sym (Dis.wrNil (Dis.sym d59_))))), (New.wrNil N34_), (New.wrNil N60_), T61_⟩⟩ ?_
      rintro a70_ w71_ ⟨k, v1, l1, v3, l3, ⟨u72_, rfl⟩, ⟨hk, hl1, hl3, q_0L69_, q_1L69_, q_2L69_, q_3L69_, q_4L69_, d_0_2L69_, d_0_4L69_, d_1_2L69_, d_1_4L69_, d_2_3L69_, d_2_4L69_, d_3_4L69_, n_2L69_, n_4L69_, hFrL69_⟩⟩
      have hWL1 : l1.length ≤ 25600 := by have h := writeT_len (ts := ts.take k) (fun y hy => h_ts.ok y (List.mem_of_mem_take hy)); have : (ts.take k).length ≤ ts.length := (by rw [List.length_take]; omega); rw [hl1]; omega
      have hWL3 : l3.length ≤ 25600 := by have h := writeT_len (ts := ts.take k) (fun y hy => h_ts.ok y (List.mem_of_mem_take hy)); have : (ts.take k).length ≤ ts.length := (by rw [List.length_take]; omega); rw [hl3]; omega
      refine c_seq [1, 1, 1, 1, 1, 0, 1, 0, 0, 0] [1, 1, 1, 1, 1, 0, 1, 0, 0, 1] (by kernel_rfl) ?_
      refine c_reg 8 wireParts_c_R8 (by kernel_rfl) ?_
      refine at_pures 1 (by kernel_rfl) (by kernel_rfl) ?_
      refine at_done (by kernel_rfl) ?_
      refine then_n ?_
      refine c_seq [1, 1, 1, 1, 1, 0, 1, 0, 0, 1, 0] [1, 1, 1, 1, 1, 0, 1, 0, 0, 1, 1] (by kernel_rfl) ?_
      refine c_if (.tmp 39) (decide ((k : Int) < (ts.length : Int))) [1, 1, 1, 1, 1, 0, 1, 0, 0, 1, 0, 0] [1, 1, 1, 1, 1, 0, 1, 0, 0, 1, 0, 1] (by kernel_rfl) (by kernel_rfl) (fun c73_ => ?_) (fun c73_ => ?_)
      · -- yes
        replace c73_ : (k : Int) < (ts.length : Int) := of_decide_eq_true c73_
        refine c_skip (by kernel_rfl) ?_
        refine then_n ?_
        refine c_seq [1, 1, 1, 1, 1, 0, 1, 0, 0, 1, 1, 0] [1, 1, 1, 1, 1, 0, 1, 0, 0, 1, 1, 1] (by kernel_rfl) ?_
        refine c_block 1 [1, 1, 1, 1, 1, 0, 1, 0, 0, 1, 1, 0, 0] (by kernel_rfl) ?_
        refine c_seq [1, 1, 1, 1, 1, 0, 1, 0, 0, 1, 1, 0, 0, 0] [1, 1, 1, 1, 1, 0, 1, 0, 0, 1, 1, 0, 0, 1] (by kernel_rfl) ?_
        refine c_reg 9 wireParts_c_R9 (by kernel_rfl) ?_
        obtain ⟨x, hx_x⟩ : ∃ x, ts[k]? = some x := ⟨_, List.getElem?_eq_getElem (by omega)⟩
        have hm_x := List.mem_of_getElem? hx_x; have ho_x := ThingsAt.ok q_0L69_ x hm_x; have hi_x := ThingsAt.in2 q_0L69_ x hm_x; have hn_x := ho_x.n
        have hXW_x := Thing.w_len ho_x; have hxh_x := ho_x.h; have hxb_x := hlg.2 x hm_x
        obtain ⟨ad74_, ha75_⟩ := (ThingsAt.rd q_0L69_).has (k * 36) (by rw [cellsT_length]; omega)
        refine at_run (.pointer (some (ad74_.add (k * 36)))) _ (by kernel_rfl) (run_idx_o 22 (.tmp 36) (.tmp 38) 36 ao ad74_ ts.length cap .i64 k (by kernel_rfl) (by kernel_rfl) (by kernel_rfl) (by kernel_rfl) (by kernel_rfl) ha75_ (by omega)) ?_
        refine at_run (.agg (Thing.cells x)) _ (by kernel_rfl) (run_loadEn 33 (.tmp 40) ao ad74_ (k * 36) 36 (cellsT ts) (Thing.cells x) (by kernel_rfl) (by kernel_rfl) (by kernel_rfl) (by kernel_rfl) ha75_ (ThingsAt.rd q_0L69_) (by kernel_rfl) (cellsT_get ts k x hx_x)) ?_
        refine at_do (by kernel_rfl) (op_new (.cells #[(.int .i64 0), (.int .u64 0), (.int .u8 0), (.int .u8 0), (.int .u8 0), (.int .u8 0), (.int .u8 0), (.int .u8 0), (.int .u8 0), (.int .u8 0), (.int .u8 0), (.int .u8 0), (.int .u8 0), (.int .u8 0), (.int .u8 0), (.int .u8 0), (.int .u8 0), (.int .u8 0), (.int .u8 0), (.int .u8 0), (.int .u8 0), (.int .u8 0), (.int .u8 0), (.int .u8 0), (.int .u8 0), (.int .u8 0), (.int .u8 0), (.int .u8 0), (.int .u8 0), (.int .u8 0), (.int .u8 0), (.int .u8 0), (.int .u8 0), (.int .u8 0), (.slice none 0 0), (.int .i64 0)] 33) (fun N => (.pointer (some ⟨N, 0, none⟩))) (fun _ => by kernel_rfl) (fun w77_ b76_ h78_ q79_ F80_ => ?_))
        have d81_ : Dis (One b76_) (Old N) := Dis.fresh (New.one q79_) (ThingsAt.in q_0L69_)
        have d82_ : Dis (One b76_) (Old N) := Dis.fresh (New.one q79_) (ThingsAt.in q_1L69_)
        have d83_ : Dis (One b76_) (wrS b27_ v1) := Dis.fresh (New.one q79_) (WrAt.in q_2L69_)
        have d84_ : Dis (One b76_) (wrS b36_ (.slice none 0 0)) := Dis.fresh (New.one q79_) (WrAt.in q_3L69_)
        have d85_ : Dis (One b76_) (wrS b48_ v3) := Dis.fresh (New.one q79_) (WrAt.in q_4L69_)
        have d86_ : Dis (One b76_) (Ar x.ao (B x.b)) := Dis.fresh (New.one q79_) (Rd.in (ThingsAt.rdb q_0L69_ x hm_x))
        have N87_ : New w N0 (One b76_) := New.made q79_ (Fr.size hFrL69_)
        have T88_ := Fr.tr hFrL69_ F80_
        have h89_ := ThingsAt.keep q_0L69_ F80_ Dis.n0
        have h90_ := ThingsAt.keep q_1L69_ F80_ Dis.n0
        have h91_ := WrAt.keep q_2L69_ F80_ Dis.n0
        have h92_ := WrAt.keep q_3L69_ F80_ Dis.n0
        have h93_ := WrAt.keep q_4L69_ F80_ Dis.n0
        have h94_ := Rd.keep' (ThingsAt.rdb q_0L69_ x hm_x) F80_ Dis.n0
        refine at_do (by kernel_rfl) (op_store 33 (.tmp 10) (.tmp 41) b76_ 0 (.agg (Thing.cells x)) _ _ (Thing.cells x) (by kernel_rfl) (by kernel_rfl) (by kernel_rfl) h78_ (by kernel_rfl) (by kernel_rfl) (by kernel_rfl) (by kernel_rfl) (fun w95_ h96_ z97_ F98_ => ?_))
        have T99_ := Fr.then T88_ F98_ N87_
        have h100_ := ThingsAt.keep h89_ F98_ (Dis.sym d81_)
        have h101_ := ThingsAt.keep h90_ F98_ (Dis.sym d82_)
        have h102_ := WrAt.keep h91_ F98_ (Dis.sym d83_)
        have h103_ := WrAt.keep h92_ F98_ (Dis.sym d84_)
        have h104_ := WrAt.keep h93_ F98_ (Dis.sym d85_)
        have h105_ := Rd.keep' h94_ F98_ (Dis.sym d86_)
        refine at_done (by kernel_rfl) ?_
        refine then_n ?_
        refine c_seq [1, 1, 1, 1, 1, 0, 1, 0, 0, 1, 1, 0, 0, 1, 0] [1, 1, 1, 1, 1, 0, 1, 0, 0, 1, 1, 0, 0, 1, 1] (by kernel_rfl) ?_
        refine c_plan 10 wireParts_c_R10 (fun w' => w'.heap[b76_]? = some (.cells (Thing.cells x) 33 (0, 0)) ∧ True) wireParts_c_sk10 wireParts_c_pl10 (by kernel_rfl) (by kernel_rfl) (by kernel_rfl) (by kernel_rfl) (by kernel_rfl) (fun w106_ F107_ => ?_)
        have T108_ := Fr.tr T99_ F107_
        have h110_ := Fr.keep F107_ h96_ Dis.n0
        have S109_ : w106_.heap[b76_]? = some (.cells (Thing.cells x) 33 (0, 0)) ∧ True := ⟨h110_, trivial⟩
        refine pl_pures 1 (by kernel_rfl) (by kernel_rfl) (off (by kernel_rfl)) ?_
        refine pl_read 1 (.agg (Thing.cells x)) (by kernel_rfl) (by kernel_rfl) (fun w' hs => run_loadN 33 (.tmp 10) b76_ 0 36 _ _ _ (Thing.cells x) (by kernel_rfl) (by kernel_rfl) (by kernel_rfl) (by kernel_rfl) hs.1 (by kernel_rfl) (by kernel_rfl)) S109_ ?_
        refine pl_pures 3 (by kernel_rfl) (by kernel_rfl) (fun _ => S109_) ?_
        refine pl_read 4 (.agg (Thing.cells x)) (by kernel_rfl) (by kernel_rfl) (fun w' hs => run_loadN 33 (.tmp 10) b76_ 0 36 _ _ _ (Thing.cells x) (by kernel_rfl) (by kernel_rfl) (by kernel_rfl) (by kernel_rfl) hs.1 (by kernel_rfl) (by kernel_rfl)) S109_ ?_
        have h111_ := ThingsAt.keep h100_ F107_ Dis.n0
        have h112_ := ThingsAt.keep h101_ F107_ Dis.n0
        have h113_ := WrAt.keep h102_ F107_ Dis.n0
        have h114_ := WrAt.keep h103_ F107_ Dis.n0
        have h115_ := WrAt.keep h104_ F107_ Dis.n0
        have h116_ := Rd.keep' h105_ F107_ Dis.n0
        refine pl_do 2 (by kernel_rfl) (by kernel_rfl) (op_call 9 #[(.tmp 42), (.tmp 43)] #[(.pointer (some ⟨b27_, 0, none⟩)), (.agg (Thing.cells x))] (by kernel_rfl) (by kernel_rfl) (by kernel_rfl) ?_)
        have C124_ := write_c b27_ v1 l1 x w106_ h116_ h113_ (Dis.sym (Sub.dis hi_x d_0_2L69_)) (by first | omega | with_reducible assumption | (simp only [List.length_append, List.length_cons, List.length_nil, putB_length]; omega) | decide) (by first | omega | with_reducible assumption | (simp only [List.length_append, List.length_cons, List.length_nil, putB_length]; omega) | decide) (by first | omega | with_reducible assumption | (simp only [List.length_append, List.length_cons, List.length_nil, putB_length]; omega) | decide)
        refine Calls.mono C124_ ?_
        rintro e123_ w121_ ⟨vwr117_, rfl, h118_, F122_, h120_⟩
        have T125_ := Fr.then T108_ F122_ n_2L69_
        have d126_ : Dis (wrS b27_ vwr117_) (Old N) := Dis.step (Dis.sym d_0_2L69_) h120_ (ThingsAt.in h111_)
        have h127_ := ThingsAt.keep h111_ F122_ d_0_2L69_
        have d128_ : Dis (wrS b27_ vwr117_) (Old N) := Dis.step (Dis.sym d_1_2L69_) h120_ (ThingsAt.in h112_)
        have h129_ := ThingsAt.keep h112_ F122_ d_1_2L69_
        have d130_ : Dis (wrS b27_ vwr117_) (wrS b36_ (.slice none 0 0)) := Dis.step d_2_3L69_ h120_ (WrAt.in h114_)
        have h131_ := WrAt.keep h114_ F122_ (Dis.sym d_2_3L69_)
        have d132_ : Dis (wrS b27_ vwr117_) (wrS b48_ v3) := Dis.step d_2_4L69_ h120_ (WrAt.in h115_)
        have h133_ := WrAt.keep h115_ F122_ (Dis.sym d_2_4L69_)
        have d134_ : Dis (wrS b27_ vwr117_) (Ar x.ao (B x.b)) := Dis.step (Dis.sym (Sub.dis hi_x d_0_2L69_)) h120_ (Rd.in h116_)
        have h135_ := Rd.keep' h116_ F122_ (Sub.dis hi_x d_0_2L69_)
        have d136_ : Dis (wrS b27_ vwr117_) (One b76_) := Dis.step (Dis.sym d83_) h120_ (In.one h110_)
        have h137_ := Fr.keep F122_ h110_ d83_
        have N138_ : New w N0 (wrS b27_ vwr117_) := New.trans n_2L69_ h120_ (Fr.size T108_)
        refine ⟨_, rfl, ?_⟩
        have S139_ : w121_.heap[b76_]? = some (.cells (Thing.cells x) 33 (0, 0)) ∧ True := ⟨h137_, trivial⟩
        refine ⟨fun _ => S139_, ?_⟩
        refine pl_do 5 (by kernel_rfl) (by kernel_rfl) (op_call 9 #[(.tmp 45), (.tmp 46)] #[(.pointer (some ⟨b48_, 0, none⟩)), (.agg (Thing.cells x))] (by kernel_rfl) (by kernel_rfl) (by kernel_rfl) ?_)
        have C147_ := write_c b48_ v3 l3 x w121_ h135_ h133_ (Dis.sym (Sub.dis hi_x d_0_4L69_)) (by first | omega | with_reducible assumption | (simp only [List.length_append, List.length_cons, List.length_nil, putB_length]; omega) | decide) (by first | omega | with_reducible assumption | (simp only [List.length_append, List.length_cons, List.length_nil, putB_length]; omega) | decide) (by first | omega | with_reducible assumption | (simp only [List.length_append, List.length_cons, List.length_nil, putB_length]; omega) | decide)
        refine Calls.mono C147_ ?_
        rintro e146_ w144_ ⟨vwr140_, rfl, h141_, F145_, h143_⟩
        have T148_ := Fr.then T125_ F145_ n_4L69_
        have d149_ : Dis (wrS b48_ vwr140_) (Old N) := Dis.step (Dis.sym d_0_4L69_) h143_ (ThingsAt.in h127_)
        have h150_ := ThingsAt.keep h127_ F145_ d_0_4L69_
        have d151_ : Dis (wrS b48_ vwr140_) (Old N) := Dis.step (Dis.sym d_1_4L69_) h143_ (ThingsAt.in h129_)
        have h152_ := ThingsAt.keep h129_ F145_ d_1_4L69_
        have d153_ : Dis (wrS b48_ vwr140_) (wrS b27_ vwr117_) := Dis.step (Dis.sym d132_) h143_ (WrAt.in h118_)
        have h154_ := WrAt.keep h118_ F145_ d132_
        have d155_ : Dis (wrS b48_ vwr140_) (wrS b36_ (.slice none 0 0)) := Dis.step (Dis.sym d_3_4L69_) h143_ (WrAt.in h131_)
        have h156_ := WrAt.keep h131_ F145_ d_3_4L69_
        have d157_ : Dis (wrS b48_ vwr140_) (Ar x.ao (B x.b)) := Dis.step (Dis.sym (Sub.dis hi_x d_0_4L69_)) h143_ (Rd.in h135_)
        have h158_ := Rd.keep' h135_ F145_ (Sub.dis hi_x d_0_4L69_)
        have d159_ : Dis (wrS b48_ vwr140_) (One b76_) := Dis.step (Dis.sym d85_) h143_ (In.one h137_)
        have h160_ := Fr.keep F145_ h137_ d85_
        have N161_ : New w N0 (wrS b48_ vwr140_) := New.trans n_4L69_ h143_ (Fr.size T125_)
        refine ⟨_, rfl, ?_⟩
        refine ⟨off (by kernel_rfl), ?_⟩
        refine pl_pures 8 (by kernel_rfl) (by kernel_rfl) (off (by kernel_rfl)) ?_
        refine pl_done (by kernel_rfl) ?_
        refine then_n ?_
        refine c_reg 11 wireParts_c_R11 (by kernel_rfl) ?_
        refine at_pures 4 (by kernel_rfl) (by kernel_rfl) ?_
        refine at_as (.bool (x.okW == x.okW)) (.bool true) (by kernel_rfl) (by kernel_rfl) (congrArg Value.bool (beq_self_eq_true _)) ?_
        refine at_pures 7 (by kernel_rfl) (by kernel_rfl) ?_
        refine at_done (by kernel_rfl) ?_
        refine blk_n ?_
        refine then_n ?_
        refine c_reg 12 wireParts_c_R12 (by kernel_rfl) ?_
        refine at_int (kd := .i64) (IntKind.i64.wrap ((k : Int) + (1 : Int))) ((k : Int) + (1 : Int)) (by kernel_rfl) (by kernel_rfl) (wrapN_i64 (by omega) (by omega)) ?_
        refine at_pures 2 (by kernel_rfl) (by kernel_rfl) ?_
        refine at_done (by kernel_rfl) ?_
        refine then_n ?_
        exact ⟨⟨k + 1, vwr117_, l1 ++ x.w, vwr140_, l3 ++ x.w, is_mk (by kernel_rfl) (by kernel_rfl) (by kernel_rfl), ⟨(by omega), (by rw [hl1, writeT_snoc hx_x]), (by rw [hl3, writeT_snoc hx_x]), h150_, h152_, h154_, h156_, h141_, (Dis.sym d126_), (Dis.sym d149_), (Dis.sym d128_), (Dis.sym d151_), d130_, (Dis.sym d153_), (Dis.sym d155_), N138_, N161_, T148_⟩⟩, cnt_lt (k := (k : Int)) (k' := ((k : Int) + (1 : Int))) (by kernel_rfl) (by kernel_rfl) (by omega) (by omega)⟩
      · -- no
        replace c73_ : ¬ ((k : Int) < (ts.length : Int)) := of_decide_eq_false c73_
        refine c_exit 0 (by kernel_rfl) ?_
        refine then_e ?_
        refine then_e ?_
        refine blk_hit ?_
        refine then_n ?_
        refine c_seq [1, 1, 1, 1, 1, 1, 0] [1, 1, 1, 1, 1, 1, 1] (by kernel_rfl) ?_
        refine c_reg 13 wireParts_c_R13 (by kernel_rfl) ?_
        refine at_pures 1 (by kernel_rfl) (by kernel_rfl) ?_
        refine at_do (by kernel_rfl) (op_call 13 #[(.tmp 55)] #[(.pointer (some ⟨b48_, 0, none⟩))] (by kernel_rfl) (by kernel_rfl) (by kernel_rfl) ?_)
        have C169_ := bytes_c b48_ v3 l3 w71_ q_4L69_  (by first | omega | with_reducible assumption | (simp only [List.length_append, List.length_cons, List.length_nil, putB_length]; omega) | decide)
        refine Calls.mono C169_ ?_
        rintro e168_ w166_ ⟨vout162_, rfl, h163_, F167_, h165_⟩
        have d170_ : Dis (Own vout162_) (Old N) := Dis.fresh h165_ (ThingsAt.in q_0L69_)
        have d171_ : Dis (Own vout162_) (Old N) := Dis.fresh h165_ (ThingsAt.in q_1L69_)
        have d172_ : Dis (Own vout162_) (wrS b27_ v1) := Dis.fresh h165_ (WrAt.in q_2L69_)
        have d173_ : Dis (Own vout162_) (wrS b36_ (.slice none 0 0)) := Dis.fresh h165_ (WrAt.in q_3L69_)
        have d174_ : Dis (Own vout162_) (wrS b48_ v3) := Dis.fresh h165_ (WrAt.in q_4L69_)
        have T175_ := Fr.tr hFrL69_ F167_
        have h176_ := ThingsAt.keep q_0L69_ F167_ Dis.n0
        have h177_ := ThingsAt.keep q_1L69_ F167_ Dis.n0
        have h178_ := WrAt.keep q_2L69_ F167_ Dis.n0
        have h179_ := WrAt.keep q_3L69_ F167_ Dis.n0
        have h180_ := WrAt.keep q_4L69_ F167_ Dis.n0
        have N182_ : New w N0 (Own vout162_) := New.later' h165_ (Fr.size hFrL69_)
        obtain ⟨ao183_, cap184_, rfl, hc185_, hm186_, hR187_, ho188_⟩ := Row.read h163_
        refine ⟨_, rfl, ?_⟩
        refine at_pures 3 (by kernel_rfl) (by kernel_rfl) ?_
        refine at_done (by kernel_rfl) ?_
        refine then_n ?_
        refine c_seq [1, 1, 1, 1, 1, 1, 1, 0] [1, 1, 1, 1, 1, 1, 1, 1] (by kernel_rfl) ?_
        refine c_seq [1, 1, 1, 1, 1, 1, 1, 0, 0] [1, 1, 1, 1, 1, 1, 1, 0, 1] (by kernel_rfl) ?_
        refine c_reg 14 wireParts_c_R14 (by kernel_rfl) ?_
        refine at_pures 3 (by kernel_rfl) (by kernel_rfl) ?_
        refine at_done (by kernel_rfl) ?_
        refine then_n ?_
        refine c_block 2 [1, 1, 1, 1, 1, 1, 1, 0, 1, 0] (by kernel_rfl) ?_
        have hlw1 : l1 = writeT ts := by rw [hl1, (List.take_of_length_le (l := ts) (i := k) (by omega))]
        have hlw3 : l3 = writeT ts := by rw [hl3, (List.take_of_length_le (l := ts) (i := k) (by omega))]
        refine c_loop (fun a w' => ∃ (k2 : Nat), ∃ (v2 : Value), ∃ (l2 : List Nat), ∃ (v4 : Value), ∃ (l4 : List Nat), (∃ u, a = mk 126 [(0, (.slice ao ts.length cap)), (1, (.slice bo us.length bcap)), (4, (.bool false)), (5, (.pointer (some ⟨b27_, 0, none⟩))), (6, (.pointer (some ⟨b36_, 0, none⟩))), (7, (.pointer (some ⟨b48_, 0, none⟩))), (8, (.bool true)), (13, (.slice ao183_ l3.length cap184_)), (22, (.bool true)), (23, (.bool false)), (24, (.slice ao ts.length cap)), (25, (.bool (largeT ts))), (26, (.bool false)), (27, (.slice bo us.length bcap)), (28, (.bool (largeT us))), (29, (.bool (largeT us))), (30, (.agg #[(.slice none 0 0)])), (31, (.pointer (some ⟨b27_, 0, none⟩))), (32, (.agg #[(.slice none 0 0)])), (33, (.pointer (some ⟨b36_, 0, none⟩))), (34, (.agg #[(.slice none 0 0)])), (35, (.pointer (some ⟨b48_, 0, none⟩))), (36, (.slice ao ts.length cap)), (37, (.int .i64 (ts.length : Int))), (38, (.int .i64 (k : Int))), (39, (.bool (decide ((k : Int) < (ts.length : Int))))), (55, (.pointer (some ⟨b48_, 0, none⟩))), (56, (.slice ao183_ l3.length cap184_)), (57, (.slice bo us.length bcap)), (58, (.int .i64 (us.length : Int))), (59, (.int .i64 (k2 : Int)))] u) ∧ (k2 ≤ us.length) ∧ (l2 = writeT (us.take k2)) ∧ (l4 = writeT ts ++ writeT (us.take k2)) ∧ (ThingsAt N w' ao ts) ∧ (ThingsAt N w' bo us) ∧ (WrAt 5 28 w' b27_ v1 l1) ∧ (WrAt 5 28 w' b36_ v2 l2) ∧ (WrAt 5 28 w' b48_ v4 l4) ∧ (Row w' 5 1 (.slice ao183_ l3.length cap184_) (l3.length) (B l3)) ∧ (Dis (Old N) (wrS b36_ v2)) ∧ (Dis (Old N) (wrS b48_ v4)) ∧ (Dis (Old N) (wrS b36_ v2)) ∧ (Dis (Old N) (wrS b48_ v4)) ∧ (Dis (wrS b27_ v1) (wrS b36_ v2)) ∧ (Dis (wrS b27_ v1) (wrS b48_ v4)) ∧ (Dis (wrS b36_ v2) (wrS b48_ v4)) ∧ (Dis (wrS b36_ v2) (Own (.slice ao183_ l3.length cap184_))) ∧ (Dis (wrS b48_ v4) (Own (.slice ao183_ l3.length cap184_))) ∧ (New w N0 (wrS b36_ v2)) ∧ (New w N0 (wrS b48_ v4)) ∧ (Fr w w' N0)) (fun a _ => cnt (us.length) 59 a) [1, 1, 1, 1, 1, 1, 1, 0, 1, 0, 0] (by kernel_rfl) ⟨0, _, _, _, _, is_mk (by kernel_rfl) (by kernel_rfl) (by kernel_rfl), ⟨Nat.zero_le _, rfl, (by rw [hlw3, List.take_zero]; exact (List.append_nil _).symm), h176_, h177_, h178_, h179_, h180_, h163_, (Dis.sym (Dis.wrNil d42_)), d_0_4L69_, (Dis.sym (Dis.wrNil d44_)), d_1_4L69_, d_2_3L69_, d_2_4L69_, d_3_4L69_, (Dis.sym d173_), (Dis.sym d174_), (New.wrNil N46_), n_4L69_, T175_⟩⟩ ?_
        rintro a190_ w191_ ⟨k2, v2, l2, v4, l4, ⟨u192_, rfl⟩, ⟨hk2, hl2, hl4, q_0L189_, q_1L189_, q_2L189_, q_3L189_, q_4L189_, q_5L189_, d_0_3L189_, d_0_4L189_, d_1_3L189_, d_1_4L189_, d_2_3L189_, d_2_4L189_, d_3_4L189_, d_3_5L189_, d_4_5L189_, n_3L189_, n_4L189_, hFrL189_⟩⟩
        have hWL2 : l2.length ≤ 25600 := by have h := writeT_len (ts := us.take k2) (fun y hy => h_us.ok y (List.mem_of_mem_take hy)); have : (us.take k2).length ≤ us.length := (by rw [List.length_take]; omega); rw [hl2]; omega
        have hWL4 : l4.length ≤ 51200 := by rw [hl4, List.length_append, ← hl2, ← hlw1]; omega
        refine c_seq [1, 1, 1, 1, 1, 1, 1, 0, 1, 0, 0, 0] [1, 1, 1, 1, 1, 1, 1, 0, 1, 0, 0, 1] (by kernel_rfl) ?_
        refine c_reg 15 wireParts_c_R15 (by kernel_rfl) ?_
        refine at_pures 1 (by kernel_rfl) (by kernel_rfl) ?_
        refine at_done (by kernel_rfl) ?_
        refine then_n ?_
        refine c_seq [1, 1, 1, 1, 1, 1, 1, 0, 1, 0, 0, 1, 0] [1, 1, 1, 1, 1, 1, 1, 0, 1, 0, 0, 1, 1] (by kernel_rfl) ?_
        refine c_if (.tmp 60) (decide ((k2 : Int) < (us.length : Int))) [1, 1, 1, 1, 1, 1, 1, 0, 1, 0, 0, 1, 0, 0] [1, 1, 1, 1, 1, 1, 1, 0, 1, 0, 0, 1, 0, 1] (by kernel_rfl) (by kernel_rfl) (fun c193_ => ?_) (fun c193_ => ?_)
        · -- yes
          replace c193_ : (k2 : Int) < (us.length : Int) := of_decide_eq_true c193_
          refine c_skip (by kernel_rfl) ?_
          refine then_n ?_
          refine c_seq [1, 1, 1, 1, 1, 1, 1, 0, 1, 0, 0, 1, 1, 0] [1, 1, 1, 1, 1, 1, 1, 0, 1, 0, 0, 1, 1, 1] (by kernel_rfl) ?_
          refine c_block 3 [1, 1, 1, 1, 1, 1, 1, 0, 1, 0, 0, 1, 1, 0, 0] (by kernel_rfl) ?_
          refine c_seq [1, 1, 1, 1, 1, 1, 1, 0, 1, 0, 0, 1, 1, 0, 0, 0] [1, 1, 1, 1, 1, 1, 1, 0, 1, 0, 0, 1, 1, 0, 0, 1] (by kernel_rfl) ?_
          refine c_reg 16 wireParts_c_R16 (by kernel_rfl) ?_
          obtain ⟨y, hx_y⟩ : ∃ x, us[k2]? = some x := ⟨_, List.getElem?_eq_getElem (by omega)⟩
          have hm_y := List.mem_of_getElem? hx_y; have ho_y := ThingsAt.ok q_1L189_ y hm_y; have hi_y := ThingsAt.in2 q_1L189_ y hm_y; have hn_y := ho_y.n
          have hXW_y := Thing.w_len ho_y; have hxh_y := ho_y.h; have hxb_y := hlgu.2 y hm_y
          obtain ⟨ad194_, ha195_⟩ := (ThingsAt.rd q_1L189_).has (k2 * 36) (by rw [cellsT_length]; omega)
          refine at_run (.pointer (some (ad194_.add (k2 * 36)))) _ (by kernel_rfl) (run_idx_o 22 (.tmp 57) (.tmp 59) 36 bo ad194_ us.length bcap .i64 k2 (by kernel_rfl) (by kernel_rfl) (by kernel_rfl) (by kernel_rfl) (by kernel_rfl) ha195_ (by omega)) ?_
          refine at_run (.agg (Thing.cells y)) _ (by kernel_rfl) (run_loadEn 33 (.tmp 61) bo ad194_ (k2 * 36) 36 (cellsT us) (Thing.cells y) (by kernel_rfl) (by kernel_rfl) (by kernel_rfl) (by kernel_rfl) ha195_ (ThingsAt.rd q_1L189_) (by kernel_rfl) (cellsT_get us k2 y hx_y)) ?_
          refine at_do (by kernel_rfl) (op_new (.cells #[(.int .i64 0), (.int .u64 0), (.int .u8 0), (.int .u8 0), (.int .u8 0), (.int .u8 0), (.int .u8 0), (.int .u8 0), (.int .u8 0), (.int .u8 0), (.int .u8 0), (.int .u8 0), (.int .u8 0), (.int .u8 0), (.int .u8 0), (.int .u8 0), (.int .u8 0), (.int .u8 0), (.int .u8 0), (.int .u8 0), (.int .u8 0), (.int .u8 0), (.int .u8 0), (.int .u8 0), (.int .u8 0), (.int .u8 0), (.int .u8 0), (.int .u8 0), (.int .u8 0), (.int .u8 0), (.int .u8 0), (.int .u8 0), (.int .u8 0), (.int .u8 0), (.slice none 0 0), (.int .i64 0)] 33) (fun N => (.pointer (some ⟨N, 0, none⟩))) (fun _ => by kernel_rfl) (fun w197_ b196_ h198_ q199_ F200_ => ?_))
          have d201_ : Dis (One b196_) (Old N) := Dis.fresh (New.one q199_) (ThingsAt.in q_0L189_)
          have d202_ : Dis (One b196_) (Old N) := Dis.fresh (New.one q199_) (ThingsAt.in q_1L189_)
          have d203_ : Dis (One b196_) (wrS b27_ v1) := Dis.fresh (New.one q199_) (WrAt.in q_2L189_)
          have d204_ : Dis (One b196_) (wrS b36_ v2) := Dis.fresh (New.one q199_) (WrAt.in q_3L189_)
          have d205_ : Dis (One b196_) (wrS b48_ v4) := Dis.fresh (New.one q199_) (WrAt.in q_4L189_)
          have d206_ : Dis (One b196_) (Own (.slice ao183_ l3.length cap184_)) := Dis.fresh (New.one q199_) (Row.in q_5L189_)
          have d207_ : Dis (One b196_) (Ar y.ao (B y.b)) := Dis.fresh (New.one q199_) (Rd.in (ThingsAt.rdb q_1L189_ y hm_y))
          have N208_ : New w N0 (One b196_) := New.made q199_ (Fr.size hFrL189_)
          have T209_ := Fr.tr hFrL189_ F200_
          have h210_ := ThingsAt.keep q_0L189_ F200_ Dis.n0
          have h211_ := ThingsAt.keep q_1L189_ F200_ Dis.n0
          have h212_ := WrAt.keep q_2L189_ F200_ Dis.n0
          have h213_ := WrAt.keep q_3L189_ F200_ Dis.n0
          have h214_ := WrAt.keep q_4L189_ F200_ Dis.n0
          have h215_ := Row.keep q_5L189_ F200_ Dis.n0
          have h216_ := Rd.keep' (ThingsAt.rdb q_1L189_ y hm_y) F200_ Dis.n0
          refine at_do (by kernel_rfl) (op_store 33 (.tmp 15) (.tmp 62) b196_ 0 (.agg (Thing.cells y)) _ _ (Thing.cells y) (by kernel_rfl) (by kernel_rfl) (by kernel_rfl) h198_ (by kernel_rfl) (by kernel_rfl) (by kernel_rfl) (by kernel_rfl) (fun w217_ h218_ z219_ F220_ => ?_))
          have T221_ := Fr.then T209_ F220_ N208_
          have h222_ := ThingsAt.keep h210_ F220_ (Dis.sym d201_)
          have h223_ := ThingsAt.keep h211_ F220_ (Dis.sym d202_)
          have h224_ := WrAt.keep h212_ F220_ (Dis.sym d203_)
          have h225_ := WrAt.keep h213_ F220_ (Dis.sym d204_)
          have h226_ := WrAt.keep h214_ F220_ (Dis.sym d205_)
          have h227_ := Row.keep h215_ F220_ (Dis.sym d206_)
          have h228_ := Rd.keep' h216_ F220_ (Dis.sym d207_)
          refine at_done (by kernel_rfl) ?_
          refine then_n ?_
          refine c_seq [1, 1, 1, 1, 1, 1, 1, 0, 1, 0, 0, 1, 1, 0, 0, 1, 0] [1, 1, 1, 1, 1, 1, 1, 0, 1, 0, 0, 1, 1, 0, 0, 1, 1] (by kernel_rfl) ?_
          refine c_plan 17 wireParts_c_R17 (fun w' => w'.heap[b196_]? = some (.cells (Thing.cells y) 33 (0, 0)) ∧ True) wireParts_c_sk17 wireParts_c_pl17 (by kernel_rfl) (by kernel_rfl) (by kernel_rfl) (by kernel_rfl) (by kernel_rfl) (fun w229_ F230_ => ?_)
          have T231_ := Fr.tr T221_ F230_
          have h233_ := Fr.keep F230_ h218_ Dis.n0
          have S232_ : w229_.heap[b196_]? = some (.cells (Thing.cells y) 33 (0, 0)) ∧ True := ⟨h233_, trivial⟩
          refine pl_pures 1 (by kernel_rfl) (by kernel_rfl) (off (by kernel_rfl)) ?_
          refine pl_read 1 (.agg (Thing.cells y)) (by kernel_rfl) (by kernel_rfl) (fun w' hs => run_loadN 33 (.tmp 15) b196_ 0 36 _ _ _ (Thing.cells y) (by kernel_rfl) (by kernel_rfl) (by kernel_rfl) (by kernel_rfl) hs.1 (by kernel_rfl) (by kernel_rfl)) S232_ ?_
          refine pl_pures 3 (by kernel_rfl) (by kernel_rfl) (fun _ => S232_) ?_
          refine pl_read 4 (.agg (Thing.cells y)) (by kernel_rfl) (by kernel_rfl) (fun w' hs => run_loadN 33 (.tmp 15) b196_ 0 36 _ _ _ (Thing.cells y) (by kernel_rfl) (by kernel_rfl) (by kernel_rfl) (by kernel_rfl) hs.1 (by kernel_rfl) (by kernel_rfl)) S232_ ?_
          have h234_ := ThingsAt.keep h222_ F230_ Dis.n0
          have h235_ := ThingsAt.keep h223_ F230_ Dis.n0
          have h236_ := WrAt.keep h224_ F230_ Dis.n0
          have h237_ := WrAt.keep h225_ F230_ Dis.n0
          have h238_ := WrAt.keep h226_ F230_ Dis.n0
          have h239_ := Row.keep h227_ F230_ Dis.n0
          have h240_ := Rd.keep' h228_ F230_ Dis.n0
          refine pl_do 2 (by kernel_rfl) (by kernel_rfl) (op_call 9 #[(.tmp 63), (.tmp 64)] #[(.pointer (some ⟨b36_, 0, none⟩)), (.agg (Thing.cells y))] (by kernel_rfl) (by kernel_rfl) (by kernel_rfl) ?_)
          have C248_ := write_c b36_ v2 l2 y w229_ h240_ h237_ (Dis.sym (Sub.dis hi_y d_1_3L189_)) (by first | omega | with_reducible assumption | (simp only [List.length_append, List.length_cons, List.length_nil, putB_length]; omega) | decide) (by first | omega | with_reducible assumption | (simp only [List.length_append, List.length_cons, List.length_nil, putB_length]; omega) | decide) (by first | omega | with_reducible assumption | (simp only [List.length_append, List.length_cons, List.length_nil, putB_length]; omega) | decide)
          refine Calls.mono C248_ ?_
          rintro e247_ w245_ ⟨vwr241_, rfl, h242_, F246_, h244_⟩
          have T249_ := Fr.then T231_ F246_ n_3L189_
          have d250_ : Dis (wrS b36_ vwr241_) (Old N) := Dis.step (Dis.sym d_0_3L189_) h244_ (ThingsAt.in h234_)
          have h251_ := ThingsAt.keep h234_ F246_ d_0_3L189_
          have d252_ : Dis (wrS b36_ vwr241_) (Old N) := Dis.step (Dis.sym d_1_3L189_) h244_ (ThingsAt.in h235_)
          have h253_ := ThingsAt.keep h235_ F246_ d_1_3L189_
          have d254_ : Dis (wrS b36_ vwr241_) (wrS b27_ v1) := Dis.step (Dis.sym d_2_3L189_) h244_ (WrAt.in h236_)
          have h255_ := WrAt.keep h236_ F246_ d_2_3L189_
          have d256_ : Dis (wrS b36_ vwr241_) (wrS b48_ v4) := Dis.step d_3_4L189_ h244_ (WrAt.in h238_)
          have h257_ := WrAt.keep h238_ F246_ (Dis.sym d_3_4L189_)
          have d258_ : Dis (wrS b36_ vwr241_) (Own (.slice ao183_ l3.length cap184_)) := Dis.step d_3_5L189_ h244_ (Row.in h239_)
          have h259_ := Row.keep h239_ F246_ (Dis.sym d_3_5L189_)
          have d260_ : Dis (wrS b36_ vwr241_) (Ar y.ao (B y.b)) := Dis.step (Dis.sym (Sub.dis hi_y d_1_3L189_)) h244_ (Rd.in h240_)
          have h261_ := Rd.keep' h240_ F246_ (Sub.dis hi_y d_1_3L189_)
          have d262_ : Dis (wrS b36_ vwr241_) (One b196_) := Dis.step (Dis.sym d204_) h244_ (In.one h233_)
          have h263_ := Fr.keep F246_ h233_ d204_
          have N264_ : New w N0 (wrS b36_ vwr241_) := New.trans n_3L189_ h244_ (Fr.size T231_)
          refine ⟨_, rfl, ?_⟩
          have S265_ : w245_.heap[b196_]? = some (.cells (Thing.cells y) 33 (0, 0)) ∧ True := ⟨h263_, trivial⟩
          refine ⟨fun _ => S265_, ?_⟩
          refine pl_do 5 (by kernel_rfl) (by kernel_rfl) (op_call 9 #[(.tmp 66), (.tmp 67)] #[(.pointer (some ⟨b48_, 0, none⟩)), (.agg (Thing.cells y))] (by kernel_rfl) (by kernel_rfl) (by kernel_rfl) ?_)
          have C273_ := write_c b48_ v4 l4 y w245_ h261_ h257_ (Dis.sym (Sub.dis hi_y d_1_4L189_)) (by first | omega | with_reducible assumption | (simp only [List.length_append, List.length_cons, List.length_nil, putB_length]; omega) | decide) (by first | omega | with_reducible assumption | (simp only [List.length_append, List.length_cons, List.length_nil, putB_length]; omega) | decide) (by first | omega | with_reducible assumption | (simp only [List.length_append, List.length_cons, List.length_nil, putB_length]; omega) | decide)
          refine Calls.mono C273_ ?_
          rintro e272_ w270_ ⟨vwr266_, rfl, h267_, F271_, h269_⟩
          have T274_ := Fr.then T249_ F271_ n_4L189_
          have d275_ : Dis (wrS b48_ vwr266_) (Old N) := Dis.step (Dis.sym d_0_4L189_) h269_ (ThingsAt.in h251_)
          have h276_ := ThingsAt.keep h251_ F271_ d_0_4L189_
          have d277_ : Dis (wrS b48_ vwr266_) (Old N) := Dis.step (Dis.sym d_1_4L189_) h269_ (ThingsAt.in h253_)
          have h278_ := ThingsAt.keep h253_ F271_ d_1_4L189_
          have d279_ : Dis (wrS b48_ vwr266_) (wrS b27_ v1) := Dis.step (Dis.sym d_2_4L189_) h269_ (WrAt.in h255_)
          have h280_ := WrAt.keep h255_ F271_ d_2_4L189_
          have d281_ : Dis (wrS b48_ vwr266_) (wrS b36_ vwr241_) := Dis.step (Dis.sym d256_) h269_ (WrAt.in h242_)
          have h282_ := WrAt.keep h242_ F271_ d256_
          have d283_ : Dis (wrS b48_ vwr266_) (Own (.slice ao183_ l3.length cap184_)) := Dis.step d_4_5L189_ h269_ (Row.in h259_)
          have h284_ := Row.keep h259_ F271_ (Dis.sym d_4_5L189_)
          have d285_ : Dis (wrS b48_ vwr266_) (Ar y.ao (B y.b)) := Dis.step (Dis.sym (Sub.dis hi_y d_1_4L189_)) h269_ (Rd.in h261_)
          have h286_ := Rd.keep' h261_ F271_ (Sub.dis hi_y d_1_4L189_)
          have d287_ : Dis (wrS b48_ vwr266_) (One b196_) := Dis.step (Dis.sym d205_) h269_ (In.one h263_)
          have h288_ := Fr.keep F271_ h263_ d205_
          have N289_ : New w N0 (wrS b48_ vwr266_) := New.trans n_4L189_ h269_ (Fr.size T249_)
          refine ⟨_, rfl, ?_⟩
          refine ⟨off (by kernel_rfl), ?_⟩
          refine pl_pures 8 (by kernel_rfl) (by kernel_rfl) (off (by kernel_rfl)) ?_
          refine pl_done (by kernel_rfl) ?_
          refine then_n ?_
          refine c_reg 18 wireParts_c_R18 (by kernel_rfl) ?_
          refine at_pures 4 (by kernel_rfl) (by kernel_rfl) ?_
          refine at_as (.bool (y.okW == y.okW)) (.bool true) (by kernel_rfl) (by kernel_rfl) (congrArg Value.bool (beq_self_eq_true _)) ?_
          refine at_pures 7 (by kernel_rfl) (by kernel_rfl) ?_
          refine at_done (by kernel_rfl) ?_
          refine blk_n ?_
          refine then_n ?_
          refine c_reg 19 wireParts_c_R19 (by kernel_rfl) ?_
          refine at_int (kd := .i64) (IntKind.i64.wrap ((k2 : Int) + (1 : Int))) ((k2 : Int) + (1 : Int)) (by kernel_rfl) (by kernel_rfl) (wrapN_i64 (by omega) (by omega)) ?_
          refine at_pures 2 (by kernel_rfl) (by kernel_rfl) ?_
          refine at_done (by kernel_rfl) ?_
          refine then_n ?_
          exact ⟨⟨k2 + 1, vwr241_, l2 ++ y.w, vwr266_, l4 ++ y.w, is_mk (by kernel_rfl) (by kernel_rfl) (by kernel_rfl), ⟨(by omega), (by rw [hl2, writeT_snoc hx_y]), (by rw [hl4, writeT_snoc hx_y, List.append_assoc]), h276_, h278_, h280_, h282_, h267_, h284_, (Dis.sym d250_), (Dis.sym d275_), (Dis.sym d252_), (Dis.sym d277_), (Dis.sym d254_), (Dis.sym d279_), (Dis.sym d281_), d258_, d283_, N264_, N289_, T274_⟩⟩, cnt_lt (k := (k2 : Int)) (k' := ((k2 : Int) + (1 : Int))) (by kernel_rfl) (by kernel_rfl) (by omega) (by omega)⟩
        · -- no
          replace c193_ : ¬ ((k2 : Int) < (us.length : Int)) := of_decide_eq_false c193_
          refine c_exit 2 (by kernel_rfl) ?_
          refine then_e ?_
          refine then_e ?_
          refine blk_hit ?_
          refine then_n ?_
          refine c_seq [1, 1, 1, 1, 1, 1, 1, 1, 0] [1, 1, 1, 1, 1, 1, 1, 1, 1] (by kernel_rfl) ?_
          refine c_reg 20 wireParts_c_R20 (by kernel_rfl) ?_
          refine at_do (by kernel_rfl) (op_new (.cells #[] 5) (fun N => (.slice (some ⟨N, 0, none⟩) 0 0)) (fun _ => by kernel_rfl) (fun w291_ b290_ h292_ q293_ F294_ => ?_))
          have d295_ : Dis (One b290_) (Old N) := Dis.fresh (New.one q293_) (ThingsAt.in q_0L189_)
          have d296_ : Dis (One b290_) (Old N) := Dis.fresh (New.one q293_) (ThingsAt.in q_1L189_)
          have d297_ : Dis (One b290_) (wrS b27_ v1) := Dis.fresh (New.one q293_) (WrAt.in q_2L189_)
          have d298_ : Dis (One b290_) (wrS b36_ v2) := Dis.fresh (New.one q293_) (WrAt.in q_3L189_)
          have d299_ : Dis (One b290_) (wrS b48_ v4) := Dis.fresh (New.one q293_) (WrAt.in q_4L189_)
          have d300_ : Dis (One b290_) (Own (.slice ao183_ l3.length cap184_)) := Dis.fresh (New.one q293_) (Row.in q_5L189_)
          have N301_ : New w N0 (One b290_) := New.made q293_ (Fr.size hFrL189_)
          have T302_ := Fr.tr hFrL189_ F294_
          refine at_pures 2 (by kernel_rfl) (by kernel_rfl) ?_
          have h303_ := ThingsAt.keep q_0L189_ F294_ Dis.n0
          have h304_ := ThingsAt.keep q_1L189_ F294_ Dis.n0
          have h305_ := WrAt.keep q_2L189_ F294_ Dis.n0
          have h306_ := WrAt.keep q_3L189_ F294_ Dis.n0
          have h307_ := WrAt.keep q_4L189_ F294_ Dis.n0
          have h308_ := Row.keep q_5L189_ F294_ Dis.n0
          refine at_do (by kernel_rfl) (op_call 13 #[(.tmp 77)] #[(.pointer (some ⟨b27_, 0, none⟩))] (by kernel_rfl) (by kernel_rfl) (by kernel_rfl) ?_)
          have C316_ := bytes_c b27_ v1 l1 w291_ h305_  (by first | omega | with_reducible assumption | (simp only [List.length_append, List.length_cons, List.length_nil, putB_length]; omega) | decide)
          refine Calls.mono C316_ ?_
          rintro e315_ w313_ ⟨vout309_, rfl, h310_, F314_, h312_⟩
          have d317_ : Dis (Own vout309_) (Old N) := Dis.fresh h312_ (ThingsAt.in h303_)
          have d318_ : Dis (Own vout309_) (Old N) := Dis.fresh h312_ (ThingsAt.in h304_)
          have d319_ : Dis (Own vout309_) (wrS b27_ v1) := Dis.fresh h312_ (WrAt.in h305_)
          have d320_ : Dis (Own vout309_) (wrS b36_ v2) := Dis.fresh h312_ (WrAt.in h306_)
          have d321_ : Dis (Own vout309_) (wrS b48_ v4) := Dis.fresh h312_ (WrAt.in h307_)
          have d322_ : Dis (Own vout309_) (Own (.slice ao183_ l3.length cap184_)) := Dis.fresh h312_ (Row.in h308_)
          have d323_ : Dis (Own vout309_) (One b290_) := Dis.fresh h312_ (In.one h292_)
          have T324_ := Fr.tr T302_ F314_
          have h325_ := ThingsAt.keep h303_ F314_ Dis.n0
          have h326_ := ThingsAt.keep h304_ F314_ Dis.n0
          have h327_ := WrAt.keep h305_ F314_ Dis.n0
          have h328_ := WrAt.keep h306_ F314_ Dis.n0
          have h329_ := WrAt.keep h307_ F314_ Dis.n0
          have h330_ := Row.keep h308_ F314_ Dis.n0
          have h331_ := Fr.keep F314_ h292_ Dis.n0
          have N333_ : New w N0 (Own vout309_) := New.later' h312_ (Fr.size T302_)
          obtain ⟨ao334_, cap335_, rfl, hc336_, hm337_, hR338_, ho339_⟩ := Row.read h310_
          refine ⟨_, rfl, ?_⟩
          have h340_ : Row w313_ 5 1 (.slice (some ⟨b290_, 0, none⟩) 0 0) 0 [] := Row.made' h331_ (by rfl) (by decide) (by decide) (by rfl)
          refine at_do (by kernel_rfl) (op_append (.tmp 76) (.tmp 78) 26 26 5 1 1 (.int .u8 0) (by kernel_rfl) (by kernel_rfl) (by rfl) (v := (.slice (some ⟨b290_, 0, none⟩) 0 0)) (by kernel_rfl) h340_ (xv := (.slice ao334_ l1.length cap335_)) (m := l1.length) (news := B l1) (by kernel_rfl) (Row.src (e' := 5) (by kernel_rfl) h310_ (by decide) B_one) (by first | (simp only [maxLen]; omega) | (simp only [maxLen, List.length_append, List.length_cons, List.length_nil, putB_length]; omega)) (by first | omega | (simp only [List.length_append, List.length_cons, List.length_nil, putB_length]; omega)) (fun v341_ w342_ h343_ F344_ s345_ => ?_))
          have T346_ := Fr.then T324_ F344_ (New.own N301_)
          have d347_ : Dis (Own v341_) (Old N) := Dis.step (Dis.own d295_) s345_ (ThingsAt.in h325_)
          have h348_ := ThingsAt.keep h325_ F344_ (Dis.sym (Dis.own d295_))
          have d349_ : Dis (Own v341_) (Old N) := Dis.step (Dis.own d296_) s345_ (ThingsAt.in h326_)
          have h350_ := ThingsAt.keep h326_ F344_ (Dis.sym (Dis.own d296_))
          have d351_ : Dis (Own v341_) (wrS b27_ v1) := Dis.step (Dis.own d297_) s345_ (WrAt.in h327_)
          have h352_ := WrAt.keep h327_ F344_ (Dis.sym (Dis.own d297_))
          have d353_ : Dis (Own v341_) (wrS b36_ v2) := Dis.step (Dis.own d298_) s345_ (WrAt.in h328_)
          have h354_ := WrAt.keep h328_ F344_ (Dis.sym (Dis.own d298_))
          have d355_ : Dis (Own v341_) (wrS b48_ v4) := Dis.step (Dis.own d299_) s345_ (WrAt.in h329_)
          have h356_ := WrAt.keep h329_ F344_ (Dis.sym (Dis.own d299_))
          have d357_ : Dis (Own v341_) (Own (.slice ao183_ l3.length cap184_)) := Dis.step (Dis.own d300_) s345_ (Row.in h330_)
          have h358_ := Row.keep h330_ F344_ (Dis.sym (Dis.own d300_))
          have d359_ : Dis (Own v341_) (Own (.slice ao334_ l1.length cap335_)) := Dis.step (Dis.own (Dis.sym d323_)) s345_ (Row.in h310_)
          have h360_ := Row.keep h310_ F344_ (Dis.sym (Dis.own (Dis.sym d323_)))
          have N361_ : New w N0 (Own v341_) := New.trans (New.own N301_) s345_ (Fr.size T324_)
          have h362_ : Row w342_ 5 1 v341_ ([] ++ l1).length (B ([] ++ l1)) := Row.appB h343_ rfl
          refine at_pures 5 (by kernel_rfl) (by kernel_rfl) ?_
          refine at_do (by kernel_rfl) (op_call 13 #[(.tmp 80)] #[(.pointer (some ⟨b36_, 0, none⟩))] (by kernel_rfl) (by kernel_rfl) (by kernel_rfl) ?_)
          have C370_ := bytes_c b36_ v2 l2 w342_ h354_  (by first | omega | with_reducible assumption | (simp only [List.length_append, List.length_cons, List.length_nil, putB_length]; omega) | decide)
          refine Calls.mono C370_ ?_
          rintro e369_ w367_ ⟨vout363_, rfl, h364_, F368_, h366_⟩
          have d371_ : Dis (Own vout363_) (Old N) := Dis.fresh h366_ (ThingsAt.in h348_)
          have d372_ : Dis (Own vout363_) (Old N) := Dis.fresh h366_ (ThingsAt.in h350_)
          have d373_ : Dis (Own vout363_) (wrS b27_ v1) := Dis.fresh h366_ (WrAt.in h352_)
          have d374_ : Dis (Own vout363_) (wrS b36_ v2) := Dis.fresh h366_ (WrAt.in h354_)
          have d375_ : Dis (Own vout363_) (wrS b48_ v4) := Dis.fresh h366_ (WrAt.in h356_)
          have d376_ : Dis (Own vout363_) (Own (.slice ao183_ l3.length cap184_)) := Dis.fresh h366_ (Row.in h358_)
          have d377_ : Dis (Own vout363_) (Own (.slice ao334_ l1.length cap335_)) := Dis.fresh h366_ (Row.in h360_)
          have d378_ : Dis (Own vout363_) (Own v341_) := Dis.fresh h366_ (Row.in h362_)
          have T379_ := Fr.tr T346_ F368_
          have h380_ := ThingsAt.keep h348_ F368_ Dis.n0
          have h381_ := ThingsAt.keep h350_ F368_ Dis.n0
          have h382_ := WrAt.keep h352_ F368_ Dis.n0
          have h383_ := WrAt.keep h354_ F368_ Dis.n0
          have h384_ := WrAt.keep h356_ F368_ Dis.n0
          have h385_ := Row.keep h358_ F368_ Dis.n0
          have h386_ := Row.keep h360_ F368_ Dis.n0
          have h387_ := Row.keep h362_ F368_ Dis.n0
          have N389_ : New w N0 (Own vout363_) := New.later' h366_ (Fr.size T346_)
          obtain ⟨ao390_, cap391_, rfl, hc392_, hm393_, hR394_, ho395_⟩ := Row.read h364_
          refine ⟨_, rfl, ?_⟩
          refine at_do (by kernel_rfl) (op_append (.tmp 79) (.tmp 81) 26 26 5 1 1 (.int .u8 0) (by kernel_rfl) (by kernel_rfl) (by rfl) (v := v341_) (by kernel_rfl) h387_ (xv := (.slice ao390_ l2.length cap391_)) (m := l2.length) (news := B l2) (by kernel_rfl) (Row.src (e' := 5) (by kernel_rfl) h364_ (by decide) B_one) (by first | (simp only [maxLen]; omega) | (simp only [maxLen, List.length_append, List.length_cons, List.length_nil, putB_length]; omega)) (by first | omega | (simp only [List.length_append, List.length_cons, List.length_nil, putB_length]; omega)) (fun v396_ w397_ h398_ F399_ s400_ => ?_))
          have T401_ := Fr.then T379_ F399_ N361_
          have d402_ : Dis (Own v396_) (Old N) := Dis.step d347_ s400_ (ThingsAt.in h380_)
          have h403_ := ThingsAt.keep h380_ F399_ (Dis.sym d347_)
          have d404_ : Dis (Own v396_) (Old N) := Dis.step d349_ s400_ (ThingsAt.in h381_)
          have h405_ := ThingsAt.keep h381_ F399_ (Dis.sym d349_)
          have d406_ : Dis (Own v396_) (wrS b27_ v1) := Dis.step d351_ s400_ (WrAt.in h382_)
          have h407_ := WrAt.keep h382_ F399_ (Dis.sym d351_)
          have d408_ : Dis (Own v396_) (wrS b36_ v2) := Dis.step d353_ s400_ (WrAt.in h383_)
          have h409_ := WrAt.keep h383_ F399_ (Dis.sym d353_)
          have d410_ : Dis (Own v396_) (wrS b48_ v4) := Dis.step d355_ s400_ (WrAt.in h384_)
          have h411_ := WrAt.keep h384_ F399_ (Dis.sym d355_)
          have d412_ : Dis (Own v396_) (Own (.slice ao183_ l3.length cap184_)) := Dis.step d357_ s400_ (Row.in h385_)
          have h413_ := Row.keep h385_ F399_ (Dis.sym d357_)
          have d414_ : Dis (Own v396_) (Own (.slice ao334_ l1.length cap335_)) := Dis.step d359_ s400_ (Row.in h386_)
          have h415_ := Row.keep h386_ F399_ (Dis.sym d359_)
          have d416_ : Dis (Own v396_) (Own (.slice ao390_ l2.length cap391_)) := Dis.step (Dis.sym d378_) s400_ (Row.in h364_)
          have h417_ := Row.keep h364_ F399_ d378_
          have N418_ : New w N0 (Own v396_) := New.trans N361_ s400_ (Fr.size T379_)
          have h419_ : Row w397_ 5 1 v396_ ([] ++ l1 ++ l2).length (B ([] ++ l1 ++ l2)) := Row.appB h398_ rfl
          refine at_pures 8 (by kernel_rfl) (by kernel_rfl) ?_
          refine at_done (by kernel_rfl) ?_
          refine then_n ?_
          refine c_seq [1, 1, 1, 1, 1, 1, 1, 1, 1, 0] [1, 1, 1, 1, 1, 1, 1, 1, 1, 1] (by kernel_rfl) ?_
          refine c_seq [1, 1, 1, 1, 1, 1, 1, 1, 1, 0, 0] [1, 1, 1, 1, 1, 1, 1, 1, 1, 0, 1] (by kernel_rfl) ?_
          refine c_reg 21 wireParts_c_R21 (by kernel_rfl) ?_
          refine at_pures 4 (by kernel_rfl) (by kernel_rfl) ?_
          refine at_do (by kernel_rfl) (op_call 13 #[(.tmp 86)] #[(.pointer (some ⟨b48_, 0, none⟩))] (by kernel_rfl) (by kernel_rfl) (by kernel_rfl) ?_)
          have C427_ := bytes_c b48_ v4 l4 w397_ h411_  (by first | omega | with_reducible assumption | (simp only [List.length_append, List.length_cons, List.length_nil, putB_length]; omega) | decide)
          refine Calls.mono C427_ ?_
          rintro e426_ w424_ ⟨vout420_, rfl, h421_, F425_, h423_⟩
          have d428_ : Dis (Own vout420_) (Old N) := Dis.fresh h423_ (ThingsAt.in h403_)
          have d429_ : Dis (Own vout420_) (Old N) := Dis.fresh h423_ (ThingsAt.in h405_)
          have d430_ : Dis (Own vout420_) (wrS b27_ v1) := Dis.fresh h423_ (WrAt.in h407_)
          have d431_ : Dis (Own vout420_) (wrS b36_ v2) := Dis.fresh h423_ (WrAt.in h409_)
          have d432_ : Dis (Own vout420_) (wrS b48_ v4) := Dis.fresh h423_ (WrAt.in h411_)
          have d433_ : Dis (Own vout420_) (Own (.slice ao183_ l3.length cap184_)) := Dis.fresh h423_ (Row.in h413_)
          have d434_ : Dis (Own vout420_) (Own (.slice ao334_ l1.length cap335_)) := Dis.fresh h423_ (Row.in h415_)
          have d435_ : Dis (Own vout420_) (Own v396_) := Dis.fresh h423_ (Row.in h419_)
          have d436_ : Dis (Own vout420_) (Own (.slice ao390_ l2.length cap391_)) := Dis.fresh h423_ (Row.in h417_)
          have T437_ := Fr.tr T401_ F425_
          have h438_ := ThingsAt.keep h403_ F425_ Dis.n0
          have h439_ := ThingsAt.keep h405_ F425_ Dis.n0
          have h440_ := WrAt.keep h407_ F425_ Dis.n0
          have h441_ := WrAt.keep h409_ F425_ Dis.n0
          have h442_ := WrAt.keep h411_ F425_ Dis.n0
          have h443_ := Row.keep h413_ F425_ Dis.n0
          have h444_ := Row.keep h415_ F425_ Dis.n0
          have h445_ := Row.keep h419_ F425_ Dis.n0
          have h446_ := Row.keep h417_ F425_ Dis.n0
          have N448_ : New w N0 (Own vout420_) := New.later' h423_ (Fr.size T401_)
          obtain ⟨ao449_, cap450_, rfl, hc451_, hm452_, hR453_, ho454_⟩ := Row.read h421_
          refine ⟨_, rfl, ?_⟩
          refine at_pures 6 (by kernel_rfl) (by kernel_rfl) ?_
          refine at_do (by kernel_rfl) (op_call 12 #[(.tmp 87), (.tmp 88)] #[(.slice ao449_ l4.length cap450_), v396_] (by kernel_rfl) (by kernel_rfl) (by kernel_rfl) ?_)
          have C459_ := same_c (.slice ao449_ l4.length cap450_) l4 v396_ ([] ++ l1 ++ l2) w424_ (Row.sl h421_) (Row.sl h445_)  (by first | omega | with_reducible assumption | (simp only [List.length_append, List.length_cons, List.length_nil, putB_length]; omega) | decide) (by first | omega | with_reducible assumption | (simp only [List.length_append, List.length_cons, List.length_nil, putB_length]; omega) | decide)
          refine Calls.mono C459_ ?_
          rintro e458_ w456_ ⟨rfl, F457_⟩
          have T460_ := Fr.tr T437_ F457_
          have h461_ := ThingsAt.keep h438_ F457_ Dis.n0
          have h462_ := ThingsAt.keep h439_ F457_ Dis.n0
          have h463_ := WrAt.keep h440_ F457_ Dis.n0
          have h464_ := WrAt.keep h441_ F457_ Dis.n0
          have h465_ := WrAt.keep h442_ F457_ Dis.n0
          have h466_ := Row.keep h443_ F457_ Dis.n0
          have h467_ := Row.keep h444_ F457_ Dis.n0
          have h468_ := Row.keep h445_ F457_ Dis.n0
          have h469_ := Row.keep h446_ F457_ Dis.n0
          have h470_ := Row.keep h421_ F457_ Dis.n0
          refine ⟨(.bool true), (by rw [decide_eq_true (by rw [hl4, hl2, hlw1, List.nil_append])]), ?_⟩
          refine at_pures 12 (by kernel_rfl) (by kernel_rfl) ?_
          refine at_do (by kernel_rfl) (op_call 13 #[(.tmp 94)] #[(.pointer (some ⟨b27_, 0, none⟩))] (by kernel_rfl) (by kernel_rfl) (by kernel_rfl) ?_)
          have C478_ := bytes_c b27_ v1 l1 w456_ h463_  (by first | omega | with_reducible assumption | (simp only [List.length_append, List.length_cons, List.length_nil, putB_length]; omega) | decide)
          refine Calls.mono C478_ ?_
          rintro e477_ w475_ ⟨vout471_, rfl, h472_, F476_, h474_⟩
          have d479_ : Dis (Own vout471_) (Old N) := Dis.fresh h474_ (ThingsAt.in h461_)
          have d480_ : Dis (Own vout471_) (Old N) := Dis.fresh h474_ (ThingsAt.in h462_)
          have d481_ : Dis (Own vout471_) (wrS b27_ v1) := Dis.fresh h474_ (WrAt.in h463_)
          have d482_ : Dis (Own vout471_) (wrS b36_ v2) := Dis.fresh h474_ (WrAt.in h464_)
          have d483_ : Dis (Own vout471_) (wrS b48_ v4) := Dis.fresh h474_ (WrAt.in h465_)
          have d484_ : Dis (Own vout471_) (Own (.slice ao183_ l3.length cap184_)) := Dis.fresh h474_ (Row.in h466_)
          have d485_ : Dis (Own vout471_) (Own (.slice ao334_ l1.length cap335_)) := Dis.fresh h474_ (Row.in h467_)
          have d486_ : Dis (Own vout471_) (Own v396_) := Dis.fresh h474_ (Row.in h468_)
          have d487_ : Dis (Own vout471_) (Own (.slice ao390_ l2.length cap391_)) := Dis.fresh h474_ (Row.in h469_)
          have d488_ : Dis (Own vout471_) (Own (.slice ao449_ l4.length cap450_)) := Dis.fresh h474_ (Row.in h470_)
          have T489_ := Fr.tr T460_ F476_
          have h490_ := ThingsAt.keep h461_ F476_ Dis.n0
          have h491_ := ThingsAt.keep h462_ F476_ Dis.n0
          have h492_ := WrAt.keep h463_ F476_ Dis.n0
          have h493_ := WrAt.keep h464_ F476_ Dis.n0
          have h494_ := WrAt.keep h465_ F476_ Dis.n0
          have h495_ := Row.keep h466_ F476_ Dis.n0
          have h496_ := Row.keep h467_ F476_ Dis.n0
          have h497_ := Row.keep h468_ F476_ Dis.n0
          have h498_ := Row.keep h469_ F476_ Dis.n0
          have h499_ := Row.keep h470_ F476_ Dis.n0
          have N501_ : New w N0 (Own vout471_) := New.later' h474_ (Fr.size T460_)
          obtain ⟨ao502_, cap503_, rfl, hc504_, hm505_, hR506_, ho507_⟩ := Row.read h472_
          refine ⟨_, rfl, ?_⟩
          refine at_do (by kernel_rfl) (op_call 12 #[(.tmp 93), (.tmp 95)] #[(.slice ao183_ l3.length cap184_), (.slice ao502_ l1.length cap503_)] (by kernel_rfl) (by kernel_rfl) (by kernel_rfl) ?_)
          have C512_ := same_c (.slice ao183_ l3.length cap184_) l3 (.slice ao502_ l1.length cap503_) l1 w475_ (Row.sl h495_) (Row.sl h472_)  (by first | omega | with_reducible assumption | (simp only [List.length_append, List.length_cons, List.length_nil, putB_length]; omega) | decide) (by first | omega | with_reducible assumption | (simp only [List.length_append, List.length_cons, List.length_nil, putB_length]; omega) | decide)
          refine Calls.mono C512_ ?_
          rintro e511_ w509_ ⟨rfl, F510_⟩
          have T513_ := Fr.tr T489_ F510_
          have h514_ := ThingsAt.keep h490_ F510_ Dis.n0
          have h515_ := ThingsAt.keep h491_ F510_ Dis.n0
          have h516_ := WrAt.keep h492_ F510_ Dis.n0
          have h517_ := WrAt.keep h493_ F510_ Dis.n0
          have h518_ := WrAt.keep h494_ F510_ Dis.n0
          have h519_ := Row.keep h495_ F510_ Dis.n0
          have h520_ := Row.keep h496_ F510_ Dis.n0
          have h521_ := Row.keep h497_ F510_ Dis.n0
          have h522_ := Row.keep h498_ F510_ Dis.n0
          have h523_ := Row.keep h499_ F510_ Dis.n0
          have h524_ := Row.keep h472_ F510_ Dis.n0
          refine ⟨(.bool true), (by rw [decide_eq_true (by rw [hlw3, hlw1])]), ?_⟩
          refine at_pures 16 (by kernel_rfl) (by kernel_rfl) ?_
          refine at_done (by kernel_rfl) ?_
          refine then_n ?_
          refine c_else (.tmp 98) [1, 1, 1, 1, 1, 1, 1, 1, 1, 0, 1, 0] [1, 1, 1, 1, 1, 1, 1, 1, 1, 0, 1, 1] (by kernel_rfl) (by kernel_rfl) ?_
          refine c_skip (by kernel_rfl) ?_
          refine then_n ?_
          refine c_seq [1, 1, 1, 1, 1, 1, 1, 1, 1, 1, 0] [1, 1, 1, 1, 1, 1, 1, 1, 1, 1, 1] (by kernel_rfl) ?_
          refine c_reg 23 wireParts_c_R23 (by kernel_rfl) ?_
          refine at_pures 1 (by kernel_rfl) (by kernel_rfl) ?_
          refine at_do (by kernel_rfl) (op_call 14 #[(.tmp 99)] #[v396_] (by kernel_rfl) (by kernel_rfl) (by kernel_rfl) ?_)
          have C534_ := rnew_c v396_ ([] ++ l1 ++ l2) w509_ (Row.sl h521_)  (by first | omega | with_reducible assumption | (simp only [List.length_append, List.length_cons, List.length_nil, putB_length]; omega) | decide)
          refine Calls.mono C534_ ?_
          rintro e533_ w531_ ⟨b525_, aorr526_, caprr527_, rfl, h528_, F532_, h530_⟩
          have d535_ : Dis (rrS b525_ aorr526_ (Rs.mk 0 ([] ++ l1 ++ l2))) (Old N) := Dis.fresh h530_ (ThingsAt.in h514_)
          have d536_ : Dis (rrS b525_ aorr526_ (Rs.mk 0 ([] ++ l1 ++ l2))) (Old N) := Dis.fresh h530_ (ThingsAt.in h515_)
          have d537_ : Dis (rrS b525_ aorr526_ (Rs.mk 0 ([] ++ l1 ++ l2))) (wrS b27_ v1) := Dis.fresh h530_ (WrAt.in h516_)
          have d538_ : Dis (rrS b525_ aorr526_ (Rs.mk 0 ([] ++ l1 ++ l2))) (wrS b36_ v2) := Dis.fresh h530_ (WrAt.in h517_)
          have d539_ : Dis (rrS b525_ aorr526_ (Rs.mk 0 ([] ++ l1 ++ l2))) (wrS b48_ v4) := Dis.fresh h530_ (WrAt.in h518_)
          have d540_ : Dis (rrS b525_ aorr526_ (Rs.mk 0 ([] ++ l1 ++ l2))) (Own (.slice ao183_ l3.length cap184_)) := Dis.fresh h530_ (Row.in h519_)
          have d541_ : Dis (rrS b525_ aorr526_ (Rs.mk 0 ([] ++ l1 ++ l2))) (Own (.slice ao334_ l1.length cap335_)) := Dis.fresh h530_ (Row.in h520_)
          have d542_ : Dis (rrS b525_ aorr526_ (Rs.mk 0 ([] ++ l1 ++ l2))) (Own v396_) := Dis.fresh h530_ (Row.in h521_)
          have d543_ : Dis (rrS b525_ aorr526_ (Rs.mk 0 ([] ++ l1 ++ l2))) (Own (.slice ao390_ l2.length cap391_)) := Dis.fresh h530_ (Row.in h522_)
          have d544_ : Dis (rrS b525_ aorr526_ (Rs.mk 0 ([] ++ l1 ++ l2))) (Own (.slice ao449_ l4.length cap450_)) := Dis.fresh h530_ (Row.in h523_)
          have d545_ : Dis (rrS b525_ aorr526_ (Rs.mk 0 ([] ++ l1 ++ l2))) (Own (.slice ao502_ l1.length cap503_)) := Dis.fresh h530_ (Row.in h524_)
          have T546_ := Fr.tr T513_ F532_
          have h547_ := ThingsAt.keep h514_ F532_ Dis.n0
          have h548_ := ThingsAt.keep h515_ F532_ Dis.n0
          have h549_ := WrAt.keep h516_ F532_ Dis.n0
          have h550_ := WrAt.keep h517_ F532_ Dis.n0
          have h551_ := WrAt.keep h518_ F532_ Dis.n0
          have h552_ := Row.keep h519_ F532_ Dis.n0
          have h553_ := Row.keep h520_ F532_ Dis.n0
          have h554_ := Row.keep h521_ F532_ Dis.n0
          have h555_ := Row.keep h522_ F532_ Dis.n0
          have h556_ := Row.keep h523_ F532_ Dis.n0
          have h557_ := Row.keep h524_ F532_ Dis.n0
          have N559_ : New w N0 (rrS b525_ aorr526_ (Rs.mk 0 ([] ++ l1 ++ l2))) := New.later' h530_ (Fr.size T513_)
          refine ⟨_, rfl, ?_⟩
          refine at_pures 3 (by kernel_rfl) (by kernel_rfl) ?_
          refine at_done (by kernel_rfl) ?_
          refine then_n ?_
          refine c_seq [1, 1, 1, 1, 1, 1, 1, 1, 1, 1, 1, 0] [1, 1, 1, 1, 1, 1, 1, 1, 1, 1, 1, 1] (by kernel_rfl) ?_
          refine c_seq [1, 1, 1, 1, 1, 1, 1, 1, 1, 1, 1, 0, 0] [1, 1, 1, 1, 1, 1, 1, 1, 1, 1, 1, 0, 1] (by kernel_rfl) ?_
          refine c_reg 24 wireParts_c_R24 (by kernel_rfl) ?_
          refine at_pures 3 (by kernel_rfl) (by kernel_rfl) ?_
          refine at_done (by kernel_rfl) ?_
          refine then_n ?_
          refine c_block 4 [1, 1, 1, 1, 1, 1, 1, 1, 1, 1, 1, 0, 1, 0] (by kernel_rfl) ?_
          have hlw2 : l2 = writeT us := by rw [hl2, (List.take_of_length_le (l := us) (i := k2) (by omega))]
          refine c_loop (fun a w' => ∃ (k3 : Nat), ∃ (ao3 : Option Addr), ∃ (cap3 : Nat), ∃ (r3 : Rs), (∃ u, a = mk 126 [(0, (.slice ao ts.length cap)), (1, (.slice bo us.length bcap)), (4, (.bool false)), (5, (.pointer (some ⟨b27_, 0, none⟩))), (6, (.pointer (some ⟨b36_, 0, none⟩))), (7, (.pointer (some ⟨b48_, 0, none⟩))), (8, (.bool true)), (13, (.slice ao183_ l3.length cap184_)), (18, v396_), (19, (.pointer (some ⟨b525_, 0, none⟩))), (22, (.bool true)), (23, (.bool false)), (24, (.slice ao ts.length cap)), (25, (.bool (largeT ts))), (26, (.bool false)), (27, (.slice bo us.length bcap)), (28, (.bool (largeT us))), (29, (.bool (largeT us))), (30, (.agg #[(.slice none 0 0)])), (31, (.pointer (some ⟨b27_, 0, none⟩))), (32, (.agg #[(.slice none 0 0)])), (33, (.pointer (some ⟨b36_, 0, none⟩))), (34, (.agg #[(.slice none 0 0)])), (35, (.pointer (some ⟨b48_, 0, none⟩))), (36, (.slice ao ts.length cap)), (37, (.int .i64 (ts.length : Int))), (38, (.int .i64 (k : Int))), (39, (.bool (decide ((k : Int) < (ts.length : Int))))), (55, (.pointer (some ⟨b48_, 0, none⟩))), (56, (.slice ao183_ l3.length cap184_)), (57, (.slice bo us.length bcap)), (58, (.int .i64 (us.length : Int))), (59, (.int .i64 (k2 : Int))), (60, (.bool (decide ((k2 : Int) < (us.length : Int))))), (76, (.slice (some ⟨b290_, 0, none⟩) 0 0)), (77, (.pointer (some ⟨b27_, 0, none⟩))), (78, (.slice ao334_ l1.length cap335_)), (79, v341_), (80, (.pointer (some ⟨b36_, 0, none⟩))), (81, (.slice ao390_ l2.length cap391_)), (82, v396_), (83, (.bool true)), (84, (.bool false)), (85, (.bool false)), (86, (.pointer (some ⟨b48_, 0, none⟩))), (87, (.slice ao449_ l4.length cap450_)), (88, v396_), (89, (.bool true)), (90, (.bool false)), (91, (.bool false)), (92, (.bool false)), (93, (.slice ao183_ l3.length cap184_)), (94, (.pointer (some ⟨b27_, 0, none⟩))), (95, (.slice ao502_ l1.length cap503_)), (96, (.bool true)), (97, (.bool false)), (98, (.bool false)), (99, v396_), (100, (.pointer (some ⟨b525_, 0, none⟩))), (101, (.slice ao ts.length cap)), (102, (.int .i64 (ts.length : Int))), (103, (.int .i64 (k3 : Int)))] u) ∧ (k3 ≤ ts.length) ∧ (r3 = ⟨0, writeT (ts.drop k3) ++ writeT us⟩) ∧ (ThingsAt N w' ao ts) ∧ (ThingsAt N w' bo us) ∧ (WrAt 5 28 w' b27_ v1 l1) ∧ (WrAt 5 28 w' b36_ v2 l2) ∧ (WrAt 5 28 w' b48_ v4 l4) ∧ (Row w' 5 1 (.slice ao183_ l3.length cap184_) (l3.length) (B l3)) ∧ (Row w' 5 1 (.slice ao334_ l1.length cap335_) (l1.length) (B l1)) ∧ (Row w' 5 1 v396_ (([] ++ l1 ++ l2).length) (B ([] ++ l1 ++ l2))) ∧ (Row w' 5 1 (.slice ao390_ l2.length cap391_) (l2.length) (B l2)) ∧ (Row w' 5 1 (.slice ao449_ l4.length cap450_) (l4.length) (B l4)) ∧ (Row w' 5 1 (.slice ao502_ l1.length cap503_) (l1.length) (B l1)) ∧ (RrAt 67 w' b525_ ao3 cap3 r3) ∧ (Dis (Old N) (rrS b525_ ao3 r3)) ∧ (Dis (Old N) (rrS b525_ ao3 r3)) ∧ (Dis (wrS b27_ v1) (rrS b525_ ao3 r3)) ∧ (Dis (wrS b36_ v2) (rrS b525_ ao3 r3)) ∧ (Dis (wrS b48_ v4) (rrS b525_ ao3 r3)) ∧ (Dis (Own (.slice ao183_ l3.length cap184_)) (rrS b525_ ao3 r3)) ∧ (Dis (Own (.slice ao334_ l1.length cap335_)) (rrS b525_ ao3 r3)) ∧ (Dis (Own v396_) (rrS b525_ ao3 r3)) ∧ (Dis (Own (.slice ao390_ l2.length cap391_)) (rrS b525_ ao3 r3)) ∧ (Dis (Own (.slice ao449_ l4.length cap450_)) (rrS b525_ ao3 r3)) ∧ (Dis (Own (.slice ao502_ l1.length cap503_)) (rrS b525_ ao3 r3)) ∧ (New w N0 (rrS b525_ ao3 r3)) ∧ (Fr w w' N0)) (fun a _ => cnt (ts.length) 103 a) [1, 1, 1, 1, 1, 1, 1, 1, 1, 1, 1, 0, 1, 0, 0] (by kernel_rfl) ⟨0, _, _, _, is_mk (by kernel_rfl) (by kernel_rfl) (by kernel_rfl), ⟨Nat.zero_le _, (by rw [hlw1, hlw2]; rfl), h547_, h548_, h549_, h550_, h551_, h552_, h553_, h554_, h555_, h556_, h557_, h528_, (Dis.sym d535_), (Dis.sym d536_), (Dis.sym d537_), (Dis.sym d538_), (Dis.sym d539_), (Dis.sym d540_), (Dis.sym d541_), (Dis.sym d542_), (Dis.sym d543_), (Dis.sym d544_), (Dis.sym d545_), N559_, T546_⟩⟩ ?_
          rintro a561_ w562_ ⟨k3, ao3, cap3, r3, ⟨u563_, rfl⟩, ⟨hk3, hr3, q_0L560_, q_1L560_, q_2L560_, q_3L560_, q_4L560_, q_5L560_, q_6L560_, q_7L560_, q_8L560_, q_9L560_, q_10L560_, q_11L560_, d_0_11L560_, d_1_11L560_, d_2_11L560_, d_3_11L560_, d_4_11L560_, d_5_11L560_, d_6_11L560_, d_7_11L560_, d_8_11L560_, d_9_11L560_, d_10_11L560_, n_11L560_, hFrL560_⟩⟩
          have hRB3 : Byt r3.l := by rw [hr3]; exact (writeT_byt (fun y hy => h_ts.ok y (List.mem_of_mem_drop hy))).app (writeT_byt h_us.ok)
          have hRL3 : r3.l.length ≤ 60000 := by have h := writeT_len (ts := ts.drop k3) (fun y hy => h_ts.ok y (List.mem_of_mem_drop hy)); have : (ts.drop k3).length ≤ ts.length := (by rw [List.length_drop]; omega); rw [hr3]; show (writeT _ ++ writeT us).length ≤ 60000; rw [List.length_append, ← hlw2]; omega
          refine c_seq [1, 1, 1, 1, 1, 1, 1, 1, 1, 1, 1, 0, 1, 0, 0, 0] [1, 1, 1, 1, 1, 1, 1, 1, 1, 1, 1, 0, 1, 0, 0, 1] (by kernel_rfl) ?_
          refine c_reg 25 wireParts_c_R25 (by kernel_rfl) ?_
          refine at_pures 1 (by kernel_rfl) (by kernel_rfl) ?_
          refine at_done (by kernel_rfl) ?_
          refine then_n ?_
          refine c_seq [1, 1, 1, 1, 1, 1, 1, 1, 1, 1, 1, 0, 1, 0, 0, 1, 0] [1, 1, 1, 1, 1, 1, 1, 1, 1, 1, 1, 0, 1, 0, 0, 1, 1] (by kernel_rfl) ?_
          refine c_if (.tmp 104) (decide ((k3 : Int) < (ts.length : Int))) [1, 1, 1, 1, 1, 1, 1, 1, 1, 1, 1, 0, 1, 0, 0, 1, 0, 0] [1, 1, 1, 1, 1, 1, 1, 1, 1, 1, 1, 0, 1, 0, 0, 1, 0, 1] (by kernel_rfl) (by kernel_rfl) (fun c564_ => ?_) (fun c564_ => ?_)
          · -- yes
            replace c564_ : (k3 : Int) < (ts.length : Int) := of_decide_eq_true c564_
            refine c_skip (by kernel_rfl) ?_
            refine then_n ?_
            refine c_seq [1, 1, 1, 1, 1, 1, 1, 1, 1, 1, 1, 0, 1, 0, 0, 1, 1, 0] [1, 1, 1, 1, 1, 1, 1, 1, 1, 1, 1, 0, 1, 0, 0, 1, 1, 1] (by kernel_rfl) ?_
            refine c_block 5 [1, 1, 1, 1, 1, 1, 1, 1, 1, 1, 1, 0, 1, 0, 0, 1, 1, 0, 0] (by kernel_rfl) ?_
            refine c_seq [1, 1, 1, 1, 1, 1, 1, 1, 1, 1, 1, 0, 1, 0, 0, 1, 1, 0, 0, 0] [1, 1, 1, 1, 1, 1, 1, 1, 1, 1, 1, 0, 1, 0, 0, 1, 1, 0, 0, 1] (by kernel_rfl) ?_
            refine c_reg 26 wireParts_c_R26 (by kernel_rfl) ?_
            obtain ⟨z, hx_z⟩ : ∃ x, ts[k3]? = some x := ⟨_, List.getElem?_eq_getElem (by omega)⟩
            have hm_z := List.mem_of_getElem? hx_z; have ho_z := ThingsAt.ok q_0L560_ z hm_z; have hi_z := ThingsAt.in2 q_0L560_ z hm_z; have hn_z := ho_z.n
            have hXW_z := Thing.w_len ho_z; have hxh_z := ho_z.h; have hxb_z := hlg.2 z hm_z
            obtain ⟨ad565_, ha566_⟩ := (ThingsAt.rd q_0L560_).has (k3 * 36) (by rw [cellsT_length]; omega)
            refine at_run (.pointer (some (ad565_.add (k3 * 36)))) _ (by kernel_rfl) (run_idx_o 22 (.tmp 101) (.tmp 103) 36 ao ad565_ ts.length cap .i64 k3 (by kernel_rfl) (by kernel_rfl) (by kernel_rfl) (by kernel_rfl) (by kernel_rfl) ha566_ (by omega)) ?_
            refine at_run (.agg (Thing.cells z)) _ (by kernel_rfl) (run_loadEn 33 (.tmp 105) ao ad565_ (k3 * 36) 36 (cellsT ts) (Thing.cells z) (by kernel_rfl) (by kernel_rfl) (by kernel_rfl) (by kernel_rfl) ha566_ (ThingsAt.rd q_0L560_) (by kernel_rfl) (cellsT_get ts k3 z hx_z)) ?_
            refine at_do (by kernel_rfl) (op_new (.cells #[(.int .i64 0), (.int .u64 0), (.int .u8 0), (.int .u8 0), (.int .u8 0), (.int .u8 0), (.int .u8 0), (.int .u8 0), (.int .u8 0), (.int .u8 0), (.int .u8 0), (.int .u8 0), (.int .u8 0), (.int .u8 0), (.int .u8 0), (.int .u8 0), (.int .u8 0), (.int .u8 0), (.int .u8 0), (.int .u8 0), (.int .u8 0), (.int .u8 0), (.int .u8 0), (.int .u8 0), (.int .u8 0), (.int .u8 0), (.int .u8 0), (.int .u8 0), (.int .u8 0), (.int .u8 0), (.int .u8 0), (.int .u8 0), (.int .u8 0), (.int .u8 0), (.slice none 0 0), (.int .i64 0)] 33) (fun N => (.pointer (some ⟨N, 0, none⟩))) (fun _ => by kernel_rfl) (fun w568_ b567_ h569_ q570_ F571_ => ?_))
            have d572_ : Dis (One b567_) (Old N) := Dis.fresh (New.one q570_) (ThingsAt.in q_0L560_)
            have d573_ : Dis (One b567_) (Old N) := Dis.fresh (New.one q570_) (ThingsAt.in q_1L560_)
            have d574_ : Dis (One b567_) (wrS b27_ v1) := Dis.fresh (New.one q570_) (WrAt.in q_2L560_)
            have d575_ : Dis (One b567_) (wrS b36_ v2) := Dis.fresh (New.one q570_) (WrAt.in q_3L560_)
            have d576_ : Dis (One b567_) (wrS b48_ v4) := Dis.fresh (New.one q570_) (WrAt.in q_4L560_)
            have d577_ : Dis (One b567_) (Own (.slice ao183_ l3.length cap184_)) := Dis.fresh (New.one q570_) (Row.in q_5L560_)
            have d578_ : Dis (One b567_) (Own (.slice ao334_ l1.length cap335_)) := Dis.fresh (New.one q570_) (Row.in q_6L560_)
            have d579_ : Dis (One b567_) (Own v396_) := Dis.fresh (New.one q570_) (Row.in q_7L560_)
            have d580_ : Dis (One b567_) (Own (.slice ao390_ l2.length cap391_)) := Dis.fresh (New.one q570_) (Row.in q_8L560_)
            have d581_ : Dis (One b567_) (Own (.slice ao449_ l4.length cap450_)) := Dis.fresh (New.one q570_) (Row.in q_9L560_)
            have d582_ : Dis (One b567_) (Own (.slice ao502_ l1.length cap503_)) := Dis.fresh (New.one q570_) (Row.in q_10L560_)
            have d583_ : Dis (One b567_) (rrS b525_ ao3 r3) := Dis.fresh (New.one q570_) (RrAt.in q_11L560_)
            have d584_ : Dis (One b567_) (Ar z.ao (B z.b)) := Dis.fresh (New.one q570_) (Rd.in (ThingsAt.rdb q_0L560_ z hm_z))
            have N585_ : New w N0 (One b567_) := New.made q570_ (Fr.size hFrL560_)
            have T586_ := Fr.tr hFrL560_ F571_
            have h587_ := ThingsAt.keep q_0L560_ F571_ Dis.n0
            have h588_ := ThingsAt.keep q_1L560_ F571_ Dis.n0
            have h589_ := WrAt.keep q_2L560_ F571_ Dis.n0
            have h590_ := WrAt.keep q_3L560_ F571_ Dis.n0
            have h591_ := WrAt.keep q_4L560_ F571_ Dis.n0
            have h592_ := Row.keep q_5L560_ F571_ Dis.n0
            have h593_ := Row.keep q_6L560_ F571_ Dis.n0
            have h594_ := Row.keep q_7L560_ F571_ Dis.n0
            have h595_ := Row.keep q_8L560_ F571_ Dis.n0
            have h596_ := Row.keep q_9L560_ F571_ Dis.n0
            have h597_ := Row.keep q_10L560_ F571_ Dis.n0
            have h598_ := RrAt.keep q_11L560_ F571_ Dis.n0
            have h599_ := Rd.keep' (ThingsAt.rdb q_0L560_ z hm_z) F571_ Dis.n0
            refine at_do (by kernel_rfl) (op_store 33 (.tmp 21) (.tmp 106) b567_ 0 (.agg (Thing.cells z)) _ _ (Thing.cells z) (by kernel_rfl) (by kernel_rfl) (by kernel_rfl) h569_ (by kernel_rfl) (by kernel_rfl) (by kernel_rfl) (by kernel_rfl) (fun w600_ h601_ z602_ F603_ => ?_))
            have T604_ := Fr.then T586_ F603_ N585_
            have h605_ := ThingsAt.keep h587_ F603_ (Dis.sym d572_)
            have h606_ := ThingsAt.keep h588_ F603_ (Dis.sym d573_)
            have h607_ := WrAt.keep h589_ F603_ (Dis.sym d574_)
            have h608_ := WrAt.keep h590_ F603_ (Dis.sym d575_)
            have h609_ := WrAt.keep h591_ F603_ (Dis.sym d576_)
            have h610_ := Row.keep h592_ F603_ (Dis.sym d577_)
            have h611_ := Row.keep h593_ F603_ (Dis.sym d578_)
            have h612_ := Row.keep h594_ F603_ (Dis.sym d579_)
            have h613_ := Row.keep h595_ F603_ (Dis.sym d580_)
            have h614_ := Row.keep h596_ F603_ (Dis.sym d581_)
            have h615_ := Row.keep h597_ F603_ (Dis.sym d582_)
            have h616_ := RrAt.keep h598_ F603_ (Dis.sym d583_)
            have h617_ := Rd.keep' h599_ F603_ (Dis.sym d584_)
            refine at_done (by kernel_rfl) ?_
            refine then_n ?_
            refine c_seq [1, 1, 1, 1, 1, 1, 1, 1, 1, 1, 1, 0, 1, 0, 0, 1, 1, 0, 0, 1, 0] [1, 1, 1, 1, 1, 1, 1, 1, 1, 1, 1, 0, 1, 0, 0, 1, 1, 0, 0, 1, 1] (by kernel_rfl) ?_
            refine c_reg 27 wireParts_c_R27 (by kernel_rfl) ?_
            refine at_pures 1 (by kernel_rfl) (by kernel_rfl) ?_
            refine at_load1 3 (.tmp 107) b567_ 0 _ _ _ (.int .i64 z.kind) (by kernel_rfl) (by kernel_rfl) (by kernel_rfl) (by kernel_rfl) h601_ (by kernel_rfl) ?_
            refine at_pures 3 (by kernel_rfl) (by kernel_rfl) ?_
            refine at_split (z.kind != (4 : Int)) (by kernel_rfl) (by kernel_rfl) (fun c618_ => ?_) (fun c618_ => ?_)
            · -- yes
              replace c618_ : z.kind ≠ (4 : Int) := by simpa using c618_
              refine at_pures 9 (by kernel_rfl) (by kernel_rfl) ?_
              refine at_done (by kernel_rfl) ?_
              refine then_n ?_
              refine c_then (.tmp 115) [1, 1, 1, 1, 1, 1, 1, 1, 1, 1, 1, 0, 1, 0, 0, 1, 1, 0, 0, 1, 1, 0] [1, 1, 1, 1, 1, 1, 1, 1, 1, 1, 1, 0, 1, 0, 0, 1, 1, 0, 0, 1, 1, 1] (by kernel_rfl) (by kernel_rfl) ?_
              refine c_reg 28 wireParts_c_R28 (by kernel_rfl) ?_
              refine at_pures 1 (by kernel_rfl) (by kernel_rfl) ?_
              refine at_loadN 33 (.tmp 21) b567_ 0 36 _ _ _ (Thing.cells z) (by kernel_rfl) (by kernel_rfl) (by kernel_rfl) (by kernel_rfl) (by kernel_rfl) h601_ (by kernel_rfl) (by kernel_rfl) ?_
              refine at_do (by kernel_rfl) (op_call 27 #[(.tmp 116), (.tmp 117)] #[(.pointer (some ⟨b525_, 0, none⟩)), (.agg (Thing.cells z))] (by kernel_rfl) (by kernel_rfl) (by kernel_rfl) ?_)
              have C627_ := read_c b525_ ao3 cap3 r3 z w600_ h617_ h616_ (Dis.sym (Sub.dis hi_z d_0_11L560_)) (by first | omega | with_reducible assumption | (simp only [List.length_append, List.length_cons, List.length_nil, putB_length]; omega) | decide) (by first | omega | with_reducible assumption | (simp only [List.length_append, List.length_cons, List.length_nil, putB_length]; omega) | decide) (by first | omega | with_reducible assumption | (simp only [List.length_append, List.length_cons, List.length_nil, putB_length]; omega) | decide) (by first | omega | with_reducible assumption | (simp only [List.length_append, List.length_cons, List.length_nil, putB_length]; omega) | decide)
              refine Calls.mono C627_ ?_
              rintro e626_ w624_ ⟨aorr619_, caprr620_, rfl, h621_, F625_, h623_⟩
              have T628_ := Fr.then T604_ F625_ (Sub.new Sub.inl n_11L560_)
              have d629_ : Dis (rrS b525_ aorr619_ (z.r r3)) (Old N) := Dis.step (Dis.sym d_0_11L560_) h623_ (ThingsAt.in h605_)
              have h630_ := ThingsAt.keep h605_ F625_ (Dis.sub Sub.inl d_0_11L560_)
              have d631_ : Dis (rrS b525_ aorr619_ (z.r r3)) (Old N) := Dis.step (Dis.sym d_1_11L560_) h623_ (ThingsAt.in h606_)
              have h632_ := ThingsAt.keep h606_ F625_ (Dis.sub Sub.inl d_1_11L560_)
              have d633_ : Dis (rrS b525_ aorr619_ (z.r r3)) (wrS b27_ v1) := Dis.step (Dis.sym d_2_11L560_) h623_ (WrAt.in h607_)
              have h634_ := WrAt.keep h607_ F625_ (Dis.sub Sub.inl d_2_11L560_)
              have d635_ : Dis (rrS b525_ aorr619_ (z.r r3)) (wrS b36_ v2) := Dis.step (Dis.sym d_3_11L560_) h623_ (WrAt.in h608_)
              have h636_ := WrAt.keep h608_ F625_ (Dis.sub Sub.inl d_3_11L560_)
              have d637_ : Dis (rrS b525_ aorr619_ (z.r r3)) (wrS b48_ v4) := Dis.step (Dis.sym d_4_11L560_) h623_ (WrAt.in h609_)
              have h638_ := WrAt.keep h609_ F625_ (Dis.sub Sub.inl d_4_11L560_)
              have d639_ : Dis (rrS b525_ aorr619_ (z.r r3)) (Own (.slice ao183_ l3.length cap184_)) := Dis.step (Dis.sym d_5_11L560_) h623_ (Row.in h610_)
              have h640_ := Row.keep h610_ F625_ (Dis.sub Sub.inl d_5_11L560_)
              have d641_ : Dis (rrS b525_ aorr619_ (z.r r3)) (Own (.slice ao334_ l1.length cap335_)) := Dis.step (Dis.sym d_6_11L560_) h623_ (Row.in h611_)
              have h642_ := Row.keep h611_ F625_ (Dis.sub Sub.inl d_6_11L560_)
              have d643_ : Dis (rrS b525_ aorr619_ (z.r r3)) (Own v396_) := Dis.step (Dis.sym d_7_11L560_) h623_ (Row.in h612_)
              have h644_ := Row.keep h612_ F625_ (Dis.sub Sub.inl d_7_11L560_)
              have d645_ : Dis (rrS b525_ aorr619_ (z.r r3)) (Own (.slice ao390_ l2.length cap391_)) := Dis.step (Dis.sym d_8_11L560_) h623_ (Row.in h613_)
              have h646_ := Row.keep h613_ F625_ (Dis.sub Sub.inl d_8_11L560_)
              have d647_ : Dis (rrS b525_ aorr619_ (z.r r3)) (Own (.slice ao449_ l4.length cap450_)) := Dis.step (Dis.sym d_9_11L560_) h623_ (Row.in h614_)
              have h648_ := Row.keep h614_ F625_ (Dis.sub Sub.inl d_9_11L560_)
              have d649_ : Dis (rrS b525_ aorr619_ (z.r r3)) (Own (.slice ao502_ l1.length cap503_)) := Dis.step (Dis.sym d_10_11L560_) h623_ (Row.in h615_)
              have h650_ := Row.keep h615_ F625_ (Dis.sub Sub.inl d_10_11L560_)
              have d651_ : Dis (rrS b525_ aorr619_ (z.r r3)) (Ar z.ao (B z.b)) := Dis.step (Dis.sym (Sub.dis hi_z d_0_11L560_)) h623_ (Rd.in h617_)
              have h652_ := Rd.keep' h617_ F625_ (Dis.sub Sub.inl (Sub.dis hi_z d_0_11L560_))
              have d653_ : Dis (rrS b525_ aorr619_ (z.r r3)) (One b567_) := Dis.step (Dis.sym d583_) h623_ (In.one h601_)
              have h654_ := Fr.keep F625_ h601_ (Dis.sub Sub.inl d583_)
              have N655_ := New.trans n_11L560_ h623_ (Fr.size T604_)
              refine ⟨_, rfl, ?_⟩
              refine at_done (by kernel_rfl) ?_
              refine blk_n ?_
              refine then_n ?_
              refine c_reg 29 wireParts_c_R29 (by kernel_rfl) ?_
              refine at_int (kd := .i64) (IntKind.i64.wrap ((k3 : Int) + (1 : Int))) ((k3 : Int) + (1 : Int)) (by kernel_rfl) (by kernel_rfl) (wrapN_i64 (by omega) (by omega)) ?_
              refine at_pures 2 (by kernel_rfl) (by kernel_rfl) ?_
              refine at_done (by kernel_rfl) ?_
              refine then_n ?_
              exact ⟨⟨k3 + 1, aorr619_, caprr620_, z.r r3, is_mk (by kernel_rfl) (by kernel_rfl) (by kernel_rfl), ⟨(by omega), (by first | (rw [hr3, writeT_drop hx_z, List.append_assoc]; exact (Thing.back ho_z (Thing.okW_of (by first | exact .inl (by assumption) | exact .inr (by omega))) _).1) | (rw [hr3, writeT_drop hx_z, Thing.w_skip (by assumption) (by omega)]; rfl)), h630_, h632_, h634_, h636_, h638_, h640_, h642_, h644_, h646_, h648_, h650_, h621_, (Dis.sym d629_), (Dis.sym d631_), (Dis.sym d633_), (Dis.sym d635_), (Dis.sym d637_), (Dis.sym d639_), (Dis.sym d641_), (Dis.sym d643_), (Dis.sym d645_), (Dis.sym d647_), (Dis.sym d649_), N655_, T628_⟩⟩, cnt_lt (k := (k3 : Int)) (k' := ((k3 : Int) + (1 : Int))) (by kernel_rfl) (by kernel_rfl) (by omega) (by omega)⟩
            · -- no
              replace c618_ : z.kind = (4 : Int) := by simpa using c618_
              refine at_pures 5 (by kernel_rfl) (by kernel_rfl) ?_
              refine at_load1 26 (.tmp 111) b567_ 34 _ _ _ (.slice z.ao z.b.length z.cap) (by kernel_rfl) (by kernel_rfl) (by kernel_rfl) (by kernel_rfl) h601_ (by kernel_rfl) ?_
              refine at_pures 9 (by kernel_rfl) (by kernel_rfl) ?_
              refine at_done (by kernel_rfl) ?_
              refine then_n ?_
              refine c_if (.tmp 115) (decide ((z.b.length : Int) ≤ (255 : Int))) [1, 1, 1, 1, 1, 1, 1, 1, 1, 1, 1, 0, 1, 0, 0, 1, 1, 0, 0, 1, 1, 0] [1, 1, 1, 1, 1, 1, 1, 1, 1, 1, 1, 0, 1, 0, 0, 1, 1, 0, 0, 1, 1, 1] (by kernel_rfl) (by kernel_rfl) (fun c656_ => ?_) (fun c656_ => ?_)
              · -- yes
                replace c656_ : (z.b.length : Int) ≤ (255 : Int) := of_decide_eq_true c656_
                refine c_reg 28 wireParts_c_R28 (by kernel_rfl) ?_
                refine at_pures 1 (by kernel_rfl) (by kernel_rfl) ?_
                refine at_loadN 33 (.tmp 21) b567_ 0 36 _ _ _ (Thing.cells z) (by kernel_rfl) (by kernel_rfl) (by kernel_rfl) (by kernel_rfl) (by kernel_rfl) h601_ (by kernel_rfl) (by kernel_rfl) ?_
                refine at_do (by kernel_rfl) (op_call 27 #[(.tmp 116), (.tmp 117)] #[(.pointer (some ⟨b525_, 0, none⟩)), (.agg (Thing.cells z))] (by kernel_rfl) (by kernel_rfl) (by kernel_rfl) ?_)
                have C665_ := read_c b525_ ao3 cap3 r3 z w600_ h617_ h616_ (Dis.sym (Sub.dis hi_z d_0_11L560_)) (by first | omega | with_reducible assumption | (simp only [List.length_append, List.length_cons, List.length_nil, putB_length]; omega) | decide) (by first | omega | with_reducible assumption | (simp only [List.length_append, List.length_cons, List.length_nil, putB_length]; omega) | decide) (by first | omega | with_reducible assumption | (simp only [List.length_append, List.length_cons, List.length_nil, putB_length]; omega) | decide) (by first | omega | with_reducible assumption | (simp only [List.length_append, List.length_cons, List.length_nil, putB_length]; omega) | decide)
                refine Calls.mono C665_ ?_
                rintro e664_ w662_ ⟨aorr657_, caprr658_, rfl, h659_, F663_, h661_⟩
                have T666_ := Fr.then T604_ F663_ (Sub.new Sub.inl n_11L560_)
                have d667_ : Dis (rrS b525_ aorr657_ (z.r r3)) (Old N) := Dis.step (Dis.sym d_0_11L560_) h661_ (ThingsAt.in h605_)
                have h668_ := ThingsAt.keep h605_ F663_ (Dis.sub Sub.inl d_0_11L560_)
                have d669_ : Dis (rrS b525_ aorr657_ (z.r r3)) (Old N) := Dis.step (Dis.sym d_1_11L560_) h661_ (ThingsAt.in h606_)
                have h670_ := ThingsAt.keep h606_ F663_ (Dis.sub Sub.inl d_1_11L560_)
                have d671_ : Dis (rrS b525_ aorr657_ (z.r r3)) (wrS b27_ v1) := Dis.step (Dis.sym d_2_11L560_) h661_ (WrAt.in h607_)
                have h672_ := WrAt.keep h607_ F663_ (Dis.sub Sub.inl d_2_11L560_)
                have d673_ : Dis (rrS b525_ aorr657_ (z.r r3)) (wrS b36_ v2) := Dis.step (Dis.sym d_3_11L560_) h661_ (WrAt.in h608_)
                have h674_ := WrAt.keep h608_ F663_ (Dis.sub Sub.inl d_3_11L560_)
                have d675_ : Dis (rrS b525_ aorr657_ (z.r r3)) (wrS b48_ v4) := Dis.step (Dis.sym d_4_11L560_) h661_ (WrAt.in h609_)
                have h676_ := WrAt.keep h609_ F663_ (Dis.sub Sub.inl d_4_11L560_)
                have d677_ : Dis (rrS b525_ aorr657_ (z.r r3)) (Own (.slice ao183_ l3.length cap184_)) := Dis.step (Dis.sym d_5_11L560_) h661_ (Row.in h610_)
                have h678_ := Row.keep h610_ F663_ (Dis.sub Sub.inl d_5_11L560_)
                have d679_ : Dis (rrS b525_ aorr657_ (z.r r3)) (Own (.slice ao334_ l1.length cap335_)) := Dis.step (Dis.sym d_6_11L560_) h661_ (Row.in h611_)
                have h680_ := Row.keep h611_ F663_ (Dis.sub Sub.inl d_6_11L560_)
                have d681_ : Dis (rrS b525_ aorr657_ (z.r r3)) (Own v396_) := Dis.step (Dis.sym d_7_11L560_) h661_ (Row.in h612_)
                have h682_ := Row.keep h612_ F663_ (Dis.sub Sub.inl d_7_11L560_)
                have d683_ : Dis (rrS b525_ aorr657_ (z.r r3)) (Own (.slice ao390_ l2.length cap391_)) := Dis.step (Dis.sym d_8_11L560_) h661_ (Row.in h613_)
                have h684_ := Row.keep h613_ F663_ (Dis.sub Sub.inl d_8_11L560_)
                have d685_ : Dis (rrS b525_ aorr657_ (z.r r3)) (Own (.slice ao449_ l4.length cap450_)) := Dis.step (Dis.sym d_9_11L560_) h661_ (Row.in h614_)
                have h686_ := Row.keep h614_ F663_ (Dis.sub Sub.inl d_9_11L560_)
                have d687_ : Dis (rrS b525_ aorr657_ (z.r r3)) (Own (.slice ao502_ l1.length cap503_)) := Dis.step (Dis.sym d_10_11L560_) h661_ (Row.in h615_)
                have h688_ := Row.keep h615_ F663_ (Dis.sub Sub.inl d_10_11L560_)
                have d689_ : Dis (rrS b525_ aorr657_ (z.r r3)) (Ar z.ao (B z.b)) := Dis.step (Dis.sym (Sub.dis hi_z d_0_11L560_)) h661_ (Rd.in h617_)
                have h690_ := Rd.keep' h617_ F663_ (Dis.sub Sub.inl (Sub.dis hi_z d_0_11L560_))
                have d691_ : Dis (rrS b525_ aorr657_ (z.r r3)) (One b567_) := Dis.step (Dis.sym d583_) h661_ (In.one h601_)
                have h692_ := Fr.keep F663_ h601_ (Dis.sub Sub.inl d583_)
                have N693_ := New.trans n_11L560_ h661_ (Fr.size T604_)
                refine ⟨_, rfl, ?_⟩
                refine at_done (by kernel_rfl) ?_
                refine blk_n ?_
                refine then_n ?_
                refine c_reg 29 wireParts_c_R29 (by kernel_rfl) ?_
                refine at_int (kd := .i64) (IntKind.i64.wrap ((k3 : Int) + (1 : Int))) ((k3 : Int) + (1 : Int)) (by kernel_rfl) (by kernel_rfl) (wrapN_i64 (by omega) (by omega)) ?_
                refine at_pures 2 (by kernel_rfl) (by kernel_rfl) ?_
                refine at_done (by kernel_rfl) ?_
                refine then_n ?_
                exact ⟨⟨k3 + 1, aorr657_, caprr658_, z.r r3, is_mk (by kernel_rfl) (by kernel_rfl) (by kernel_rfl), ⟨(by omega), (by first | (rw [hr3, writeT_drop hx_z, List.append_assoc]; exact (Thing.back ho_z (Thing.okW_of (by first | exact .inl (by assumption) | exact .inr (by omega))) _).1) | (rw [hr3, writeT_drop hx_z, Thing.w_skip (by assumption) (by omega)]; rfl)), h668_, h670_, h672_, h674_, h676_, h678_, h680_, h682_, h684_, h686_, h688_, h659_, (Dis.sym d667_), (Dis.sym d669_), (Dis.sym d671_), (Dis.sym d673_), (Dis.sym d675_), (Dis.sym d677_), (Dis.sym d679_), (Dis.sym d681_), (Dis.sym d683_), (Dis.sym d685_), (Dis.sym d687_), N693_, T666_⟩⟩, cnt_lt (k := (k3 : Int)) (k' := ((k3 : Int) + (1 : Int))) (by kernel_rfl) (by kernel_rfl) (by omega) (by omega)⟩
              · -- no
                replace c656_ : ¬ ((z.b.length : Int) ≤ (255 : Int)) := of_decide_eq_false c656_
                refine c_skip (by kernel_rfl) ?_
                refine blk_n ?_
                refine then_n ?_
                refine c_reg 29 wireParts_c_R29 (by kernel_rfl) ?_
                refine at_int (kd := .i64) (IntKind.i64.wrap ((k3 : Int) + (1 : Int))) ((k3 : Int) + (1 : Int)) (by kernel_rfl) (by kernel_rfl) (wrapN_i64 (by omega) (by omega)) ?_
                refine at_pures 2 (by kernel_rfl) (by kernel_rfl) ?_
                refine at_done (by kernel_rfl) ?_
                refine then_n ?_
                exact ⟨⟨k3 + 1, ao3, cap3, r3, is_mk (by kernel_rfl) (by kernel_rfl) (by kernel_rfl), ⟨(by omega), (by first | (rw [hr3, writeT_drop hx_z, List.append_assoc]; exact (Thing.back ho_z (Thing.okW_of (by first | exact .inl (by assumption) | exact .inr (by omega))) _).1) | (rw [hr3, writeT_drop hx_z, Thing.w_skip (by assumption) (by omega)]; rfl)), h605_, h606_, h607_, h608_, h609_, h610_, h611_, h612_, h613_, h614_, h615_, h616_, d_0_11L560_, d_1_11L560_, d_2_11L560_, d_3_11L560_, d_4_11L560_, d_5_11L560_, d_6_11L560_, d_7_11L560_, d_8_11L560_, d_9_11L560_, d_10_11L560_, n_11L560_, T604_⟩⟩, cnt_lt (k := (k3 : Int)) (k' := ((k3 : Int) + (1 : Int))) (by kernel_rfl) (by kernel_rfl) (by omega) (by omega)⟩
          · -- no
            replace c564_ : ¬ ((k3 : Int) < (ts.length : Int)) := of_decide_eq_false c564_
            refine c_exit 4 (by kernel_rfl) ?_
            refine then_e ?_
            refine then_e ?_
            refine blk_hit ?_
            refine then_n ?_
            refine c_seq [1, 1, 1, 1, 1, 1, 1, 1, 1, 1, 1, 1, 0] [1, 1, 1, 1, 1, 1, 1, 1, 1, 1, 1, 1, 1] (by kernel_rfl) ?_
            refine c_reg 30 wireParts_c_R30 (by kernel_rfl) ?_
            refine at_pures 1 (by kernel_rfl) (by kernel_rfl) ?_
            refine at_do (by kernel_rfl) (op_call 23 #[(.tmp 120)] #[(.pointer (some ⟨b525_, 0, none⟩))] (by kernel_rfl) (by kernel_rfl) (by kernel_rfl) ?_)
            have C698_ := rleft_c b525_ ao3 cap3 r3 w562_ q_11L560_  
            refine Calls.mono C698_ ?_
            rintro e697_ w695_ ⟨rfl, F696_⟩
            have T699_ := Fr.tr hFrL560_ F696_
            have h700_ := ThingsAt.keep q_0L560_ F696_ Dis.n0
            have h701_ := ThingsAt.keep q_1L560_ F696_ Dis.n0
            have h702_ := WrAt.keep q_2L560_ F696_ Dis.n0
            have h703_ := WrAt.keep q_3L560_ F696_ Dis.n0
            have h704_ := WrAt.keep q_4L560_ F696_ Dis.n0
            have h705_ := Row.keep q_5L560_ F696_ Dis.n0
            have h706_ := Row.keep q_6L560_ F696_ Dis.n0
            have h707_ := Row.keep q_7L560_ F696_ Dis.n0
            have h708_ := Row.keep q_8L560_ F696_ Dis.n0
            have h709_ := Row.keep q_9L560_ F696_ Dis.n0
            have h710_ := Row.keep q_10L560_ F696_ Dis.n0
            have h711_ := RrAt.keep q_11L560_ F696_ Dis.n0
            refine ⟨(.int .i64 (l2.length : Int)), (by rw [hr3, List.drop_eq_nil_of_le (by omega), hlw2]; rfl), ?_⟩
            refine at_pures 3 (by kernel_rfl) (by kernel_rfl) ?_
            refine at_do (by kernel_rfl) (op_call 13 #[(.tmp 122)] #[(.pointer (some ⟨b36_, 0, none⟩))] (by kernel_rfl) (by kernel_rfl) (by kernel_rfl) ?_)
            have C719_ := bytes_c b36_ v2 l2 w695_ h703_  (by first | omega | with_reducible assumption | (simp only [List.length_append, List.length_cons, List.length_nil, putB_length]; omega) | decide)
            refine Calls.mono C719_ ?_
            rintro e718_ w716_ ⟨vout712_, rfl, h713_, F717_, h715_⟩
            have d720_ : Dis (Own vout712_) (Old N) := Dis.fresh h715_ (ThingsAt.in h700_)
            have d721_ : Dis (Own vout712_) (Old N) := Dis.fresh h715_ (ThingsAt.in h701_)
            have d722_ : Dis (Own vout712_) (wrS b27_ v1) := Dis.fresh h715_ (WrAt.in h702_)
            have d723_ : Dis (Own vout712_) (wrS b36_ v2) := Dis.fresh h715_ (WrAt.in h703_)
            have d724_ : Dis (Own vout712_) (wrS b48_ v4) := Dis.fresh h715_ (WrAt.in h704_)
            have d725_ : Dis (Own vout712_) (Own (.slice ao183_ l3.length cap184_)) := Dis.fresh h715_ (Row.in h705_)
            have d726_ : Dis (Own vout712_) (Own (.slice ao334_ l1.length cap335_)) := Dis.fresh h715_ (Row.in h706_)
            have d727_ : Dis (Own vout712_) (Own v396_) := Dis.fresh h715_ (Row.in h707_)
            have d728_ : Dis (Own vout712_) (Own (.slice ao390_ l2.length cap391_)) := Dis.fresh h715_ (Row.in h708_)
            have d729_ : Dis (Own vout712_) (Own (.slice ao449_ l4.length cap450_)) := Dis.fresh h715_ (Row.in h709_)
            have d730_ : Dis (Own vout712_) (Own (.slice ao502_ l1.length cap503_)) := Dis.fresh h715_ (Row.in h710_)
            have d731_ : Dis (Own vout712_) (rrS b525_ ao3 r3) := Dis.fresh h715_ (RrAt.in h711_)
            have T732_ := Fr.tr T699_ F717_
            have h733_ := ThingsAt.keep h700_ F717_ Dis.n0
            have h734_ := ThingsAt.keep h701_ F717_ Dis.n0
            have h735_ := WrAt.keep h702_ F717_ Dis.n0
            have h736_ := WrAt.keep h703_ F717_ Dis.n0
            have h737_ := WrAt.keep h704_ F717_ Dis.n0
            have h738_ := Row.keep h705_ F717_ Dis.n0
            have h739_ := Row.keep h706_ F717_ Dis.n0
            have h740_ := Row.keep h707_ F717_ Dis.n0
            have h741_ := Row.keep h708_ F717_ Dis.n0
            have h742_ := Row.keep h709_ F717_ Dis.n0
            have h743_ := Row.keep h710_ F717_ Dis.n0
            have h744_ := RrAt.keep h711_ F717_ Dis.n0
            have N746_ : New w N0 (Own vout712_) := New.later' h715_ (Fr.size T699_)
            obtain ⟨ao747_, cap748_, rfl, hc749_, hm750_, hR751_, ho752_⟩ := Row.read h713_
            refine ⟨_, rfl, ?_⟩
            refine at_pures 5 (by kernel_rfl) (by kernel_rfl) ?_
            refine at_as (.bool ((l2.length : Int) == (l2.length : Int))) (.bool true) (by kernel_rfl) (by kernel_rfl) (congrArg Value.bool (beq_self_eq_true _)) ?_
            refine at_pures 7 (by kernel_rfl) (by kernel_rfl) ?_
            refine at_done (by kernel_rfl) ?_
            refine then_n ?_
            refine c_ret (by kernel_rfl) ?_
            refine fin_ret (.bool true) (by kernel_rfl) (by kernel_rfl) ?_
            exact ⟨rfl, T732_⟩
end Go.Proofs.Ytboggbknebepdaa
