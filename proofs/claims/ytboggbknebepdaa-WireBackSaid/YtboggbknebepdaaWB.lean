/- The walk of WireBack. -/
import Derived.Test.YtboggbknebepdaaWL
import Derived.Test.YtboggbknebepdaaBack
namespace Go.Proofs.Ytboggbknebepdaa
open Go Go.RowKit Go.Alm
noncomputable def wireBack_c_R0 : Array Oper := rAt Try.prog 5 [0]
noncomputable def wireBack_c_R1 : Array Oper := rAt Try.prog 5 [1, 0, 0]
noncomputable def wireBack_c_R3 : Array Oper := rAt Try.prog 5 [1, 1, 0, 0]
noncomputable def wireBack_c_R4 : Array Oper := rAt Try.prog 5 [1, 1, 0, 1, 0, 0]
noncomputable def wireBack_c_R5 : Array Oper := rAt Try.prog 5 [1, 1, 1, 0]
noncomputable def wireBack_c_R6 : Array Oper := rAt Try.prog 5 [1, 1, 1, 1, 0, 0]
noncomputable def wireBack_c_R7 : Array Oper := rAt Try.prog 5 [1, 1, 1, 1, 0, 1, 0, 0, 0]
noncomputable def wireBack_c_R8 : Array Oper := rAt Try.prog 5 [1, 1, 1, 1, 0, 1, 0, 0, 1, 1, 0, 0, 0]
noncomputable def wireBack_c_R9 : Array Oper := rAt Try.prog 5 [1, 1, 1, 1, 0, 1, 0, 0, 1, 1, 0, 0, 1, 0]
noncomputable def wireBack_c_R10 : Array Oper := rAt Try.prog 5 [1, 1, 1, 1, 0, 1, 0, 0, 1, 1, 0, 0, 1, 1, 0, 0]
noncomputable def wireBack_c_R11 : Array Oper := rAt Try.prog 5 [1, 1, 1, 1, 0, 1, 0, 0, 1, 1, 1]
noncomputable def wireBack_c_R12 : Array Oper := rAt Try.prog 5 [1, 1, 1, 1, 1, 0]
noncomputable def wireBack_c_R13 : Array Oper := rAt Try.prog 5 [1, 1, 1, 1, 1, 1, 0]
noncomputable def wireBack_c_R14 : Array Oper := rAt Try.prog 5 [1, 1, 1, 1, 1, 1, 1, 0, 0]
noncomputable def wireBack_c_R15 : Array Oper := rAt Try.prog 5 [1, 1, 1, 1, 1, 1, 1, 0, 1, 0, 0, 0]
noncomputable def wireBack_c_R16 : Array Oper := rAt Try.prog 5 [1, 1, 1, 1, 1, 1, 1, 0, 1, 0, 0, 1, 1, 0, 0, 0]
noncomputable def wireBack_c_R17 : Array Oper := rAt Try.prog 5 [1, 1, 1, 1, 1, 1, 1, 0, 1, 0, 0, 1, 1, 0, 0, 1, 0]
noncomputable def wireBack_c_R19 : Array Oper := rAt Try.prog 5 [1, 1, 1, 1, 1, 1, 1, 0, 1, 0, 0, 1, 1, 1]
noncomputable def wireBack_c_R20 : Array Oper := rAt Try.prog 5 [1, 1, 1, 1, 1, 1, 1, 1, 0, 0]
noncomputable def wireBack_c_R22 : Array Oper := rAt Try.prog 5 [1, 1, 1, 1, 1, 1, 1, 1, 1, 0]
noncomputable def wireBack_c_R23 : Array Oper := rAt Try.prog 5 [1, 1, 1, 1, 1, 1, 1, 1, 1, 1, 0, 0]
noncomputable def wireBack_c_R24 : Array Oper := rAt Try.prog 5 [1, 1, 1, 1, 1, 1, 1, 1, 1, 1, 0, 1, 0, 0, 0]
noncomputable def wireBack_c_R25 : Array Oper := rAt Try.prog 5 [1, 1, 1, 1, 1, 1, 1, 1, 1, 1, 0, 1, 0, 0, 1, 1, 0, 0, 0]
noncomputable def wireBack_c_R26 : Array Oper := rAt Try.prog 5 [1, 1, 1, 1, 1, 1, 1, 1, 1, 1, 0, 1, 0, 0, 1, 1, 0, 0, 1]
noncomputable def wireBack_c_R27 : Array Oper := rAt Try.prog 5 [1, 1, 1, 1, 1, 1, 1, 1, 1, 1, 0, 1, 0, 0, 1, 1, 1]
noncomputable def wireBack_c_R28 : Array Oper := rAt Try.prog 5 [1, 1, 1, 1, 1, 1, 1, 1, 1, 1, 1, 0, 0]
noncomputable def wireBack_c_R30 : Array Oper := rAt Try.prog 5 [1, 1, 1, 1, 1, 1, 1, 1, 1, 1, 1, 1, 0, 0]
noncomputable def wireBack_c_R31 : Array Oper := rAt Try.prog 5 [1, 1, 1, 1, 1, 1, 1, 1, 1, 1, 1, 1, 0, 1, 0, 0]
noncomputable def wireBack_c_R32 : Array Oper := rAt Try.prog 5 [1, 1, 1, 1, 1, 1, 1, 1, 1, 1, 1, 1, 1, 0]
noncomputable def wireBack_c_R33 : Array Oper := rAt Try.prog 5 [1, 1, 1, 1, 1, 1, 1, 1, 1, 1, 1, 1, 1, 1, 0, 0]
noncomputable def wireBack_c_R34 : Array Oper := rAt Try.prog 5 [1, 1, 1, 1, 1, 1, 1, 1, 1, 1, 1, 1, 1, 1, 0, 1, 0, 0, 0]
noncomputable def wireBack_c_R35 : Array Oper := rAt Try.prog 5 [1, 1, 1, 1, 1, 1, 1, 1, 1, 1, 1, 1, 1, 1, 0, 1, 0, 0, 1, 1, 0, 0, 0]
noncomputable def wireBack_c_R36 : Array Oper := rAt Try.prog 5 [1, 1, 1, 1, 1, 1, 1, 1, 1, 1, 1, 1, 1, 1, 0, 1, 0, 0, 1, 1, 0, 0, 1]
noncomputable def wireBack_c_R37 : Array Oper := rAt Try.prog 5 [1, 1, 1, 1, 1, 1, 1, 1, 1, 1, 1, 1, 1, 1, 0, 1, 0, 0, 1, 1, 1]
noncomputable def wireBack_c_R38 : Array Oper := rAt Try.prog 5 [1, 1, 1, 1, 1, 1, 1, 1, 1, 1, 1, 1, 1, 1, 1, 0]
set_option maxRecDepth 100000 in
set_option maxHeartbeats 1000000 in
theorem wireBack_c (N : Nat) (ao : Option Addr) (cap : Nat) (ts : List Thing) (cut : Int) (w : World) (h_ts : ThingsAt N w ao ts) (hn : ts.length ≤ 9223372036854775807) :
    Calls Try.prog 5 #[(.slice ao ts.length cap), (.int .i64 cut)] w fun e w' => e = .returned (.bool true) ∧ Fr w w' N0 := by
  refine c_enter (mk 112 [(0, (.slice ao ts.length cap)), (1, (.int .i64 cut))] (fun _ => undef)) Try.func5 (by kernel_rfl) (by kernel_rfl) ?_
  refine c_seq [0] [1] (by kernel_rfl) ?_
  refine c_reg 0 wireBack_c_R0 (by kernel_rfl) ?_
  refine at_pures 1 (by kernel_rfl) (by kernel_rfl) ?_
  refine at_done (by kernel_rfl) ?_
  refine then_n ?_
  refine c_seq [1, 0] [1, 1] (by kernel_rfl) ?_
  refine c_seq [1, 0, 0] [1, 0, 1] (by kernel_rfl) ?_
  refine c_reg 1 wireBack_c_R1 (by kernel_rfl) ?_
  refine at_do (by kernel_rfl) (op_call 7 #[] #[] (by kernel_rfl) (by kernel_rfl) (by kernel_rfl) ?_)
  have C5_ := awake_c  w   
  refine Calls.mono C5_ ?_
  rintro e4_ w2_ ⟨rfl, F3_⟩
  have T6_ := Fr.tr (Fr.refl w N0) F3_
  have h7_ := ThingsAt.keep h_ts F3_ Dis.n0
  refine ⟨_, rfl, ?_⟩
  refine at_pures 2 (by kernel_rfl) (by kernel_rfl) ?_
  refine at_done (by kernel_rfl) ?_
  refine then_n ?_
  refine c_else (.tmp 19) [1, 0, 1, 0] [1, 0, 1, 1] (by kernel_rfl) (by kernel_rfl) ?_
  refine c_skip (by kernel_rfl) ?_
  refine then_n ?_
  refine c_seq [1, 1, 0] [1, 1, 1] (by kernel_rfl) ?_
  refine c_seq [1, 1, 0, 0] [1, 1, 0, 1] (by kernel_rfl) ?_
  refine c_reg 3 wireBack_c_R3 (by kernel_rfl) ?_
  refine at_pures 1 (by kernel_rfl) (by kernel_rfl) ?_
  refine at_do (by kernel_rfl) (op_call 8 #[(.tmp 20)] #[(.slice ao ts.length cap)] (by kernel_rfl) (by kernel_rfl) (by kernel_rfl) ?_)
  have C12_ := large_c N ao cap ts w2_ h7_  (by first | omega | with_reducible assumption | (simp only [List.length_append, List.length_cons, List.length_nil, putB_length]; omega) | decide)
  refine Calls.mono C12_ ?_
  rintro e11_ w9_ ⟨rfl, F10_⟩
  have T13_ := Fr.tr T6_ F10_
  have h14_ := ThingsAt.keep h7_ F10_ Dis.n0
  refine ⟨_, rfl, ?_⟩
  refine at_done (by kernel_rfl) ?_
  refine then_n ?_
  refine c_if (.tmp 21) (largeT ts) [1, 1, 0, 1, 0] [1, 1, 0, 1, 1] (by kernel_rfl) (by kernel_rfl) (fun c15_ => ?_) (fun c15_ => ?_)
  · -- yes
    refine c_seq [1, 1, 0, 1, 0, 0] [1, 1, 0, 1, 0, 1] (by kernel_rfl) ?_
    refine c_reg 4 wireBack_c_R4 (by kernel_rfl) ?_
    refine at_pures 1 (by kernel_rfl) (by kernel_rfl) ?_
    refine at_done (by kernel_rfl) ?_
    refine then_n ?_
    refine c_ret (by kernel_rfl) ?_
    refine then_r ?_
    refine fin_ret (.bool true) (by kernel_rfl) (by kernel_rfl) ?_
    exact ⟨rfl, T13_⟩
  · -- no
    refine c_skip (by kernel_rfl) ?_
    refine then_n ?_
    refine c_seq [1, 1, 1, 0] [1, 1, 1, 1] (by kernel_rfl) ?_
    refine c_reg 5 wireBack_c_R5 (by kernel_rfl) ?_
    refine at_pures 1 (by kernel_rfl) (by kernel_rfl) ?_
    refine at_do (by kernel_rfl) (op_new (.cells #[(.slice none 0 0)] 28) (fun N => (.pointer (some ⟨N, 0, none⟩))) (fun _ => by kernel_rfl) (fun w17_ b16_ h18_ q19_ F20_ => ?_))
    have d21_ : Dis (One b16_) (Old N) := Dis.fresh (New.one q19_) (ThingsAt.in h14_)
    have N22_ : New w N0 (One b16_) := New.made q19_ (Fr.size T13_)
    have T23_ := Fr.tr T13_ F20_
    refine at_pures 3 (by kernel_rfl) (by kernel_rfl) ?_
    refine at_done (by kernel_rfl) ?_
    refine then_n ?_
    refine c_seq [1, 1, 1, 1, 0] [1, 1, 1, 1, 1] (by kernel_rfl) ?_
    refine c_seq [1, 1, 1, 1, 0, 0] [1, 1, 1, 1, 0, 1] (by kernel_rfl) ?_
    refine c_reg 6 wireBack_c_R6 (by kernel_rfl) ?_
    refine at_pures 3 (by kernel_rfl) (by kernel_rfl) ?_
    refine at_done (by kernel_rfl) ?_
    refine then_n ?_
    refine c_block 0 [1, 1, 1, 1, 0, 1, 0] (by kernel_rfl) ?_
    have h24_ := ThingsAt.keep h14_ F20_ Dis.n0
    have h25_ : WrAt 5 28 w17_ b16_ (.slice none 0 0) [] := WrAt.nil h18_
    have hlg := largeT_spec (ts := ts) (by assumption)
    refine c_loop (fun a w' => ∃ (k : Nat), ∃ (vw : Value), ∃ (lw : List Nat), (∃ u, a = mk 112 [(0, (.slice ao ts.length cap)), (1, (.int .i64 cut)), (5, (.pointer (some ⟨b16_, 0, none⟩))), (18, (.bool true)), (19, (.bool false)), (20, (.slice ao ts.length cap)), (21, (.bool (largeT ts))), (22, (.agg #[(.slice none 0 0)])), (23, (.pointer (some ⟨b16_, 0, none⟩))), (24, (.slice ao ts.length cap)), (25, (.int .i64 (ts.length : Int))), (26, (.int .i64 (k : Int)))] u) ∧ (k ≤ ts.length) ∧ (∀ y ∈ ts.take k, y.okW = true) ∧ (lw = writeT (ts.take k)) ∧ (ThingsAt N w' ao ts) ∧ (WrAt 5 28 w' b16_ vw lw) ∧ (Dis (Old N) (wrS b16_ vw)) ∧ (New w N0 (wrS b16_ vw)) ∧ (Fr w w' N0)) (fun a _ => cnt (ts.length) 26 a) [1, 1, 1, 1, 0, 1, 0, 0] (by kernel_rfl) ⟨0, _, _, is_mk (by kernel_rfl) (by kernel_rfl) (by kernel_rfl), ⟨Nat.zero_le _, (by simp), rfl, h24_, h25_, (Dis.sym (Dis.wrNil d21_)), (New.wrNil N22_), T23_⟩⟩ ?_
    rintro a27_ w28_ ⟨k, vw, lw, ⟨u29_, rfl⟩, ⟨hk, hO, hl, q_0L26_, q_1L26_, d_0_1L26_, n_1L26_, hFrL26_⟩⟩
    have hWL : lw.length ≤ 25600 := by have h := writeT_len (ts := ts.take k) (fun y hy => h_ts.ok y (List.mem_of_mem_take hy)); have : (ts.take k).length ≤ ts.length := (by rw [List.length_take]; omega); rw [hl]; omega
    refine c_seq [1, 1, 1, 1, 0, 1, 0, 0, 0] [1, 1, 1, 1, 0, 1, 0, 0, 1] (by kernel_rfl) ?_
    refine c_reg 7 wireBack_c_R7 (by kernel_rfl) ?_
    refine at_pures 1 (by kernel_rfl) (by kernel_rfl) ?_
    refine at_done (by kernel_rfl) ?_
    refine then_n ?_
    refine c_seq [1, 1, 1, 1, 0, 1, 0, 0, 1, 0] [1, 1, 1, 1, 0, 1, 0, 0, 1, 1] (by kernel_rfl) ?_
    refine c_if (.tmp 27) (decide ((k : Int) < (ts.length : Int))) [1, 1, 1, 1, 0, 1, 0, 0, 1, 0, 0] [1, 1, 1, 1, 0, 1, 0, 0, 1, 0, 1] (by kernel_rfl) (by kernel_rfl) (fun c30_ => ?_) (fun c30_ => ?_)
    · -- yes
      replace c30_ : (k : Int) < (ts.length : Int) := of_decide_eq_true c30_
      refine c_skip (by kernel_rfl) ?_
      refine then_n ?_
      refine c_seq [1, 1, 1, 1, 0, 1, 0, 0, 1, 1, 0] [1, 1, 1, 1, 0, 1, 0, 0, 1, 1, 1] (by kernel_rfl) ?_
      refine c_block 1 [1, 1, 1, 1, 0, 1, 0, 0, 1, 1, 0, 0] (by kernel_rfl) ?_
      refine c_seq [1, 1, 1, 1, 0, 1, 0, 0, 1, 1, 0, 0, 0] [1, 1, 1, 1, 0, 1, 0, 0, 1, 1, 0, 0, 1] (by kernel_rfl) ?_
      refine c_reg 8 wireBack_c_R8 (by kernel_rfl) ?_
      obtain ⟨x, hx_x⟩ : ∃ x, ts[k]? = some x := ⟨_, List.getElem?_eq_getElem (by omega)⟩
      have hm_x := List.mem_of_getElem? hx_x; have ho_x := ThingsAt.ok q_0L26_ x hm_x; have hi_x := ThingsAt.in2 q_0L26_ x hm_x; have hn_x := ho_x.n
      have hXW := Thing.w_len ho_x; have hxh := ho_x.h; have hxb := hlg.2 x hm_x
      obtain ⟨ad31_, ha32_⟩ := (ThingsAt.rd q_0L26_).has (k * 36) (by rw [cellsT_length]; omega)
      refine at_run (.pointer (some (ad31_.add (k * 36)))) _ (by kernel_rfl) (run_idx_o 22 (.tmp 24) (.tmp 26) 36 ao ad31_ ts.length cap .i64 k (by kernel_rfl) (by kernel_rfl) (by kernel_rfl) (by kernel_rfl) (by kernel_rfl) ha32_ (by omega)) ?_
      refine at_run (.agg (Thing.cells x)) _ (by kernel_rfl) (run_loadEn 33 (.tmp 28) ao ad31_ (k * 36) 36 (cellsT ts) (Thing.cells x) (by kernel_rfl) (by kernel_rfl) (by kernel_rfl) (by kernel_rfl) ha32_ (ThingsAt.rd q_0L26_) (by kernel_rfl) (cellsT_get ts k x hx_x)) ?_
      refine at_do (by kernel_rfl) (op_new (.cells #[(.int .i64 0), (.int .u64 0), (.int .u8 0), (.int .u8 0), (.int .u8 0), (.int .u8 0), (.int .u8 0), (.int .u8 0), (.int .u8 0), (.int .u8 0), (.int .u8 0), (.int .u8 0), (.int .u8 0), (.int .u8 0), (.int .u8 0), (.int .u8 0), (.int .u8 0), (.int .u8 0), (.int .u8 0), (.int .u8 0), (.int .u8 0), (.int .u8 0), (.int .u8 0), (.int .u8 0), (.int .u8 0), (.int .u8 0), (.int .u8 0), (.int .u8 0), (.int .u8 0), (.int .u8 0), (.int .u8 0), (.int .u8 0), (.int .u8 0), (.int .u8 0), (.slice none 0 0), (.int .i64 0)] 33) (fun N => (.pointer (some ⟨N, 0, none⟩))) (fun _ => by kernel_rfl) (fun w34_ b33_ h35_ q36_ F37_ => ?_))
      have d38_ : Dis (One b33_) (Old N) := Dis.fresh (New.one q36_) (ThingsAt.in q_0L26_)
      have d39_ : Dis (One b33_) (wrS b16_ vw) := Dis.fresh (New.one q36_) (WrAt.in q_1L26_)
      have d40_ : Dis (One b33_) (Ar x.ao (B x.b)) := Dis.fresh (New.one q36_) (Rd.in (ThingsAt.rdb q_0L26_ x hm_x))
      have N41_ : New w N0 (One b33_) := New.made q36_ (Fr.size hFrL26_)
      have T42_ := Fr.tr hFrL26_ F37_
      have h43_ := ThingsAt.keep q_0L26_ F37_ Dis.n0
      have h44_ := WrAt.keep q_1L26_ F37_ Dis.n0
      have h45_ := Rd.keep' (ThingsAt.rdb q_0L26_ x hm_x) F37_ Dis.n0
      refine at_do (by kernel_rfl) (op_store 33 (.tmp 7) (.tmp 29) b33_ 0 (.agg (Thing.cells x)) _ _ (Thing.cells x) (by kernel_rfl) (by kernel_rfl) (by kernel_rfl) h35_ (by kernel_rfl) (by kernel_rfl) (by kernel_rfl) (by kernel_rfl) (fun w46_ h47_ z48_ F49_ => ?_))
      have T50_ := Fr.then T42_ F49_ N41_
      have h51_ := ThingsAt.keep h43_ F49_ (Dis.sym d38_)
      have h52_ := WrAt.keep h44_ F49_ (Dis.sym d39_)
      have h53_ := Rd.keep' h45_ F49_ (Dis.sym d40_)
      refine at_done (by kernel_rfl) ?_
      refine then_n ?_
      refine c_seq [1, 1, 1, 1, 0, 1, 0, 0, 1, 1, 0, 0, 1, 0] [1, 1, 1, 1, 0, 1, 0, 0, 1, 1, 0, 0, 1, 1] (by kernel_rfl) ?_
      refine c_reg 9 wireBack_c_R9 (by kernel_rfl) ?_
      refine at_pures 1 (by kernel_rfl) (by kernel_rfl) ?_
      refine at_loadN 33 (.tmp 7) b33_ 0 36 _ _ _ (Thing.cells x) (by kernel_rfl) (by kernel_rfl) (by kernel_rfl) (by kernel_rfl) (by kernel_rfl) h47_ (by kernel_rfl) (by kernel_rfl) ?_
      refine at_do (by kernel_rfl) (op_call 9 #[(.tmp 30), (.tmp 31)] #[(.pointer (some ⟨b16_, 0, none⟩)), (.agg (Thing.cells x))] (by kernel_rfl) (by kernel_rfl) (by kernel_rfl) ?_)
      have C61_ := write_c b16_ vw lw x w46_ h53_ h52_ (Dis.sym (Sub.dis hi_x d_0_1L26_)) (by first | omega | with_reducible assumption | (simp only [List.length_append, List.length_cons, List.length_nil, putB_length]; omega) | decide) (by first | omega | with_reducible assumption | (simp only [List.length_append, List.length_cons, List.length_nil, putB_length]; omega) | decide) (by first | omega | with_reducible assumption | (simp only [List.length_append, List.length_cons, List.length_nil, putB_length]; omega) | decide)
      refine Calls.mono C61_ ?_
      rintro e60_ w58_ ⟨vwr54_, rfl, h55_, F59_, h57_⟩
      have T62_ := Fr.then T50_ F59_ n_1L26_
      have d63_ : Dis (wrS b16_ vwr54_) (Old N) := Dis.step (Dis.sym d_0_1L26_) h57_ (ThingsAt.in h51_)
      have h64_ := ThingsAt.keep h51_ F59_ d_0_1L26_
      have d65_ : Dis (wrS b16_ vwr54_) (Ar x.ao (B x.b)) := Dis.step (Dis.sym (Sub.dis hi_x d_0_1L26_)) h57_ (Rd.in h53_)
      have h66_ := Rd.keep' h53_ F59_ (Sub.dis hi_x d_0_1L26_)
      have d67_ : Dis (wrS b16_ vwr54_) (One b33_) := Dis.step (Dis.sym d39_) h57_ (In.one h47_)
      have h68_ := Fr.keep F59_ h47_ d39_
      have N69_ : New w N0 (wrS b16_ vwr54_) := New.trans n_1L26_ h57_ (Fr.size T50_)
      refine ⟨_, rfl, ?_⟩
      refine at_pures 4 (by kernel_rfl) (by kernel_rfl) ?_
      refine at_done (by kernel_rfl) ?_
      refine then_n ?_
      refine c_if (.tmp 33) (!x.okW) [1, 1, 1, 1, 0, 1, 0, 0, 1, 1, 0, 0, 1, 1, 0] [1, 1, 1, 1, 0, 1, 0, 0, 1, 1, 0, 0, 1, 1, 1] (by kernel_rfl) (by kernel_rfl) (fun c70_ => ?_) (fun c70_ => ?_)
      · -- yes
        replace c70_ : x.okW = false := by simpa using c70_
        refine c_seq [1, 1, 1, 1, 0, 1, 0, 0, 1, 1, 0, 0, 1, 1, 0, 0] [1, 1, 1, 1, 0, 1, 0, 0, 1, 1, 0, 0, 1, 1, 0, 1] (by kernel_rfl) ?_
        refine c_reg 10 wireBack_c_R10 (by kernel_rfl) ?_
        refine at_pures 1 (by kernel_rfl) (by kernel_rfl) ?_
        refine at_done (by kernel_rfl) ?_
        refine then_n ?_
        refine c_ret (by kernel_rfl) ?_
        refine blk_r ?_
        refine then_r ?_
        refine then_r ?_
        refine blk_r ?_
        refine then_r ?_
        refine fin_ret (.bool true) (by kernel_rfl) (by kernel_rfl) ?_
        exact ⟨rfl, T62_⟩
      · -- no
        replace c70_ : x.okW = true := by simpa using c70_
        refine c_skip (by kernel_rfl) ?_
        refine blk_n ?_
        refine then_n ?_
        refine c_reg 11 wireBack_c_R11 (by kernel_rfl) ?_
        refine at_int (kd := .i64) (IntKind.i64.wrap ((k : Int) + (1 : Int))) ((k : Int) + (1 : Int)) (by kernel_rfl) (by kernel_rfl) (wrapN_i64 (by omega) (by omega)) ?_
        refine at_pures 2 (by kernel_rfl) (by kernel_rfl) ?_
        refine at_done (by kernel_rfl) ?_
        refine then_n ?_
        exact ⟨⟨k + 1, vwr54_, lw ++ x.w, is_mk (by kernel_rfl) (by kernel_rfl) (by kernel_rfl), ⟨(by omega), upto_step (p := fun y => y.okW = true) hO hx_x (by assumption), (by rw [hl, writeT_snoc hx_x]), h64_, h55_, (Dis.sym d63_), N69_, T62_⟩⟩, cnt_lt (k := (k : Int)) (k' := ((k : Int) + (1 : Int))) (by kernel_rfl) (by kernel_rfl) (by omega) (by omega)⟩
    · -- no
      replace c30_ : ¬ ((k : Int) < (ts.length : Int)) := of_decide_eq_false c30_
      refine c_exit 0 (by kernel_rfl) ?_
      refine then_e ?_
      refine then_e ?_
      refine blk_hit ?_
      refine then_n ?_
      refine c_seq [1, 1, 1, 1, 1, 0] [1, 1, 1, 1, 1, 1] (by kernel_rfl) ?_
      refine c_reg 12 wireBack_c_R12 (by kernel_rfl) ?_
      refine at_pures 1 (by kernel_rfl) (by kernel_rfl) ?_
      refine at_do (by kernel_rfl) (op_call 13 #[(.tmp 35)] #[(.pointer (some ⟨b16_, 0, none⟩))] (by kernel_rfl) (by kernel_rfl) (by kernel_rfl) ?_)
      have C78_ := bytes_c b16_ vw lw w28_ q_1L26_  (by first | omega | with_reducible assumption | (simp only [List.length_append, List.length_cons, List.length_nil, putB_length]; omega) | decide)
      refine Calls.mono C78_ ?_
      rintro e77_ w75_ ⟨vout71_, rfl, h72_, F76_, h74_⟩
      have d79_ : Dis (Own vout71_) (Old N) := Dis.fresh h74_ (ThingsAt.in q_0L26_)
      have d80_ : Dis (Own vout71_) (wrS b16_ vw) := Dis.fresh h74_ (WrAt.in q_1L26_)
      have T81_ := Fr.tr hFrL26_ F76_
      have h82_ := ThingsAt.keep q_0L26_ F76_ Dis.n0
      have h83_ := WrAt.keep q_1L26_ F76_ Dis.n0
      have N85_ : New w N0 (Own vout71_) := New.later' h74_ (Fr.size hFrL26_)
      obtain ⟨ao86_, cap87_, rfl, hc88_, hm89_, hR90_, ho91_⟩ := Row.read h72_
      refine ⟨_, rfl, ?_⟩
      refine at_pures 3 (by kernel_rfl) (by kernel_rfl) ?_
      refine at_done (by kernel_rfl) ?_
      refine then_n ?_
      refine c_seq [1, 1, 1, 1, 1, 1, 0] [1, 1, 1, 1, 1, 1, 1] (by kernel_rfl) ?_
      refine c_reg 13 wireBack_c_R13 (by kernel_rfl) ?_
      refine at_pures 1 (by kernel_rfl) (by kernel_rfl) ?_
      refine at_do (by kernel_rfl) (op_call 14 #[(.tmp 37)] #[(.slice ao86_ lw.length cap87_)] (by kernel_rfl) (by kernel_rfl) (by kernel_rfl) ?_)
      have C101_ := rnew_c (.slice ao86_ lw.length cap87_) lw w75_ (Row.sl h72_)  (by first | omega | with_reducible assumption | (simp only [List.length_append, List.length_cons, List.length_nil, putB_length]; omega) | decide)
      refine Calls.mono C101_ ?_
      rintro e100_ w98_ ⟨b92_, aorr93_, caprr94_, rfl, h95_, F99_, h97_⟩
      have d102_ : Dis (rrS b92_ aorr93_ (Rs.mk 0 lw)) (Old N) := Dis.fresh h97_ (ThingsAt.in h82_)
      have d103_ : Dis (rrS b92_ aorr93_ (Rs.mk 0 lw)) (wrS b16_ vw) := Dis.fresh h97_ (WrAt.in h83_)
      have d104_ : Dis (rrS b92_ aorr93_ (Rs.mk 0 lw)) (Own (.slice ao86_ lw.length cap87_)) := Dis.fresh h97_ (Row.in h72_)
      have T105_ := Fr.tr T81_ F99_
      have h106_ := ThingsAt.keep h82_ F99_ Dis.n0
      have h107_ := WrAt.keep h83_ F99_ Dis.n0
      have h108_ := Row.keep h72_ F99_ Dis.n0
      have N110_ : New w N0 (rrS b92_ aorr93_ (Rs.mk 0 lw)) := New.later' h97_ (Fr.size T81_)
      refine ⟨_, rfl, ?_⟩
      refine at_pures 3 (by kernel_rfl) (by kernel_rfl) ?_
      refine at_done (by kernel_rfl) ?_
      refine then_n ?_
      refine c_seq [1, 1, 1, 1, 1, 1, 1, 0] [1, 1, 1, 1, 1, 1, 1, 1] (by kernel_rfl) ?_
      refine c_seq [1, 1, 1, 1, 1, 1, 1, 0, 0] [1, 1, 1, 1, 1, 1, 1, 0, 1] (by kernel_rfl) ?_
      refine c_reg 14 wireBack_c_R14 (by kernel_rfl) ?_
      refine at_pures 3 (by kernel_rfl) (by kernel_rfl) ?_
      refine at_done (by kernel_rfl) ?_
      refine then_n ?_
      refine c_block 2 [1, 1, 1, 1, 1, 1, 1, 0, 1, 0] (by kernel_rfl) ?_
      have hlw : lw = writeT ts := by rw [hl, (List.take_of_length_le (l := ts) (i := k) (by omega))]
      have hOK : ∀ y ∈ ts, y.okW = true := by rw [(List.take_of_length_le (l := ts) (i := k) (by omega))] at hO; exact hO
      refine c_loop (fun a w' => ∃ (k2 : Nat), ∃ (ao2 : Option Addr), ∃ (cap2 : Nat), ∃ (r2 : Rs), (∃ u, a = mk 112 [(0, (.slice ao ts.length cap)), (1, (.int .i64 cut)), (5, (.pointer (some ⟨b16_, 0, none⟩))), (8, (.slice ao86_ lw.length cap87_)), (9, (.pointer (some ⟨b92_, 0, none⟩))), (18, (.bool true)), (19, (.bool false)), (20, (.slice ao ts.length cap)), (21, (.bool (largeT ts))), (22, (.agg #[(.slice none 0 0)])), (23, (.pointer (some ⟨b16_, 0, none⟩))), (24, (.slice ao ts.length cap)), (25, (.int .i64 (ts.length : Int))), (26, (.int .i64 (k : Int))), (27, (.bool (decide ((k : Int) < (ts.length : Int))))), (35, (.pointer (some ⟨b16_, 0, none⟩))), (36, (.slice ao86_ lw.length cap87_)), (37, (.slice ao86_ lw.length cap87_)), (38, (.pointer (some ⟨b92_, 0, none⟩))), (39, (.slice ao ts.length cap)), (40, (.int .i64 (ts.length : Int))), (41, (.int .i64 (k2 : Int)))] u) ∧ (k2 ≤ ts.length) ∧ (r2 = ⟨0, writeT (ts.drop k2)⟩) ∧ (ThingsAt N w' ao ts) ∧ (WrAt 5 28 w' b16_ vw lw) ∧ (Row w' 5 1 (.slice ao86_ lw.length cap87_) (lw.length) (B lw)) ∧ (RrAt 67 w' b92_ ao2 cap2 r2) ∧ (Dis (Old N) (rrS b92_ ao2 r2)) ∧ (Dis (wrS b16_ vw) (rrS b92_ ao2 r2)) ∧ (Dis (Own (.slice ao86_ lw.length cap87_)) (rrS b92_ ao2 r2)) ∧ (New w N0 (rrS b92_ ao2 r2)) ∧ (Fr w w' N0)) (fun a _ => cnt (ts.length) 41 a) [1, 1, 1, 1, 1, 1, 1, 0, 1, 0, 0] (by kernel_rfl) ⟨0, _, _, _, is_mk (by kernel_rfl) (by kernel_rfl) (by kernel_rfl), ⟨Nat.zero_le _, (by rw [hlw]; rfl), h106_, h107_, h108_, h95_, (Dis.sym d102_), (Dis.sym d103_), (Dis.sym d104_), N110_, T105_⟩⟩ ?_
      rintro a112_ w113_ ⟨k2, ao2, cap2, r2, ⟨u114_, rfl⟩, ⟨hk2, hr2, q_0L111_, q_1L111_, q_2L111_, q_3L111_, d_0_3L111_, d_1_3L111_, d_2_3L111_, n_3L111_, hFrL111_⟩⟩
      have hRB2 : Byt r2.l := by rw [hr2]; exact writeT_byt (fun y hy => h_ts.ok y (List.mem_of_mem_drop hy))
      have hRL2 : r2.l.length ≤ 30000 := by rw [hr2]; have h := writeT_len (ts := ts.drop k2) (fun y hy => h_ts.ok y (List.mem_of_mem_drop hy)); have : (ts.drop k2).length ≤ ts.length := (by rw [List.length_drop]; omega); show (writeT _).length ≤ 30000; omega
      refine c_seq [1, 1, 1, 1, 1, 1, 1, 0, 1, 0, 0, 0] [1, 1, 1, 1, 1, 1, 1, 0, 1, 0, 0, 1] (by kernel_rfl) ?_
      refine c_reg 15 wireBack_c_R15 (by kernel_rfl) ?_
      refine at_pures 1 (by kernel_rfl) (by kernel_rfl) ?_
      refine at_done (by kernel_rfl) ?_
      refine then_n ?_
      refine c_seq [1, 1, 1, 1, 1, 1, 1, 0, 1, 0, 0, 1, 0] [1, 1, 1, 1, 1, 1, 1, 0, 1, 0, 0, 1, 1] (by kernel_rfl) ?_
      refine c_if (.tmp 42) (decide ((k2 : Int) < (ts.length : Int))) [1, 1, 1, 1, 1, 1, 1, 0, 1, 0, 0, 1, 0, 0] [1, 1, 1, 1, 1, 1, 1, 0, 1, 0, 0, 1, 0, 1] (by kernel_rfl) (by kernel_rfl) (fun c115_ => ?_) (fun c115_ => ?_)
      · -- yes
        replace c115_ : (k2 : Int) < (ts.length : Int) := of_decide_eq_true c115_
        refine c_skip (by kernel_rfl) ?_
        refine then_n ?_
        refine c_seq [1, 1, 1, 1, 1, 1, 1, 0, 1, 0, 0, 1, 1, 0] [1, 1, 1, 1, 1, 1, 1, 0, 1, 0, 0, 1, 1, 1] (by kernel_rfl) ?_
        refine c_block 3 [1, 1, 1, 1, 1, 1, 1, 0, 1, 0, 0, 1, 1, 0, 0] (by kernel_rfl) ?_
        refine c_seq [1, 1, 1, 1, 1, 1, 1, 0, 1, 0, 0, 1, 1, 0, 0, 0] [1, 1, 1, 1, 1, 1, 1, 0, 1, 0, 0, 1, 1, 0, 0, 1] (by kernel_rfl) ?_
        refine c_reg 16 wireBack_c_R16 (by kernel_rfl) ?_
        obtain ⟨x2, hx_x2⟩ : ∃ x, ts[k2]? = some x := ⟨_, List.getElem?_eq_getElem (by omega)⟩
        have hm_x2 := List.mem_of_getElem? hx_x2; have ho_x2 := ThingsAt.ok q_0L111_ x2 hm_x2; have hi_x2 := ThingsAt.in2 q_0L111_ x2 hm_x2; have hn_x2 := ho_x2.n
        have hxh2 := ho_x2.h; have hxb2 := hlg.2 x2 hm_x2
        have hq2 : x2.r r2 = ⟨0, writeT (ts.drop (k2 + 1))⟩ ∧ x2.okR r2 = true := by rw [hr2, writeT_drop hx_x2]; exact Thing.back ho_x2 (hOK x2 hm_x2) _
        obtain ⟨ad116_, ha117_⟩ := (ThingsAt.rd q_0L111_).has (k2 * 36) (by rw [cellsT_length]; omega)
        refine at_run (.pointer (some (ad116_.add (k2 * 36)))) _ (by kernel_rfl) (run_idx_o 22 (.tmp 39) (.tmp 41) 36 ao ad116_ ts.length cap .i64 k2 (by kernel_rfl) (by kernel_rfl) (by kernel_rfl) (by kernel_rfl) (by kernel_rfl) ha117_ (by omega)) ?_
        refine at_run (.agg (Thing.cells x2)) _ (by kernel_rfl) (run_loadEn 33 (.tmp 43) ao ad116_ (k2 * 36) 36 (cellsT ts) (Thing.cells x2) (by kernel_rfl) (by kernel_rfl) (by kernel_rfl) (by kernel_rfl) ha117_ (ThingsAt.rd q_0L111_) (by kernel_rfl) (cellsT_get ts k2 x2 hx_x2)) ?_
        refine at_do (by kernel_rfl) (op_new (.cells #[(.int .i64 0), (.int .u64 0), (.int .u8 0), (.int .u8 0), (.int .u8 0), (.int .u8 0), (.int .u8 0), (.int .u8 0), (.int .u8 0), (.int .u8 0), (.int .u8 0), (.int .u8 0), (.int .u8 0), (.int .u8 0), (.int .u8 0), (.int .u8 0), (.int .u8 0), (.int .u8 0), (.int .u8 0), (.int .u8 0), (.int .u8 0), (.int .u8 0), (.int .u8 0), (.int .u8 0), (.int .u8 0), (.int .u8 0), (.int .u8 0), (.int .u8 0), (.int .u8 0), (.int .u8 0), (.int .u8 0), (.int .u8 0), (.int .u8 0), (.int .u8 0), (.slice none 0 0), (.int .i64 0)] 33) (fun N => (.pointer (some ⟨N, 0, none⟩))) (fun _ => by kernel_rfl) (fun w119_ b118_ h120_ q121_ F122_ => ?_))
        have d123_ : Dis (One b118_) (Old N) := Dis.fresh (New.one q121_) (ThingsAt.in q_0L111_)
        have d124_ : Dis (One b118_) (wrS b16_ vw) := Dis.fresh (New.one q121_) (WrAt.in q_1L111_)
        have d125_ : Dis (One b118_) (Own (.slice ao86_ lw.length cap87_)) := Dis.fresh (New.one q121_) (Row.in q_2L111_)
        have d126_ : Dis (One b118_) (rrS b92_ ao2 r2) := Dis.fresh (New.one q121_) (RrAt.in q_3L111_)
        have d127_ : Dis (One b118_) (Ar x2.ao (B x2.b)) := Dis.fresh (New.one q121_) (Rd.in (ThingsAt.rdb q_0L111_ x2 hm_x2))
        have N128_ : New w N0 (One b118_) := New.made q121_ (Fr.size hFrL111_)
        have T129_ := Fr.tr hFrL111_ F122_
        have h130_ := ThingsAt.keep q_0L111_ F122_ Dis.n0
        have h131_ := WrAt.keep q_1L111_ F122_ Dis.n0
        have h132_ := Row.keep q_2L111_ F122_ Dis.n0
        have h133_ := RrAt.keep q_3L111_ F122_ Dis.n0
        have h134_ := Rd.keep' (ThingsAt.rdb q_0L111_ x2 hm_x2) F122_ Dis.n0
        refine at_do (by kernel_rfl) (op_store 33 (.tmp 11) (.tmp 44) b118_ 0 (.agg (Thing.cells x2)) _ _ (Thing.cells x2) (by kernel_rfl) (by kernel_rfl) (by kernel_rfl) h120_ (by kernel_rfl) (by kernel_rfl) (by kernel_rfl) (by kernel_rfl) (fun w135_ h136_ z137_ F138_ => ?_))
        have T139_ := Fr.then T129_ F138_ N128_
        have h140_ := ThingsAt.keep h130_ F138_ (Dis.sym d123_)
        have h141_ := WrAt.keep h131_ F138_ (Dis.sym d124_)
        have h142_ := Row.keep h132_ F138_ (Dis.sym d125_)
        have h143_ := RrAt.keep h133_ F138_ (Dis.sym d126_)
        have h144_ := Rd.keep' h134_ F138_ (Dis.sym d127_)
        refine at_done (by kernel_rfl) ?_
        refine then_n ?_
        refine c_seq [1, 1, 1, 1, 1, 1, 1, 0, 1, 0, 0, 1, 1, 0, 0, 1, 0] [1, 1, 1, 1, 1, 1, 1, 0, 1, 0, 0, 1, 1, 0, 0, 1, 1] (by kernel_rfl) ?_
        refine c_reg 17 wireBack_c_R17 (by kernel_rfl) ?_
        refine at_pures 1 (by kernel_rfl) (by kernel_rfl) ?_
        refine at_loadN 33 (.tmp 11) b118_ 0 36 _ _ _ (Thing.cells x2) (by kernel_rfl) (by kernel_rfl) (by kernel_rfl) (by kernel_rfl) (by kernel_rfl) h136_ (by kernel_rfl) (by kernel_rfl) ?_
        refine at_do (by kernel_rfl) (op_call 27 #[(.tmp 45), (.tmp 46)] #[(.pointer (some ⟨b92_, 0, none⟩)), (.agg (Thing.cells x2))] (by kernel_rfl) (by kernel_rfl) (by kernel_rfl) ?_)
        have C153_ := read_c b92_ ao2 cap2 r2 x2 w135_ h144_ h143_ (Dis.sym (Sub.dis hi_x2 d_0_3L111_)) (by first | omega | with_reducible assumption | (simp only [List.length_append, List.length_cons, List.length_nil, putB_length]; omega) | decide) (by first | omega | with_reducible assumption | (simp only [List.length_append, List.length_cons, List.length_nil, putB_length]; omega) | decide) (by first | omega | with_reducible assumption | (simp only [List.length_append, List.length_cons, List.length_nil, putB_length]; omega) | decide) (by first | omega | with_reducible assumption | (simp only [List.length_append, List.length_cons, List.length_nil, putB_length]; omega) | decide)
        refine Calls.mono C153_ ?_
        rintro e152_ w150_ ⟨aorr145_, caprr146_, rfl, h147_, F151_, h149_⟩
        have T154_ := Fr.then T139_ F151_ (Sub.new Sub.inl n_3L111_)
        have d155_ : Dis (rrS b92_ aorr145_ (x2.r r2)) (Old N) := Dis.step (Dis.sym d_0_3L111_) h149_ (ThingsAt.in h140_)
        have h156_ := ThingsAt.keep h140_ F151_ (Dis.sub Sub.inl d_0_3L111_)
        have d157_ : Dis (rrS b92_ aorr145_ (x2.r r2)) (wrS b16_ vw) := Dis.step (Dis.sym d_1_3L111_) h149_ (WrAt.in h141_)
        have h158_ := WrAt.keep h141_ F151_ (Dis.sub Sub.inl d_1_3L111_)
        have d159_ : Dis (rrS b92_ aorr145_ (x2.r r2)) (Own (.slice ao86_ lw.length cap87_)) := Dis.step (Dis.sym d_2_3L111_) h149_ (Row.in h142_)
        have h160_ := Row.keep h142_ F151_ (Dis.sub Sub.inl d_2_3L111_)
        have d161_ : Dis (rrS b92_ aorr145_ (x2.r r2)) (Ar x2.ao (B x2.b)) := Dis.step (Dis.sym (Sub.dis hi_x2 d_0_3L111_)) h149_ (Rd.in h144_)
        have h162_ := Rd.keep' h144_ F151_ (Dis.sub Sub.inl (Sub.dis hi_x2 d_0_3L111_))
        have d163_ : Dis (rrS b92_ aorr145_ (x2.r r2)) (One b118_) := Dis.step (Dis.sym d126_) h149_ (In.one h136_)
        have h164_ := Fr.keep F151_ h136_ (Dis.sub Sub.inl d126_)
        have N165_ := New.trans n_3L111_ h149_ (Fr.size T139_)
        refine ⟨(.bool true), (by rw [hq2.2]), ?_⟩
        refine at_pures 4 (by kernel_rfl) (by kernel_rfl) ?_
        refine at_done (by kernel_rfl) ?_
        refine then_n ?_
        refine c_else (.tmp 48) [1, 1, 1, 1, 1, 1, 1, 0, 1, 0, 0, 1, 1, 0, 0, 1, 1, 0] [1, 1, 1, 1, 1, 1, 1, 0, 1, 0, 0, 1, 1, 0, 0, 1, 1, 1] (by kernel_rfl) (by kernel_rfl) ?_
        refine c_skip (by kernel_rfl) ?_
        refine blk_n ?_
        refine then_n ?_
        refine c_reg 19 wireBack_c_R19 (by kernel_rfl) ?_
        refine at_int (kd := .i64) (IntKind.i64.wrap ((k2 : Int) + (1 : Int))) ((k2 : Int) + (1 : Int)) (by kernel_rfl) (by kernel_rfl) (wrapN_i64 (by omega) (by omega)) ?_
        refine at_pures 2 (by kernel_rfl) (by kernel_rfl) ?_
        refine at_done (by kernel_rfl) ?_
        refine then_n ?_
        exact ⟨⟨k2 + 1, aorr145_, caprr146_, x2.r r2, is_mk (by kernel_rfl) (by kernel_rfl) (by kernel_rfl), ⟨(by omega), hq2.1, h156_, h158_, h160_, h147_, (Dis.sym d155_), (Dis.sym d157_), (Dis.sym d159_), N165_, T154_⟩⟩, cnt_lt (k := (k2 : Int)) (k' := ((k2 : Int) + (1 : Int))) (by kernel_rfl) (by kernel_rfl) (by omega) (by omega)⟩
      · -- no
        replace c115_ : ¬ ((k2 : Int) < (ts.length : Int)) := of_decide_eq_false c115_
        refine c_exit 2 (by kernel_rfl) ?_
        refine then_e ?_
        refine then_e ?_
        refine blk_hit ?_
        refine then_n ?_
        refine c_seq [1, 1, 1, 1, 1, 1, 1, 1, 0] [1, 1, 1, 1, 1, 1, 1, 1, 1] (by kernel_rfl) ?_
        refine c_seq [1, 1, 1, 1, 1, 1, 1, 1, 0, 0] [1, 1, 1, 1, 1, 1, 1, 1, 0, 1] (by kernel_rfl) ?_
        refine c_reg 20 wireBack_c_R20 (by kernel_rfl) ?_
        refine at_pures 1 (by kernel_rfl) (by kernel_rfl) ?_
        refine at_do (by kernel_rfl) (op_call 25 #[(.tmp 50)] #[(.pointer (some ⟨b92_, 0, none⟩))] (by kernel_rfl) (by kernel_rfl) (by kernel_rfl) ?_)
        have C170_ := rend_c b92_ ao2 cap2 r2 w113_ q_3L111_  
        refine Calls.mono C170_ ?_
        rintro e169_ w167_ ⟨rfl, F168_⟩
        have T171_ := Fr.tr hFrL111_ F168_
        have h172_ := ThingsAt.keep q_0L111_ F168_ Dis.n0
        have h173_ := WrAt.keep q_1L111_ F168_ Dis.n0
        have h174_ := Row.keep q_2L111_ F168_ Dis.n0
        have h175_ := RrAt.keep q_3L111_ F168_ Dis.n0
        refine ⟨(.int .i64 0), (by rw [hr2, List.drop_eq_nil_of_le (by omega)]; rfl), ?_⟩
        refine at_pures 5 (by kernel_rfl) (by kernel_rfl) ?_
        refine at_do (by kernel_rfl) (op_call 23 #[(.tmp 54)] #[(.pointer (some ⟨b92_, 0, none⟩))] (by kernel_rfl) (by kernel_rfl) (by kernel_rfl) ?_)
        have C180_ := rleft_c b92_ ao2 cap2 r2 w167_ h175_  
        refine Calls.mono C180_ ?_
        rintro e179_ w177_ ⟨rfl, F178_⟩
        have T181_ := Fr.tr T171_ F178_
        have h182_ := ThingsAt.keep h172_ F178_ Dis.n0
        have h183_ := WrAt.keep h173_ F178_ Dis.n0
        have h184_ := Row.keep h174_ F178_ Dis.n0
        have h185_ := RrAt.keep h175_ F178_ Dis.n0
        refine ⟨(.int .i64 0), (by rw [hr2, List.drop_eq_nil_of_le (by omega)]; rfl), ?_⟩
        refine at_pures 8 (by kernel_rfl) (by kernel_rfl) ?_
        refine at_done (by kernel_rfl) ?_
        refine then_n ?_
        refine c_else (.tmp 57) [1, 1, 1, 1, 1, 1, 1, 1, 0, 1, 0] [1, 1, 1, 1, 1, 1, 1, 1, 0, 1, 1] (by kernel_rfl) (by kernel_rfl) ?_
        refine c_skip (by kernel_rfl) ?_
        refine then_n ?_
        refine c_seq [1, 1, 1, 1, 1, 1, 1, 1, 1, 0] [1, 1, 1, 1, 1, 1, 1, 1, 1, 1] (by kernel_rfl) ?_
        refine c_reg 22 wireBack_c_R22 (by kernel_rfl) ?_
        refine at_do (by kernel_rfl) (op_new (.cells #[] 5) (fun N => (.slice (some ⟨N, 0, none⟩) 0 0)) (fun _ => by kernel_rfl) (fun w187_ b186_ h188_ q189_ F190_ => ?_))
        have d191_ : Dis (One b186_) (Old N) := Dis.fresh (New.one q189_) (ThingsAt.in h182_)
        have d192_ : Dis (One b186_) (wrS b16_ vw) := Dis.fresh (New.one q189_) (WrAt.in h183_)
        have d193_ : Dis (One b186_) (Own (.slice ao86_ lw.length cap87_)) := Dis.fresh (New.one q189_) (Row.in h184_)
        have d194_ : Dis (One b186_) (rrS b92_ ao2 r2) := Dis.fresh (New.one q189_) (RrAt.in h185_)
        have N195_ : New w N0 (One b186_) := New.made q189_ (Fr.size T181_)
        have T196_ := Fr.tr T181_ F190_
        refine at_pures 2 (by kernel_rfl) (by kernel_rfl) ?_
        have h197_ := ThingsAt.keep h182_ F190_ Dis.n0
        have h198_ := WrAt.keep h183_ F190_ Dis.n0
        have h199_ := Row.keep h184_ F190_ Dis.n0
        have h200_ := RrAt.keep h185_ F190_ Dis.n0
        have h201_ : Row w187_ 5 1 (.slice (some ⟨b186_, 0, none⟩) 0 0) 0 [] := Row.made' h188_ (by rfl) (by decide) (by decide) (by rfl)
        refine at_do (by kernel_rfl) (op_append (.tmp 58) (.tmp 59) 26 26 5 1 1 (.int .u8 0) (by kernel_rfl) (by kernel_rfl) (by rfl) (v := (.slice (some ⟨b186_, 0, none⟩) 0 0)) (by kernel_rfl) h201_ (xv := (.slice ao86_ lw.length cap87_)) (m := lw.length) (news := B lw) (by kernel_rfl) (Row.src (e' := 5) (by kernel_rfl) h199_ (by decide) B_one) (by first | (simp only [maxLen]; omega) | (simp only [maxLen, List.length_append, List.length_cons, List.length_nil, putB_length]; omega)) (by first | omega | (simp only [List.length_append, List.length_cons, List.length_nil, putB_length]; omega)) (fun v202_ w203_ h204_ F205_ s206_ => ?_))
        have T207_ := Fr.then T196_ F205_ (New.own N195_)
        have d208_ : Dis (Own v202_) (Old N) := Dis.step (Dis.own d191_) s206_ (ThingsAt.in h197_)
        have h209_ := ThingsAt.keep h197_ F205_ (Dis.sym (Dis.own d191_))
        have d210_ : Dis (Own v202_) (wrS b16_ vw) := Dis.step (Dis.own d192_) s206_ (WrAt.in h198_)
        have h211_ := WrAt.keep h198_ F205_ (Dis.sym (Dis.own d192_))
        have d212_ : Dis (Own v202_) (Own (.slice ao86_ lw.length cap87_)) := Dis.step (Dis.own d193_) s206_ (Row.in h199_)
        have h213_ := Row.keep h199_ F205_ (Dis.sym (Dis.own d193_))
        have d214_ : Dis (Own v202_) (rrS b92_ ao2 r2) := Dis.step (Dis.own d194_) s206_ (RrAt.in h200_)
        have h215_ := RrAt.keep h200_ F205_ (Dis.sym (Dis.own d194_))
        have N216_ : New w N0 (Own v202_) := New.trans (New.own N195_) s206_ (Fr.size T196_)
        have h217_ : Row w203_ 5 1 v202_ ([] ++ lw).length (B ([] ++ lw)) := Row.appB h204_ rfl
        refine at_do (by kernel_rfl) (op_new (.cells #[(.int .u8 0)] 5) (fun N => (.slice (some ⟨N, 0, none⟩) 1 1)) (fun _ => by kernel_rfl) (fun w219_ b218_ h220_ q221_ F222_ => ?_))
        have d223_ : Dis (One b218_) (Old N) := Dis.fresh (New.one q221_) (ThingsAt.in h209_)
        have d224_ : Dis (One b218_) (wrS b16_ vw) := Dis.fresh (New.one q221_) (WrAt.in h211_)
        have d225_ : Dis (One b218_) (Own (.slice ao86_ lw.length cap87_)) := Dis.fresh (New.one q221_) (Row.in h213_)
        have d226_ : Dis (One b218_) (rrS b92_ ao2 r2) := Dis.fresh (New.one q221_) (RrAt.in h215_)
        have d227_ : Dis (One b218_) (Own v202_) := Dis.fresh (New.one q221_) (Row.in h217_)
        have N228_ : New w N0 (One b218_) := New.made q221_ (Fr.size T207_)
        have T229_ := Fr.tr T207_ F222_
        have h230_ := ThingsAt.keep h209_ F222_ Dis.n0
        have h231_ := WrAt.keep h211_ F222_ Dis.n0
        have h232_ := Row.keep h213_ F222_ Dis.n0
        have h233_ := RrAt.keep h215_ F222_ Dis.n0
        have h234_ := Row.keep h217_ F222_ Dis.n0
        refine at_do (by kernel_rfl) (op_append (.tmp 60) (.tmp 61) 26 26 5 1 1 (.int .u8 0) (by kernel_rfl) (by kernel_rfl) (by rfl) (v := v202_) (by kernel_rfl) h234_ (xv := (.slice (some ⟨b218_, 0, none⟩) 1 1)) (m := 1) (news := (#[(.int .u8 0)]).toList) (by kernel_rfl) (Rd.src (xs := (#[(.int .u8 0)]).toList) (size := 1) (e := 5) (by kernel_rfl) (Rd.of_cut h220_ 0 1 (by kernel_rfl)) (by kernel_rfl) (by decide) (ones (by kernel_rfl))) (by first | (simp only [maxLen]; omega) | (simp only [maxLen, List.length_append, List.length_cons, List.length_nil, putB_length]; omega)) (by first | omega | (simp only [List.length_append, List.length_cons, List.length_nil, putB_length]; omega)) (fun v235_ w236_ h237_ F238_ s239_ => ?_))
        have T240_ := Fr.then T229_ F238_ N216_
        have d241_ : Dis (Own v235_) (Old N) := Dis.step d208_ s239_ (ThingsAt.in h230_)
        have h242_ := ThingsAt.keep h230_ F238_ (Dis.sym d208_)
        have d243_ : Dis (Own v235_) (wrS b16_ vw) := Dis.step d210_ s239_ (WrAt.in h231_)
        have h244_ := WrAt.keep h231_ F238_ (Dis.sym d210_)
        have d245_ : Dis (Own v235_) (Own (.slice ao86_ lw.length cap87_)) := Dis.step d212_ s239_ (Row.in h232_)
        have h246_ := Row.keep h232_ F238_ (Dis.sym d212_)
        have d247_ : Dis (Own v235_) (rrS b92_ ao2 r2) := Dis.step d214_ s239_ (RrAt.in h233_)
        have h248_ := RrAt.keep h233_ F238_ (Dis.sym d214_)
        have d249_ : Dis (Own v235_) (One b218_) := Dis.step (Dis.sym d227_) s239_ (In.one h220_)
        have h250_ := Fr.keep F238_ h220_ d227_
        have N251_ : New w N0 (Own v235_) := New.trans N216_ s239_ (Fr.size T229_)
        have h252_ : Row w236_ 5 1 v235_ ([] ++ lw ++ [0]).length (B ([] ++ lw ++ [0])) := Row.appB h237_ (by rfl)
        refine at_do (by kernel_rfl) (op_call 14 #[(.tmp 62)] #[v235_] (by kernel_rfl) (by kernel_rfl) (by kernel_rfl) ?_)
        have C262_ := rnew_c v235_ ([] ++ lw ++ [0]) w236_ (Row.sl h252_)  (by first | omega | with_reducible assumption | (simp only [List.length_append, List.length_cons, List.length_nil, putB_length]; omega) | decide)
        refine Calls.mono C262_ ?_
        rintro e261_ w259_ ⟨b253_, aorr254_, caprr255_, rfl, h256_, F260_, h258_⟩
        have d263_ : Dis (rrS b253_ aorr254_ (Rs.mk 0 ([] ++ lw ++ [0]))) (Old N) := Dis.fresh h258_ (ThingsAt.in h242_)
        have d264_ : Dis (rrS b253_ aorr254_ (Rs.mk 0 ([] ++ lw ++ [0]))) (wrS b16_ vw) := Dis.fresh h258_ (WrAt.in h244_)
        have d265_ : Dis (rrS b253_ aorr254_ (Rs.mk 0 ([] ++ lw ++ [0]))) (Own (.slice ao86_ lw.length cap87_)) := Dis.fresh h258_ (Row.in h246_)
        have d266_ : Dis (rrS b253_ aorr254_ (Rs.mk 0 ([] ++ lw ++ [0]))) (rrS b92_ ao2 r2) := Dis.fresh h258_ (RrAt.in h248_)
        have d267_ : Dis (rrS b253_ aorr254_ (Rs.mk 0 ([] ++ lw ++ [0]))) (Own v235_) := Dis.fresh h258_ (Row.in h252_)
        have d268_ : Dis (rrS b253_ aorr254_ (Rs.mk 0 ([] ++ lw ++ [0]))) (One b218_) := Dis.fresh h258_ (In.one h250_)
        have T269_ := Fr.tr T240_ F260_
        have h270_ := ThingsAt.keep h242_ F260_ Dis.n0
        have h271_ := WrAt.keep h244_ F260_ Dis.n0
        have h272_ := Row.keep h246_ F260_ Dis.n0
        have h273_ := RrAt.keep h248_ F260_ Dis.n0
        have h274_ := Row.keep h252_ F260_ Dis.n0
        have h275_ := Fr.keep F260_ h250_ Dis.n0
        have N277_ : New w N0 (rrS b253_ aorr254_ (Rs.mk 0 ([] ++ lw ++ [0]))) := New.later' h258_ (Fr.size T240_)
        refine ⟨_, rfl, ?_⟩
        refine at_pures 7 (by kernel_rfl) (by kernel_rfl) ?_
        refine at_done (by kernel_rfl) ?_
        refine then_n ?_
        refine c_seq [1, 1, 1, 1, 1, 1, 1, 1, 1, 1, 0] [1, 1, 1, 1, 1, 1, 1, 1, 1, 1, 1] (by kernel_rfl) ?_
        refine c_seq [1, 1, 1, 1, 1, 1, 1, 1, 1, 1, 0, 0] [1, 1, 1, 1, 1, 1, 1, 1, 1, 1, 0, 1] (by kernel_rfl) ?_
        refine c_reg 23 wireBack_c_R23 (by kernel_rfl) ?_
        refine at_pures 3 (by kernel_rfl) (by kernel_rfl) ?_
        refine at_done (by kernel_rfl) ?_
        refine then_n ?_
        refine c_block 4 [1, 1, 1, 1, 1, 1, 1, 1, 1, 1, 0, 1, 0] (by kernel_rfl) ?_
        refine c_loop (fun a w' => ∃ (k3 : Nat), ∃ (ao3 : Option Addr), ∃ (cap3 : Nat), ∃ (r3 : Rs), (∃ u, a = mk 112 [(0, (.slice ao ts.length cap)), (1, (.int .i64 cut)), (5, (.pointer (some ⟨b16_, 0, none⟩))), (8, (.slice ao86_ lw.length cap87_)), (9, (.pointer (some ⟨b92_, 0, none⟩))), (12, (.pointer (some ⟨b253_, 0, none⟩))), (18, (.bool true)), (19, (.bool false)), (20, (.slice ao ts.length cap)), (21, (.bool (largeT ts))), (22, (.agg #[(.slice none 0 0)])), (23, (.pointer (some ⟨b16_, 0, none⟩))), (24, (.slice ao ts.length cap)), (25, (.int .i64 (ts.length : Int))), (26, (.int .i64 (k : Int))), (27, (.bool (decide ((k : Int) < (ts.length : Int))))), (35, (.pointer (some ⟨b16_, 0, none⟩))), (36, (.slice ao86_ lw.length cap87_)), (37, (.slice ao86_ lw.length cap87_)), (38, (.pointer (some ⟨b92_, 0, none⟩))), (39, (.slice ao ts.length cap)), (40, (.int .i64 (ts.length : Int))), (41, (.int .i64 (k2 : Int))), (42, (.bool (decide ((k2 : Int) < (ts.length : Int))))), (50, (.pointer (some ⟨b92_, 0, none⟩))), (51, (.int .i64 0)), (52, (.bool false)), (53, (.bool false)), (54, (.pointer (some ⟨b92_, 0, none⟩))), (55, (.int .i64 0)), (56, (.bool false)), (57, (.bool false)), (58, (.slice (some ⟨b186_, 0, none⟩) 0 0)), (59, (.slice ao86_ lw.length cap87_)), (60, v202_), (61, (.slice (some ⟨b218_, 0, none⟩) 1 1)), (62, v235_), (63, (.pointer (some ⟨b253_, 0, none⟩))), (64, (.slice ao ts.length cap)), (65, (.int .i64 (ts.length : Int))), (66, (.int .i64 (k3 : Int)))] u) ∧ (k3 ≤ ts.length) ∧ (r3 = ⟨0, writeT (ts.drop k3) ++ [0]⟩) ∧ (ThingsAt N w' ao ts) ∧ (WrAt 5 28 w' b16_ vw lw) ∧ (Row w' 5 1 (.slice ao86_ lw.length cap87_) (lw.length) (B lw)) ∧ (RrAt 67 w' b92_ ao2 cap2 r2) ∧ (Row w' 5 1 v235_ (([] ++ lw ++ [0]).length) (B ([] ++ lw ++ [0]))) ∧ (w'.heap[b218_]? = some (.cells #[(.int .u8 0)] 5 (0, 0))) ∧ (RrAt 67 w' b253_ ao3 cap3 r3) ∧ (Dis (Old N) (rrS b253_ ao3 r3)) ∧ (Dis (wrS b16_ vw) (rrS b253_ ao3 r3)) ∧ (Dis (Own (.slice ao86_ lw.length cap87_)) (rrS b253_ ao3 r3)) ∧ (Dis (rrS b92_ ao2 r2) (rrS b253_ ao3 r3)) ∧ (Dis (Own v235_) (rrS b253_ ao3 r3)) ∧ (Dis (One b218_) (rrS b253_ ao3 r3)) ∧ (New w N0 (rrS b253_ ao3 r3)) ∧ (Fr w w' N0)) (fun a _ => cnt (ts.length) 66 a) [1, 1, 1, 1, 1, 1, 1, 1, 1, 1, 0, 1, 0, 0] (by kernel_rfl) ⟨0, _, _, _, is_mk (by kernel_rfl) (by kernel_rfl) (by kernel_rfl), ⟨Nat.zero_le _, (by rw [hlw]; rfl), h270_, h271_, h272_, h273_, h274_, h275_, h256_, (Dis.sym d263_), (Dis.sym d264_), (Dis.sym d265_), (Dis.sym d266_), (Dis.sym d267_), (Dis.sym d268_), N277_, T269_⟩⟩ ?_
        rintro a279_ w280_ ⟨k3, ao3, cap3, r3, ⟨u281_, rfl⟩, ⟨hk3, hr3, q_0L278_, q_1L278_, q_2L278_, q_3L278_, q_4L278_, q_5L278_, q_6L278_, d_0_6L278_, d_1_6L278_, d_2_6L278_, d_3_6L278_, d_4_6L278_, d_5_6L278_, n_6L278_, hFrL278_⟩⟩
        have hRB3 : Byt r3.l := by rw [hr3]; exact (writeT_byt (fun y hy => h_ts.ok y (List.mem_of_mem_drop hy))).app (Byt.all (by kernel_rfl))
        have hRL3 : r3.l.length ≤ 30000 := by rw [hr3]; have h := writeT_len (ts := ts.drop k3) (fun y hy => h_ts.ok y (List.mem_of_mem_drop hy)); have : (ts.drop k3).length ≤ ts.length := (by rw [List.length_drop]; omega); show (writeT _ ++ [0]).length ≤ 30000; rw [List.length_append]; show _ + 1 ≤ 30000; omega
        refine c_seq [1, 1, 1, 1, 1, 1, 1, 1, 1, 1, 0, 1, 0, 0, 0] [1, 1, 1, 1, 1, 1, 1, 1, 1, 1, 0, 1, 0, 0, 1] (by kernel_rfl) ?_
        refine c_reg 24 wireBack_c_R24 (by kernel_rfl) ?_
        refine at_pures 1 (by kernel_rfl) (by kernel_rfl) ?_
        refine at_done (by kernel_rfl) ?_
        refine then_n ?_
        refine c_seq [1, 1, 1, 1, 1, 1, 1, 1, 1, 1, 0, 1, 0, 0, 1, 0] [1, 1, 1, 1, 1, 1, 1, 1, 1, 1, 0, 1, 0, 0, 1, 1] (by kernel_rfl) ?_
        refine c_if (.tmp 67) (decide ((k3 : Int) < (ts.length : Int))) [1, 1, 1, 1, 1, 1, 1, 1, 1, 1, 0, 1, 0, 0, 1, 0, 0] [1, 1, 1, 1, 1, 1, 1, 1, 1, 1, 0, 1, 0, 0, 1, 0, 1] (by kernel_rfl) (by kernel_rfl) (fun c282_ => ?_) (fun c282_ => ?_)
        · -- yes
          replace c282_ : (k3 : Int) < (ts.length : Int) := of_decide_eq_true c282_
          refine c_skip (by kernel_rfl) ?_
          refine then_n ?_
          refine c_seq [1, 1, 1, 1, 1, 1, 1, 1, 1, 1, 0, 1, 0, 0, 1, 1, 0] [1, 1, 1, 1, 1, 1, 1, 1, 1, 1, 0, 1, 0, 0, 1, 1, 1] (by kernel_rfl) ?_
          refine c_block 5 [1, 1, 1, 1, 1, 1, 1, 1, 1, 1, 0, 1, 0, 0, 1, 1, 0, 0] (by kernel_rfl) ?_
          refine c_seq [1, 1, 1, 1, 1, 1, 1, 1, 1, 1, 0, 1, 0, 0, 1, 1, 0, 0, 0] [1, 1, 1, 1, 1, 1, 1, 1, 1, 1, 0, 1, 0, 0, 1, 1, 0, 0, 1] (by kernel_rfl) ?_
          refine c_reg 25 wireBack_c_R25 (by kernel_rfl) ?_
          obtain ⟨x3, hx_x3⟩ : ∃ x, ts[k3]? = some x := ⟨_, List.getElem?_eq_getElem (by omega)⟩
          have hm_x3 := List.mem_of_getElem? hx_x3; have ho_x3 := ThingsAt.ok q_0L278_ x3 hm_x3; have hi_x3 := ThingsAt.in2 q_0L278_ x3 hm_x3; have hn_x3 := ho_x3.n
          have hxh3 := ho_x3.h; have hxb3 := hlg.2 x3 hm_x3
          obtain ⟨ad283_, ha284_⟩ := (ThingsAt.rd q_0L278_).has (k3 * 36) (by rw [cellsT_length]; omega)
          refine at_run (.pointer (some (ad283_.add (k3 * 36)))) _ (by kernel_rfl) (run_idx_o 22 (.tmp 64) (.tmp 66) 36 ao ad283_ ts.length cap .i64 k3 (by kernel_rfl) (by kernel_rfl) (by kernel_rfl) (by kernel_rfl) (by kernel_rfl) ha284_ (by omega)) ?_
          refine at_run (.agg (Thing.cells x3)) _ (by kernel_rfl) (run_loadEn 33 (.tmp 68) ao ad283_ (k3 * 36) 36 (cellsT ts) (Thing.cells x3) (by kernel_rfl) (by kernel_rfl) (by kernel_rfl) (by kernel_rfl) ha284_ (ThingsAt.rd q_0L278_) (by kernel_rfl) (cellsT_get ts k3 x3 hx_x3)) ?_
          refine at_do (by kernel_rfl) (op_new (.cells #[(.int .i64 0), (.int .u64 0), (.int .u8 0), (.int .u8 0), (.int .u8 0), (.int .u8 0), (.int .u8 0), (.int .u8 0), (.int .u8 0), (.int .u8 0), (.int .u8 0), (.int .u8 0), (.int .u8 0), (.int .u8 0), (.int .u8 0), (.int .u8 0), (.int .u8 0), (.int .u8 0), (.int .u8 0), (.int .u8 0), (.int .u8 0), (.int .u8 0), (.int .u8 0), (.int .u8 0), (.int .u8 0), (.int .u8 0), (.int .u8 0), (.int .u8 0), (.int .u8 0), (.int .u8 0), (.int .u8 0), (.int .u8 0), (.int .u8 0), (.int .u8 0), (.slice none 0 0), (.int .i64 0)] 33) (fun N => (.pointer (some ⟨N, 0, none⟩))) (fun _ => by kernel_rfl) (fun w286_ b285_ h287_ q288_ F289_ => ?_))
          have d290_ : Dis (One b285_) (Old N) := Dis.fresh (New.one q288_) (ThingsAt.in q_0L278_)
          have d291_ : Dis (One b285_) (wrS b16_ vw) := Dis.fresh (New.one q288_) (WrAt.in q_1L278_)
          have d292_ : Dis (One b285_) (Own (.slice ao86_ lw.length cap87_)) := Dis.fresh (New.one q288_) (Row.in q_2L278_)
          have d293_ : Dis (One b285_) (rrS b92_ ao2 r2) := Dis.fresh (New.one q288_) (RrAt.in q_3L278_)
          have d294_ : Dis (One b285_) (Own v235_) := Dis.fresh (New.one q288_) (Row.in q_4L278_)
          have d295_ : Dis (One b285_) (One b218_) := Dis.fresh (New.one q288_) (In.one q_5L278_)
          have d296_ : Dis (One b285_) (rrS b253_ ao3 r3) := Dis.fresh (New.one q288_) (RrAt.in q_6L278_)
          have d297_ : Dis (One b285_) (Ar x3.ao (B x3.b)) := Dis.fresh (New.one q288_) (Rd.in (ThingsAt.rdb q_0L278_ x3 hm_x3))
          have N298_ : New w N0 (One b285_) := New.made q288_ (Fr.size hFrL278_)
          have T299_ := Fr.tr hFrL278_ F289_
          have h300_ := ThingsAt.keep q_0L278_ F289_ Dis.n0
          have h301_ := WrAt.keep q_1L278_ F289_ Dis.n0
          have h302_ := Row.keep q_2L278_ F289_ Dis.n0
          have h303_ := RrAt.keep q_3L278_ F289_ Dis.n0
          have h304_ := Row.keep q_4L278_ F289_ Dis.n0
          have h305_ := Fr.keep F289_ q_5L278_ Dis.n0
          have h306_ := RrAt.keep q_6L278_ F289_ Dis.n0
          have h307_ := Rd.keep' (ThingsAt.rdb q_0L278_ x3 hm_x3) F289_ Dis.n0
          refine at_do (by kernel_rfl) (op_store 33 (.tmp 14) (.tmp 69) b285_ 0 (.agg (Thing.cells x3)) _ _ (Thing.cells x3) (by kernel_rfl) (by kernel_rfl) (by kernel_rfl) h287_ (by kernel_rfl) (by kernel_rfl) (by kernel_rfl) (by kernel_rfl) (fun w308_ h309_ z310_ F311_ => ?_))
          have T312_ := Fr.then T299_ F311_ N298_
          have h313_ := ThingsAt.keep h300_ F311_ (Dis.sym d290_)
          have h314_ := WrAt.keep h301_ F311_ (Dis.sym d291_)
          have h315_ := Row.keep h302_ F311_ (Dis.sym d292_)
          have h316_ := RrAt.keep h303_ F311_ (Dis.sym d293_)
          have h317_ := Row.keep h304_ F311_ (Dis.sym d294_)
          have h318_ := Fr.keep F311_ h305_ (Dis.sym d295_)
          have h319_ := RrAt.keep h306_ F311_ (Dis.sym d296_)
          have h320_ := Rd.keep' h307_ F311_ (Dis.sym d297_)
          refine at_done (by kernel_rfl) ?_
          refine then_n ?_
          refine c_reg 26 wireBack_c_R26 (by kernel_rfl) ?_
          refine at_pures 1 (by kernel_rfl) (by kernel_rfl) ?_
          refine at_loadN 33 (.tmp 14) b285_ 0 36 _ _ _ (Thing.cells x3) (by kernel_rfl) (by kernel_rfl) (by kernel_rfl) (by kernel_rfl) (by kernel_rfl) h309_ (by kernel_rfl) (by kernel_rfl) ?_
          refine at_do (by kernel_rfl) (op_call 27 #[(.tmp 70), (.tmp 71)] #[(.pointer (some ⟨b253_, 0, none⟩)), (.agg (Thing.cells x3))] (by kernel_rfl) (by kernel_rfl) (by kernel_rfl) ?_)
          have C329_ := read_c b253_ ao3 cap3 r3 x3 w308_ h320_ h319_ (Dis.sym (Sub.dis hi_x3 d_0_6L278_)) (by first | omega | with_reducible assumption | (simp only [List.length_append, List.length_cons, List.length_nil, putB_length]; omega) | decide) (by first | omega | with_reducible assumption | (simp only [List.length_append, List.length_cons, List.length_nil, putB_length]; omega) | decide) (by first | omega | with_reducible assumption | (simp only [List.length_append, List.length_cons, List.length_nil, putB_length]; omega) | decide) (by first | omega | with_reducible assumption | (simp only [List.length_append, List.length_cons, List.length_nil, putB_length]; omega) | decide)
          refine Calls.mono C329_ ?_
          rintro e328_ w326_ ⟨aorr321_, caprr322_, rfl, h323_, F327_, h325_⟩
          have T330_ := Fr.then T312_ F327_ (Sub.new Sub.inl n_6L278_)
          have d331_ : Dis (rrS b253_ aorr321_ (x3.r r3)) (Old N) := Dis.step (Dis.sym d_0_6L278_) h325_ (ThingsAt.in h313_)
          have h332_ := ThingsAt.keep h313_ F327_ (Dis.sub Sub.inl d_0_6L278_)
          have d333_ : Dis (rrS b253_ aorr321_ (x3.r r3)) (wrS b16_ vw) := Dis.step (Dis.sym d_1_6L278_) h325_ (WrAt.in h314_)
          have h334_ := WrAt.keep h314_ F327_ (Dis.sub Sub.inl d_1_6L278_)
          have d335_ : Dis (rrS b253_ aorr321_ (x3.r r3)) (Own (.slice ao86_ lw.length cap87_)) := Dis.step (Dis.sym d_2_6L278_) h325_ (Row.in h315_)
          have h336_ := Row.keep h315_ F327_ (Dis.sub Sub.inl d_2_6L278_)
          have d337_ : Dis (rrS b253_ aorr321_ (x3.r r3)) (rrS b92_ ao2 r2) := Dis.step (Dis.sym d_3_6L278_) h325_ (RrAt.in h316_)
          have h338_ := RrAt.keep h316_ F327_ (Dis.sub Sub.inl d_3_6L278_)
          have d339_ : Dis (rrS b253_ aorr321_ (x3.r r3)) (Own v235_) := Dis.step (Dis.sym d_4_6L278_) h325_ (Row.in h317_)
          have h340_ := Row.keep h317_ F327_ (Dis.sub Sub.inl d_4_6L278_)
          have d341_ : Dis (rrS b253_ aorr321_ (x3.r r3)) (One b218_) := Dis.step (Dis.sym d_5_6L278_) h325_ (In.one h318_)
          have h342_ := Fr.keep F327_ h318_ (Dis.sub Sub.inl d_5_6L278_)
          have d343_ : Dis (rrS b253_ aorr321_ (x3.r r3)) (Ar x3.ao (B x3.b)) := Dis.step (Dis.sym (Sub.dis hi_x3 d_0_6L278_)) h325_ (Rd.in h320_)
          have h344_ := Rd.keep' h320_ F327_ (Dis.sub Sub.inl (Sub.dis hi_x3 d_0_6L278_))
          have d345_ : Dis (rrS b253_ aorr321_ (x3.r r3)) (One b285_) := Dis.step (Dis.sym d296_) h325_ (In.one h309_)
          have h346_ := Fr.keep F327_ h309_ (Dis.sub Sub.inl d296_)
          have N347_ := New.trans n_6L278_ h325_ (Fr.size T312_)
          refine ⟨_, rfl, ?_⟩
          refine at_done (by kernel_rfl) ?_
          refine blk_n ?_
          refine then_n ?_
          refine c_reg 27 wireBack_c_R27 (by kernel_rfl) ?_
          refine at_int (kd := .i64) (IntKind.i64.wrap ((k3 : Int) + (1 : Int))) ((k3 : Int) + (1 : Int)) (by kernel_rfl) (by kernel_rfl) (wrapN_i64 (by omega) (by omega)) ?_
          refine at_pures 2 (by kernel_rfl) (by kernel_rfl) ?_
          refine at_done (by kernel_rfl) ?_
          refine then_n ?_
          exact ⟨⟨k3 + 1, aorr321_, caprr322_, x3.r r3, is_mk (by kernel_rfl) (by kernel_rfl) (by kernel_rfl), ⟨(by omega), (by rw [hr3, writeT_drop hx_x3, List.append_assoc]; exact (Thing.back ho_x3 (hOK x3 hm_x3) _).1), h332_, h334_, h336_, h338_, h340_, h342_, h323_, (Dis.sym d331_), (Dis.sym d333_), (Dis.sym d335_), (Dis.sym d337_), (Dis.sym d339_), (Dis.sym d341_), N347_, T330_⟩⟩, cnt_lt (k := (k3 : Int)) (k' := ((k3 : Int) + (1 : Int))) (by kernel_rfl) (by kernel_rfl) (by omega) (by omega)⟩
        · -- no
          replace c282_ : ¬ ((k3 : Int) < (ts.length : Int)) := of_decide_eq_false c282_
          refine c_exit 4 (by kernel_rfl) ?_
          refine then_e ?_
          refine then_e ?_
          refine blk_hit ?_
          refine then_n ?_
          refine c_seq [1, 1, 1, 1, 1, 1, 1, 1, 1, 1, 1, 0] [1, 1, 1, 1, 1, 1, 1, 1, 1, 1, 1, 1] (by kernel_rfl) ?_
          refine c_seq [1, 1, 1, 1, 1, 1, 1, 1, 1, 1, 1, 0, 0] [1, 1, 1, 1, 1, 1, 1, 1, 1, 1, 1, 0, 1] (by kernel_rfl) ?_
          refine c_reg 28 wireBack_c_R28 (by kernel_rfl) ?_
          refine at_pures 1 (by kernel_rfl) (by kernel_rfl) ?_
          refine at_do (by kernel_rfl) (op_call 25 #[(.tmp 74)] #[(.pointer (some ⟨b253_, 0, none⟩))] (by kernel_rfl) (by kernel_rfl) (by kernel_rfl) ?_)
          have C352_ := rend_c b253_ ao3 cap3 r3 w280_ q_6L278_  
          refine Calls.mono C352_ ?_
          rintro e351_ w349_ ⟨rfl, F350_⟩
          have T353_ := Fr.tr hFrL278_ F350_
          have h354_ := ThingsAt.keep q_0L278_ F350_ Dis.n0
          have h355_ := WrAt.keep q_1L278_ F350_ Dis.n0
          have h356_ := Row.keep q_2L278_ F350_ Dis.n0
          have h357_ := RrAt.keep q_3L278_ F350_ Dis.n0
          have h358_ := Row.keep q_4L278_ F350_ Dis.n0
          have h359_ := Fr.keep F350_ q_5L278_ Dis.n0
          have h360_ := RrAt.keep q_6L278_ F350_ Dis.n0
          refine ⟨(.int .i64 4), (by rw [hr3, List.drop_eq_nil_of_le (by omega)]; rfl), ?_⟩
          refine at_pures 5 (by kernel_rfl) (by kernel_rfl) ?_
          refine at_do (by kernel_rfl) (op_call 23 #[(.tmp 78)] #[(.pointer (some ⟨b253_, 0, none⟩))] (by kernel_rfl) (by kernel_rfl) (by kernel_rfl) ?_)
          have C365_ := rleft_c b253_ ao3 cap3 r3 w349_ h360_  
          refine Calls.mono C365_ ?_
          rintro e364_ w362_ ⟨rfl, F363_⟩
          have T366_ := Fr.tr T353_ F363_
          have h367_ := ThingsAt.keep h354_ F363_ Dis.n0
          have h368_ := WrAt.keep h355_ F363_ Dis.n0
          have h369_ := Row.keep h356_ F363_ Dis.n0
          have h370_ := RrAt.keep h357_ F363_ Dis.n0
          have h371_ := Row.keep h358_ F363_ Dis.n0
          have h372_ := Fr.keep F363_ h359_ Dis.n0
          have h373_ := RrAt.keep h360_ F363_ Dis.n0
          refine ⟨(.int .i64 1), (by rw [hr3, List.drop_eq_nil_of_le (by omega)]; rfl), ?_⟩
          refine at_pures 8 (by kernel_rfl) (by kernel_rfl) ?_
          refine at_done (by kernel_rfl) ?_
          refine then_n ?_
          refine c_else (.tmp 81) [1, 1, 1, 1, 1, 1, 1, 1, 1, 1, 1, 0, 1, 0] [1, 1, 1, 1, 1, 1, 1, 1, 1, 1, 1, 0, 1, 1] (by kernel_rfl) (by kernel_rfl) ?_
          refine c_skip (by kernel_rfl) ?_
          refine then_n ?_
          refine c_seq [1, 1, 1, 1, 1, 1, 1, 1, 1, 1, 1, 1, 0] [1, 1, 1, 1, 1, 1, 1, 1, 1, 1, 1, 1, 1] (by kernel_rfl) ?_
          refine c_seq [1, 1, 1, 1, 1, 1, 1, 1, 1, 1, 1, 1, 0, 0] [1, 1, 1, 1, 1, 1, 1, 1, 1, 1, 1, 1, 0, 1] (by kernel_rfl) ?_
          refine c_reg 30 wireBack_c_R30 (by kernel_rfl) ?_
          refine at_pures 2 (by kernel_rfl) (by kernel_rfl) ?_
          refine at_split (decide (cut < (0 : Int))) (by kernel_rfl) (by kernel_rfl) (fun c374_ => ?_) (fun c374_ => ?_)
          · -- yes
            replace c374_ : cut < (0 : Int) := of_decide_eq_true c374_
            refine at_pures 8 (by kernel_rfl) (by kernel_rfl) ?_
            refine at_done (by kernel_rfl) ?_
            refine then_n ?_
            refine c_then (.tmp 89) [1, 1, 1, 1, 1, 1, 1, 1, 1, 1, 1, 1, 0, 1, 0] [1, 1, 1, 1, 1, 1, 1, 1, 1, 1, 1, 1, 0, 1, 1] (by kernel_rfl) (by kernel_rfl) ?_
            refine c_seq [1, 1, 1, 1, 1, 1, 1, 1, 1, 1, 1, 1, 0, 1, 0, 0] [1, 1, 1, 1, 1, 1, 1, 1, 1, 1, 1, 1, 0, 1, 0, 1] (by kernel_rfl) ?_
            refine c_reg 31 wireBack_c_R31 (by kernel_rfl) ?_
            refine at_pures 1 (by kernel_rfl) (by kernel_rfl) ?_
            refine at_done (by kernel_rfl) ?_
            refine then_n ?_
            refine c_ret (by kernel_rfl) ?_
            refine then_r ?_
            refine fin_ret (.bool true) (by kernel_rfl) (by kernel_rfl) ?_
            exact ⟨rfl, T366_⟩
          · -- no
            replace c374_ : ¬ (cut < (0 : Int)) := of_decide_eq_false c374_
            refine at_pures 8 (by kernel_rfl) (by kernel_rfl) ?_
            refine at_done (by kernel_rfl) ?_
            refine then_n ?_
            refine c_if (.tmp 89) (decide (cut ≥ (lw.length : Int))) [1, 1, 1, 1, 1, 1, 1, 1, 1, 1, 1, 1, 0, 1, 0] [1, 1, 1, 1, 1, 1, 1, 1, 1, 1, 1, 1, 0, 1, 1] (by kernel_rfl) (by kernel_rfl) (fun c375_ => ?_) (fun c375_ => ?_)
            · -- yes
              replace c375_ : cut ≥ (lw.length : Int) := of_decide_eq_true c375_
              refine c_seq [1, 1, 1, 1, 1, 1, 1, 1, 1, 1, 1, 1, 0, 1, 0, 0] [1, 1, 1, 1, 1, 1, 1, 1, 1, 1, 1, 1, 0, 1, 0, 1] (by kernel_rfl) ?_
              refine c_reg 31 wireBack_c_R31 (by kernel_rfl) ?_
              refine at_pures 1 (by kernel_rfl) (by kernel_rfl) ?_
              refine at_done (by kernel_rfl) ?_
              refine then_n ?_
              refine c_ret (by kernel_rfl) ?_
              refine then_r ?_
              refine fin_ret (.bool true) (by kernel_rfl) (by kernel_rfl) ?_
              exact ⟨rfl, T366_⟩
            · -- no
              replace c375_ : ¬ (cut ≥ (lw.length : Int)) := of_decide_eq_false c375_
              refine c_skip (by kernel_rfl) ?_
              refine then_n ?_
              refine c_seq [1, 1, 1, 1, 1, 1, 1, 1, 1, 1, 1, 1, 1, 0] [1, 1, 1, 1, 1, 1, 1, 1, 1, 1, 1, 1, 1, 1] (by kernel_rfl) ?_
              refine c_reg 32 wireBack_c_R32 (by kernel_rfl) ?_
              refine at_pures 2 (by kernel_rfl) (by kernel_rfl) ?_
              obtain ⟨c, rfl⟩ : ∃ c : Nat, cut = (c : Int) := Int.eq_ofNat_of_zero_le (by omega)
              have hcl : ((lw.drop 0).take c).length = c := by rw [List.length_take, List.drop_zero]; omega
              have h376_ : Rd w362_ (cutA ao86_ 0 cap87_ 1) (B ((lw.drop 0).take c)) := Rd.cutB (Row.rd h369_) 0 c cap87_ (by omega)
              refine at_run (.slice (cutA ao86_ 0 cap87_ 1) (((lw.drop 0).take c).length) cap87_) _ (by kernel_rfl) (by rw [hcl]; exact run_cut 26 (.tmp 90) none (some (.tmp 91)) none 1 ao86_ lw.length cap87_ 0 c cap87_ (by kernel_rfl) (by kernel_rfl) (by kernel_rfl) (by kernel_rfl) (by kernel_rfl) (by kernel_rfl) (by kernel_rfl) (by kernel_rfl) (by omega) (by omega) (by omega)) ?_
              refine at_do (by kernel_rfl) (op_call 14 #[(.tmp 92)] #[(.slice (cutA ao86_ 0 cap87_ 1) (((lw.drop 0).take c).length) cap87_)] (by kernel_rfl) (by kernel_rfl) (by kernel_rfl) ?_)
              have C387_ := rnew_c (.slice (cutA ao86_ 0 cap87_ 1) (((lw.drop 0).take c).length) cap87_) ((lw.drop 0).take c) w362_ ⟨_, _, rfl, h376_⟩  (by first | omega | with_reducible assumption | (simp only [List.length_append, List.length_cons, List.length_nil, putB_length]; omega) | decide)
              refine Calls.mono C387_ ?_
              rintro e386_ w384_ ⟨b378_, aorr379_, caprr380_, rfl, h381_, F385_, h383_⟩
              have d388_ : Dis (rrS b378_ aorr379_ (Rs.mk 0 ((lw.drop 0).take c))) (Old N) := Dis.fresh h383_ (ThingsAt.in h367_)
              have d389_ : Dis (rrS b378_ aorr379_ (Rs.mk 0 ((lw.drop 0).take c))) (wrS b16_ vw) := Dis.fresh h383_ (WrAt.in h368_)
              have d390_ : Dis (rrS b378_ aorr379_ (Rs.mk 0 ((lw.drop 0).take c))) (Own (.slice ao86_ lw.length cap87_)) := Dis.fresh h383_ (Row.in h369_)
              have d391_ : Dis (rrS b378_ aorr379_ (Rs.mk 0 ((lw.drop 0).take c))) (rrS b92_ ao2 r2) := Dis.fresh h383_ (RrAt.in h370_)
              have d392_ : Dis (rrS b378_ aorr379_ (Rs.mk 0 ((lw.drop 0).take c))) (Own v235_) := Dis.fresh h383_ (Row.in h371_)
              have d393_ : Dis (rrS b378_ aorr379_ (Rs.mk 0 ((lw.drop 0).take c))) (One b218_) := Dis.fresh h383_ (In.one h372_)
              have d394_ : Dis (rrS b378_ aorr379_ (Rs.mk 0 ((lw.drop 0).take c))) (rrS b253_ ao3 r3) := Dis.fresh h383_ (RrAt.in h373_)
              have d395_ : Dis (rrS b378_ aorr379_ (Rs.mk 0 ((lw.drop 0).take c))) (Ar (cutA ao86_ 0 cap87_ 1) (B ((lw.drop 0).take c))) := Dis.fresh h383_ (Rd.in h376_)
              have T396_ := Fr.tr T366_ F385_
              have h397_ := ThingsAt.keep h367_ F385_ Dis.n0
              have h398_ := WrAt.keep h368_ F385_ Dis.n0
              have h399_ := Row.keep h369_ F385_ Dis.n0
              have h400_ := RrAt.keep h370_ F385_ Dis.n0
              have h401_ := Row.keep h371_ F385_ Dis.n0
              have h402_ := Fr.keep F385_ h372_ Dis.n0
              have h403_ := RrAt.keep h373_ F385_ Dis.n0
              have h404_ := Rd.keep' h376_ F385_ Dis.n0
              have N406_ : New w N0 (rrS b378_ aorr379_ (Rs.mk 0 ((lw.drop 0).take c))) := New.later' h383_ (Fr.size T366_)
              refine ⟨_, rfl, ?_⟩
              refine at_pures 5 (by kernel_rfl) (by kernel_rfl) ?_
              refine at_done (by kernel_rfl) ?_
              refine then_n ?_
              refine c_seq [1, 1, 1, 1, 1, 1, 1, 1, 1, 1, 1, 1, 1, 1, 0] [1, 1, 1, 1, 1, 1, 1, 1, 1, 1, 1, 1, 1, 1, 1] (by kernel_rfl) ?_
              refine c_seq [1, 1, 1, 1, 1, 1, 1, 1, 1, 1, 1, 1, 1, 1, 0, 0] [1, 1, 1, 1, 1, 1, 1, 1, 1, 1, 1, 1, 1, 1, 0, 1] (by kernel_rfl) ?_
              refine c_reg 33 wireBack_c_R33 (by kernel_rfl) ?_
              refine at_pures 3 (by kernel_rfl) (by kernel_rfl) ?_
              refine at_done (by kernel_rfl) ?_
              refine then_n ?_
              refine c_block 6 [1, 1, 1, 1, 1, 1, 1, 1, 1, 1, 1, 1, 1, 1, 0, 1, 0] (by kernel_rfl) ?_
              refine c_loop (fun a w' => ∃ (k4 : Nat), ∃ (ao4 : Option Addr), ∃ (cap4 : Nat), ∃ (r4 : Rs), (∃ u, a = mk 112 [(0, (.slice ao ts.length cap)), (1, (.int .i64 (c : Int))), (5, (.pointer (some ⟨b16_, 0, none⟩))), (8, (.slice ao86_ lw.length cap87_)), (9, (.pointer (some ⟨b92_, 0, none⟩))), (12, (.pointer (some ⟨b253_, 0, none⟩))), (15, (.pointer (some ⟨b378_, 0, none⟩))), (18, (.bool true)), (19, (.bool false)), (20, (.slice ao ts.length cap)), (21, (.bool (largeT ts))), (22, (.agg #[(.slice none 0 0)])), (23, (.pointer (some ⟨b16_, 0, none⟩))), (24, (.slice ao ts.length cap)), (25, (.int .i64 (ts.length : Int))), (26, (.int .i64 (k : Int))), (27, (.bool (decide ((k : Int) < (ts.length : Int))))), (35, (.pointer (some ⟨b16_, 0, none⟩))), (36, (.slice ao86_ lw.length cap87_)), (37, (.slice ao86_ lw.length cap87_)), (38, (.pointer (some ⟨b92_, 0, none⟩))), (39, (.slice ao ts.length cap)), (40, (.int .i64 (ts.length : Int))), (41, (.int .i64 (k2 : Int))), (42, (.bool (decide ((k2 : Int) < (ts.length : Int))))), (50, (.pointer (some ⟨b92_, 0, none⟩))), (51, (.int .i64 0)), (52, (.bool false)), (53, (.bool false)), (54, (.pointer (some ⟨b92_, 0, none⟩))), (55, (.int .i64 0)), (56, (.bool false)), (57, (.bool false)), (58, (.slice (some ⟨b186_, 0, none⟩) 0 0)), (59, (.slice ao86_ lw.length cap87_)), (60, v202_), (61, (.slice (some ⟨b218_, 0, none⟩) 1 1)), (62, v235_), (63, (.pointer (some ⟨b253_, 0, none⟩))), (64, (.slice ao ts.length cap)), (65, (.int .i64 (ts.length : Int))), (66, (.int .i64 (k3 : Int))), (67, (.bool (decide ((k3 : Int) < (ts.length : Int))))), (74, (.pointer (some ⟨b253_, 0, none⟩))), (75, (.int .i64 4)), (76, (.bool false)), (77, (.bool false)), (78, (.pointer (some ⟨b253_, 0, none⟩))), (79, (.int .i64 1)), (80, (.bool false)), (81, (.bool false)), (82, (.int .i64 (c : Int))), (83, (.bool (decide ((c : Int) < (0 : Int))))), (84, (.bool false)), (85, (.int .i64 (c : Int))), (86, (.slice ao86_ lw.length cap87_)), (87, (.int .i64 (lw.length : Int))), (88, (.bool (decide ((c : Int) ≥ (lw.length : Int))))), (89, (.bool (decide ((c : Int) ≥ (lw.length : Int))))), (90, (.slice ao86_ lw.length cap87_)), (91, (.int .i64 (c : Int))), (92, (.slice (cutA ao86_ 0 cap87_ 1) (((lw.drop 0).take c).length) cap87_)), (93, (.pointer (some ⟨b378_, 0, none⟩))), (94, (.slice ao ts.length cap)), (95, (.int .i64 (ts.length : Int))), (96, (.int .i64 (k4 : Int)))] u) ∧ (k4 ≤ ts.length) ∧ (r4 = readT ⟨0, (writeT ts).take c⟩ (ts.take k4)) ∧ (ThingsAt N w' ao ts) ∧ (WrAt 5 28 w' b16_ vw lw) ∧ (Row w' 5 1 (.slice ao86_ lw.length cap87_) (lw.length) (B lw)) ∧ (RrAt 67 w' b92_ ao2 cap2 r2) ∧ (Row w' 5 1 v235_ (([] ++ lw ++ [0]).length) (B ([] ++ lw ++ [0]))) ∧ (w'.heap[b218_]? = some (.cells #[(.int .u8 0)] 5 (0, 0))) ∧ (RrAt 67 w' b253_ ao3 cap3 r3) ∧ (Rd w' (cutA ao86_ 0 cap87_ 1) (B ((lw.drop 0).take c))) ∧ (RrAt 67 w' b378_ ao4 cap4 r4) ∧ (Dis (Old N) (rrS b378_ ao4 r4)) ∧ (Dis (wrS b16_ vw) (rrS b378_ ao4 r4)) ∧ (Dis (Own (.slice ao86_ lw.length cap87_)) (rrS b378_ ao4 r4)) ∧ (Dis (rrS b92_ ao2 r2) (rrS b378_ ao4 r4)) ∧ (Dis (Own v235_) (rrS b378_ ao4 r4)) ∧ (Dis (One b218_) (rrS b378_ ao4 r4)) ∧ (Dis (rrS b253_ ao3 r3) (rrS b378_ ao4 r4)) ∧ (Dis (Ar (cutA ao86_ 0 cap87_ 1) (B ((lw.drop 0).take c))) (rrS b378_ ao4 r4)) ∧ (New w N0 (rrS b378_ ao4 r4)) ∧ (Fr w w' N0)) (fun a _ => cnt (ts.length) 96 a) [1, 1, 1, 1, 1, 1, 1, 1, 1, 1, 1, 1, 1, 1, 0, 1, 0, 0] (by kernel_rfl) ⟨0, _, _, _, is_mk (by kernel_rfl) (by kernel_rfl) (by kernel_rfl), ⟨Nat.zero_le _, (by rw [hlw]; rfl), h397_, h398_, h399_, h400_, h401_, h402_, h403_, h404_, h381_, (Dis.sym d388_), (Dis.sym d389_), (Dis.sym d390_), (Dis.sym d391_), (Dis.sym d392_), (Dis.sym d393_), (Dis.sym d394_), (Dis.sym d395_), N406_, T396_⟩⟩ ?_
              rintro a408_ w409_ ⟨k4, ao4, cap4, r4, ⟨u410_, rfl⟩, ⟨hk4, hr4, q_0L407_, q_1L407_, q_2L407_, q_3L407_, q_4L407_, q_5L407_, q_6L407_, q_7L407_, q_8L407_, d_0_8L407_, d_1_8L407_, d_2_8L407_, d_3_8L407_, d_4_8L407_, d_5_8L407_, d_6_8L407_, d_7_8L407_, n_8L407_, hFrL407_⟩⟩
              have hRB4 : Byt r4.l := by rw [hr4]; exact readT_byt _ ((writeT_byt h_ts.ok).take _)
              have hRL4 : r4.l.length ≤ 30000 := by rw [hr4]; have h := readT_len (ts.take k4) ⟨0, (writeT ts).take c⟩; have h2 : ((writeT ts).take c).length ≤ (writeT ts).length := (by rw [List.length_take]; omega); rw [← hlw] at h2 h ⊢; exact Nat.le_trans h (by show ((lw).take c).length ≤ 30000; omega)
              refine c_seq [1, 1, 1, 1, 1, 1, 1, 1, 1, 1, 1, 1, 1, 1, 0, 1, 0, 0, 0] [1, 1, 1, 1, 1, 1, 1, 1, 1, 1, 1, 1, 1, 1, 0, 1, 0, 0, 1] (by kernel_rfl) ?_
              refine c_reg 34 wireBack_c_R34 (by kernel_rfl) ?_
              refine at_pures 1 (by kernel_rfl) (by kernel_rfl) ?_
              refine at_done (by kernel_rfl) ?_
              refine then_n ?_
              refine c_seq [1, 1, 1, 1, 1, 1, 1, 1, 1, 1, 1, 1, 1, 1, 0, 1, 0, 0, 1, 0] [1, 1, 1, 1, 1, 1, 1, 1, 1, 1, 1, 1, 1, 1, 0, 1, 0, 0, 1, 1] (by kernel_rfl) ?_
              refine c_if (.tmp 97) (decide ((k4 : Int) < (ts.length : Int))) [1, 1, 1, 1, 1, 1, 1, 1, 1, 1, 1, 1, 1, 1, 0, 1, 0, 0, 1, 0, 0] [1, 1, 1, 1, 1, 1, 1, 1, 1, 1, 1, 1, 1, 1, 0, 1, 0, 0, 1, 0, 1] (by kernel_rfl) (by kernel_rfl) (fun c411_ => ?_) (fun c411_ => ?_)
              · -- yes
                replace c411_ : (k4 : Int) < (ts.length : Int) := of_decide_eq_true c411_
                refine c_skip (by kernel_rfl) ?_
                refine then_n ?_
                refine c_seq [1, 1, 1, 1, 1, 1, 1, 1, 1, 1, 1, 1, 1, 1, 0, 1, 0, 0, 1, 1, 0] [1, 1, 1, 1, 1, 1, 1, 1, 1, 1, 1, 1, 1, 1, 0, 1, 0, 0, 1, 1, 1] (by kernel_rfl) ?_
                refine c_block 7 [1, 1, 1, 1, 1, 1, 1, 1, 1, 1, 1, 1, 1, 1, 0, 1, 0, 0, 1, 1, 0, 0] (by kernel_rfl) ?_
                refine c_seq [1, 1, 1, 1, 1, 1, 1, 1, 1, 1, 1, 1, 1, 1, 0, 1, 0, 0, 1, 1, 0, 0, 0] [1, 1, 1, 1, 1, 1, 1, 1, 1, 1, 1, 1, 1, 1, 0, 1, 0, 0, 1, 1, 0, 0, 1] (by kernel_rfl) ?_
                refine c_reg 35 wireBack_c_R35 (by kernel_rfl) ?_
                obtain ⟨x4, hx_x4⟩ : ∃ x, ts[k4]? = some x := ⟨_, List.getElem?_eq_getElem (by omega)⟩
                have hm_x4 := List.mem_of_getElem? hx_x4; have ho_x4 := ThingsAt.ok q_0L407_ x4 hm_x4; have hi_x4 := ThingsAt.in2 q_0L407_ x4 hm_x4; have hn_x4 := ho_x4.n
                have hxh4 := ho_x4.h; have hxb4 := hlg.2 x4 hm_x4
                obtain ⟨ad412_, ha413_⟩ := (ThingsAt.rd q_0L407_).has (k4 * 36) (by rw [cellsT_length]; omega)
                refine at_run (.pointer (some (ad412_.add (k4 * 36)))) _ (by kernel_rfl) (run_idx_o 22 (.tmp 94) (.tmp 96) 36 ao ad412_ ts.length cap .i64 k4 (by kernel_rfl) (by kernel_rfl) (by kernel_rfl) (by kernel_rfl) (by kernel_rfl) ha413_ (by omega)) ?_
                refine at_run (.agg (Thing.cells x4)) _ (by kernel_rfl) (run_loadEn 33 (.tmp 98) ao ad412_ (k4 * 36) 36 (cellsT ts) (Thing.cells x4) (by kernel_rfl) (by kernel_rfl) (by kernel_rfl) (by kernel_rfl) ha413_ (ThingsAt.rd q_0L407_) (by kernel_rfl) (cellsT_get ts k4 x4 hx_x4)) ?_
                refine at_do (by kernel_rfl) (op_new (.cells #[(.int .i64 0), (.int .u64 0), (.int .u8 0), (.int .u8 0), (.int .u8 0), (.int .u8 0), (.int .u8 0), (.int .u8 0), (.int .u8 0), (.int .u8 0), (.int .u8 0), (.int .u8 0), (.int .u8 0), (.int .u8 0), (.int .u8 0), (.int .u8 0), (.int .u8 0), (.int .u8 0), (.int .u8 0), (.int .u8 0), (.int .u8 0), (.int .u8 0), (.int .u8 0), (.int .u8 0), (.int .u8 0), (.int .u8 0), (.int .u8 0), (.int .u8 0), (.int .u8 0), (.int .u8 0), (.int .u8 0), (.int .u8 0), (.int .u8 0), (.int .u8 0), (.slice none 0 0), (.int .i64 0)] 33) (fun N => (.pointer (some ⟨N, 0, none⟩))) (fun _ => by kernel_rfl) (fun w415_ b414_ h416_ q417_ F418_ => ?_))
                have d419_ : Dis (One b414_) (Old N) := Dis.fresh (New.one q417_) (ThingsAt.in q_0L407_)
                have d420_ : Dis (One b414_) (wrS b16_ vw) := Dis.fresh (New.one q417_) (WrAt.in q_1L407_)
                have d421_ : Dis (One b414_) (Own (.slice ao86_ lw.length cap87_)) := Dis.fresh (New.one q417_) (Row.in q_2L407_)
                have d422_ : Dis (One b414_) (rrS b92_ ao2 r2) := Dis.fresh (New.one q417_) (RrAt.in q_3L407_)
                have d423_ : Dis (One b414_) (Own v235_) := Dis.fresh (New.one q417_) (Row.in q_4L407_)
                have d424_ : Dis (One b414_) (One b218_) := Dis.fresh (New.one q417_) (In.one q_5L407_)
                have d425_ : Dis (One b414_) (rrS b253_ ao3 r3) := Dis.fresh (New.one q417_) (RrAt.in q_6L407_)
                have d426_ : Dis (One b414_) (Ar (cutA ao86_ 0 cap87_ 1) (B ((lw.drop 0).take c))) := Dis.fresh (New.one q417_) (Rd.in q_7L407_)
                have d427_ : Dis (One b414_) (rrS b378_ ao4 r4) := Dis.fresh (New.one q417_) (RrAt.in q_8L407_)
                have d428_ : Dis (One b414_) (Ar x4.ao (B x4.b)) := Dis.fresh (New.one q417_) (Rd.in (ThingsAt.rdb q_0L407_ x4 hm_x4))
                have N429_ : New w N0 (One b414_) := New.made q417_ (Fr.size hFrL407_)
                have T430_ := Fr.tr hFrL407_ F418_
                have h431_ := ThingsAt.keep q_0L407_ F418_ Dis.n0
                have h432_ := WrAt.keep q_1L407_ F418_ Dis.n0
                have h433_ := Row.keep q_2L407_ F418_ Dis.n0
                have h434_ := RrAt.keep q_3L407_ F418_ Dis.n0
                have h435_ := Row.keep q_4L407_ F418_ Dis.n0
                have h436_ := Fr.keep F418_ q_5L407_ Dis.n0
                have h437_ := RrAt.keep q_6L407_ F418_ Dis.n0
                have h438_ := Rd.keep' q_7L407_ F418_ Dis.n0
                have h439_ := RrAt.keep q_8L407_ F418_ Dis.n0
                have h440_ := Rd.keep' (ThingsAt.rdb q_0L407_ x4 hm_x4) F418_ Dis.n0
                refine at_do (by kernel_rfl) (op_store 33 (.tmp 17) (.tmp 99) b414_ 0 (.agg (Thing.cells x4)) _ _ (Thing.cells x4) (by kernel_rfl) (by kernel_rfl) (by kernel_rfl) h416_ (by kernel_rfl) (by kernel_rfl) (by kernel_rfl) (by kernel_rfl) (fun w441_ h442_ z443_ F444_ => ?_))
                have T445_ := Fr.then T430_ F444_ N429_
                have h446_ := ThingsAt.keep h431_ F444_ (Dis.sym d419_)
                have h447_ := WrAt.keep h432_ F444_ (Dis.sym d420_)
                have h448_ := Row.keep h433_ F444_ (Dis.sym d421_)
                have h449_ := RrAt.keep h434_ F444_ (Dis.sym d422_)
                have h450_ := Row.keep h435_ F444_ (Dis.sym d423_)
                have h451_ := Fr.keep F444_ h436_ (Dis.sym d424_)
                have h452_ := RrAt.keep h437_ F444_ (Dis.sym d425_)
                have h453_ := Rd.keep' h438_ F444_ (Dis.sym d426_)
                have h454_ := RrAt.keep h439_ F444_ (Dis.sym d427_)
                have h455_ := Rd.keep' h440_ F444_ (Dis.sym d428_)
                refine at_done (by kernel_rfl) ?_
                refine then_n ?_
                refine c_reg 36 wireBack_c_R36 (by kernel_rfl) ?_
                refine at_pures 1 (by kernel_rfl) (by kernel_rfl) ?_
                refine at_loadN 33 (.tmp 17) b414_ 0 36 _ _ _ (Thing.cells x4) (by kernel_rfl) (by kernel_rfl) (by kernel_rfl) (by kernel_rfl) (by kernel_rfl) h442_ (by kernel_rfl) (by kernel_rfl) ?_
                refine at_do (by kernel_rfl) (op_call 27 #[(.tmp 100), (.tmp 101)] #[(.pointer (some ⟨b378_, 0, none⟩)), (.agg (Thing.cells x4))] (by kernel_rfl) (by kernel_rfl) (by kernel_rfl) ?_)
                have C464_ := read_c b378_ ao4 cap4 r4 x4 w441_ h455_ h454_ (Dis.sym (Sub.dis hi_x4 d_0_8L407_)) (by first | omega | with_reducible assumption | (simp only [List.length_append, List.length_cons, List.length_nil, putB_length]; omega) | decide) (by first | omega | with_reducible assumption | (simp only [List.length_append, List.length_cons, List.length_nil, putB_length]; omega) | decide) (by first | omega | with_reducible assumption | (simp only [List.length_append, List.length_cons, List.length_nil, putB_length]; omega) | decide) (by first | omega | with_reducible assumption | (simp only [List.length_append, List.length_cons, List.length_nil, putB_length]; omega) | decide)
                refine Calls.mono C464_ ?_
                rintro e463_ w461_ ⟨aorr456_, caprr457_, rfl, h458_, F462_, h460_⟩
                have T465_ := Fr.then T445_ F462_ (Sub.new Sub.inl n_8L407_)
                have d466_ : Dis (rrS b378_ aorr456_ (x4.r r4)) (Old N) := Dis.step (Dis.sym d_0_8L407_) h460_ (ThingsAt.in h446_)
                have h467_ := ThingsAt.keep h446_ F462_ (Dis.sub Sub.inl d_0_8L407_)
                have d468_ : Dis (rrS b378_ aorr456_ (x4.r r4)) (wrS b16_ vw) := Dis.step (Dis.sym d_1_8L407_) h460_ (WrAt.in h447_)
                have h469_ := WrAt.keep h447_ F462_ (Dis.sub Sub.inl d_1_8L407_)
                have d470_ : Dis (rrS b378_ aorr456_ (x4.r r4)) (Own (.slice ao86_ lw.length cap87_)) := Dis.step (Dis.sym d_2_8L407_) h460_ (Row.in h448_)
                have h471_ := Row.keep h448_ F462_ (Dis.sub Sub.inl d_2_8L407_)
                have d472_ : Dis (rrS b378_ aorr456_ (x4.r r4)) (rrS b92_ ao2 r2) := Dis.step (Dis.sym d_3_8L407_) h460_ (RrAt.in h449_)
                have h473_ := RrAt.keep h449_ F462_ (Dis.sub Sub.inl d_3_8L407_)
                have d474_ : Dis (rrS b378_ aorr456_ (x4.r r4)) (Own v235_) := Dis.step (Dis.sym d_4_8L407_) h460_ (Row.in h450_)
                have h475_ := Row.keep h450_ F462_ (Dis.sub Sub.inl d_4_8L407_)
                have d476_ : Dis (rrS b378_ aorr456_ (x4.r r4)) (One b218_) := Dis.step (Dis.sym d_5_8L407_) h460_ (In.one h451_)
                have h477_ := Fr.keep F462_ h451_ (Dis.sub Sub.inl d_5_8L407_)
                have d478_ : Dis (rrS b378_ aorr456_ (x4.r r4)) (rrS b253_ ao3 r3) := Dis.step (Dis.sym d_6_8L407_) h460_ (RrAt.in h452_)
                have h479_ := RrAt.keep h452_ F462_ (Dis.sub Sub.inl d_6_8L407_)
                have d480_ : Dis (rrS b378_ aorr456_ (x4.r r4)) (Ar (cutA ao86_ 0 cap87_ 1) (B ((lw.drop 0).take c))) := Dis.step (Dis.sym d_7_8L407_) h460_ (Rd.in h453_)
                have h481_ := Rd.keep' h453_ F462_ (Dis.sub Sub.inl d_7_8L407_)
                have d482_ : Dis (rrS b378_ aorr456_ (x4.r r4)) (Ar x4.ao (B x4.b)) := Dis.step (Dis.sym (Sub.dis hi_x4 d_0_8L407_)) h460_ (Rd.in h455_)
                have h483_ := Rd.keep' h455_ F462_ (Dis.sub Sub.inl (Sub.dis hi_x4 d_0_8L407_))
                have d484_ : Dis (rrS b378_ aorr456_ (x4.r r4)) (One b414_) := Dis.step (Dis.sym d427_) h460_ (In.one h442_)
                have h485_ := Fr.keep F462_ h442_ (Dis.sub Sub.inl d427_)
                have N486_ := New.trans n_8L407_ h460_ (Fr.size T445_)
                refine ⟨_, rfl, ?_⟩
                refine at_done (by kernel_rfl) ?_
                refine blk_n ?_
                refine then_n ?_
                refine c_reg 37 wireBack_c_R37 (by kernel_rfl) ?_
                refine at_int (kd := .i64) (IntKind.i64.wrap ((k4 : Int) + (1 : Int))) ((k4 : Int) + (1 : Int)) (by kernel_rfl) (by kernel_rfl) (wrapN_i64 (by omega) (by omega)) ?_
                refine at_pures 2 (by kernel_rfl) (by kernel_rfl) ?_
                refine at_done (by kernel_rfl) ?_
                refine then_n ?_
                exact ⟨⟨k4 + 1, aorr456_, caprr457_, x4.r r4, is_mk (by kernel_rfl) (by kernel_rfl) (by kernel_rfl), ⟨(by omega), (by rw [hr4, readT_snoc hx_x4]), h467_, h469_, h471_, h473_, h475_, h477_, h479_, h481_, h458_, (Dis.sym d466_), (Dis.sym d468_), (Dis.sym d470_), (Dis.sym d472_), (Dis.sym d474_), (Dis.sym d476_), (Dis.sym d478_), (Dis.sym d480_), N486_, T465_⟩⟩, cnt_lt (k := (k4 : Int)) (k' := ((k4 : Int) + (1 : Int))) (by kernel_rfl) (by kernel_rfl) (by omega) (by omega)⟩
              · -- no
                replace c411_ : ¬ ((k4 : Int) < (ts.length : Int)) := of_decide_eq_false c411_
                refine c_exit 6 (by kernel_rfl) ?_
                refine then_e ?_
                refine then_e ?_
                refine blk_hit ?_
                refine then_n ?_
                refine c_seq [1, 1, 1, 1, 1, 1, 1, 1, 1, 1, 1, 1, 1, 1, 1, 0] [1, 1, 1, 1, 1, 1, 1, 1, 1, 1, 1, 1, 1, 1, 1, 1] (by kernel_rfl) ?_
                refine c_reg 38 wireBack_c_R38 (by kernel_rfl) ?_
                refine at_pures 1 (by kernel_rfl) (by kernel_rfl) ?_
                refine at_do (by kernel_rfl) (op_call 25 #[(.tmp 104)] #[(.pointer (some ⟨b378_, 0, none⟩))] (by kernel_rfl) (by kernel_rfl) (by kernel_rfl) ?_)
                have C491_ := rend_c b378_ ao4 cap4 r4 w409_ q_8L407_  
                refine Calls.mono C491_ ?_
                rintro e490_ w488_ ⟨rfl, F489_⟩
                have T492_ := Fr.tr hFrL407_ F489_
                have h493_ := ThingsAt.keep q_0L407_ F489_ Dis.n0
                have h494_ := WrAt.keep q_1L407_ F489_ Dis.n0
                have h495_ := Row.keep q_2L407_ F489_ Dis.n0
                have h496_ := RrAt.keep q_3L407_ F489_ Dis.n0
                have h497_ := Row.keep q_4L407_ F489_ Dis.n0
                have h498_ := Fr.keep F489_ q_5L407_ Dis.n0
                have h499_ := RrAt.keep q_6L407_ F489_ Dis.n0
                have h500_ := Rd.keep' q_7L407_ F489_ Dis.n0
                have h501_ := RrAt.keep q_8L407_ F489_ Dis.n0
                refine ⟨(.int .i64 3), (by rw [hr4, List.take_of_length_le (l := ts) (i := k4) (by omega), readT_cut h_ts.ok hOK (by rw [← hlw]; omega)]; rfl), ?_⟩
                refine at_pures 5 (by kernel_rfl) (by kernel_rfl) ?_
                refine at_do (by kernel_rfl) (op_call 23 #[(.tmp 108)] #[(.pointer (some ⟨b378_, 0, none⟩))] (by kernel_rfl) (by kernel_rfl) (by kernel_rfl) ?_)
                have C506_ := rleft_c b378_ ao4 cap4 r4 w488_ h501_  
                refine Calls.mono C506_ ?_
                rintro e505_ w503_ ⟨rfl, F504_⟩
                have T507_ := Fr.tr T492_ F504_
                have h508_ := ThingsAt.keep h493_ F504_ Dis.n0
                have h509_ := WrAt.keep h494_ F504_ Dis.n0
                have h510_ := Row.keep h495_ F504_ Dis.n0
                have h511_ := RrAt.keep h496_ F504_ Dis.n0
                have h512_ := Row.keep h497_ F504_ Dis.n0
                have h513_ := Fr.keep F504_ h498_ Dis.n0
                have h514_ := RrAt.keep h499_ F504_ Dis.n0
                have h515_ := Rd.keep' h500_ F504_ Dis.n0
                have h516_ := RrAt.keep h501_ F504_ Dis.n0
                refine ⟨(.int .i64 0), (by rw [hr4, List.take_of_length_le (l := ts) (i := k4) (by omega), readT_cut h_ts.ok hOK (by rw [← hlw]; omega)]; rfl), ?_⟩
                refine at_pures 9 (by kernel_rfl) (by kernel_rfl) ?_
                refine at_done (by kernel_rfl) ?_
                refine then_n ?_
                refine c_ret (by kernel_rfl) ?_
                refine fin_ret (.bool true) (by kernel_rfl) (by kernel_rfl) ?_
                exact ⟨rfl, T507_⟩
end Go.Proofs.Ytboggbknebepdaa
