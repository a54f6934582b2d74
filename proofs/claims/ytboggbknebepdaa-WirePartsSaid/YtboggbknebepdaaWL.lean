/- The walks of layer 4's law. -/
import Derived.Test.YtboggbknebepdaaWF
import Derived.Test.YtboggbknebepdaaThing
namespace Go.Proofs.Ytboggbknebepdaa
open Go Go.RowKit Go.Alm

noncomputable def large_c_R0 : Array Oper := rAt Try.prog 8 [0]
noncomputable def large_c_R1 : Array Oper := rAt Try.prog 8 [1, 0, 0]
noncomputable def large_c_R2 : Array Oper := rAt Try.prog 8 [1, 0, 1, 0, 0]
noncomputable def large_c_R3 : Array Oper := rAt Try.prog 8 [1, 1, 0, 0]
noncomputable def large_c_R4 : Array Oper := rAt Try.prog 8 [1, 1, 0, 1, 0, 0, 0]
noncomputable def large_c_R5 : Array Oper := rAt Try.prog 8 [1, 1, 0, 1, 0, 0, 1, 1, 0, 0, 0]
noncomputable def large_c_R6 : Array Oper := rAt Try.prog 8 [1, 1, 0, 1, 0, 0, 1, 1, 0, 0, 1, 0]
noncomputable def large_c_R7 : Array Oper := rAt Try.prog 8 [1, 1, 0, 1, 0, 0, 1, 1, 0, 0, 1, 1, 0, 0]
noncomputable def large_c_R8 : Array Oper := rAt Try.prog 8 [1, 1, 0, 1, 0, 0, 1, 1, 1]
noncomputable def large_c_R9 : Array Oper := rAt Try.prog 8 [1, 1, 1, 0]
set_option maxRecDepth 100000 in
theorem large_c (N : Nat) (ao : Option Addr) (cap : Nat) (ts : List Thing) (w : World) (h_ts : ThingsAt N w ao ts) (hn : ts.length ≤ 9223372036854775807) :
    Calls Try.prog 8 #[(.slice ao ts.length cap)] w fun e w' => e = .returned (.bool (largeT ts)) ∧ Fr w w' N0 := by
  have hcap := fun x h => (h_ts.ok x h).cap; have hlen := fun x h => (h_ts.ok x h).len
  refine c_enter (mk 19 [(0, (.slice ao ts.length cap))] (fun _ => undef)) Try.func8 (by kernel_rfl) (by kernel_rfl) ?_
  refine c_seq [0] [1] (by kernel_rfl) ?_
  refine c_reg 0 large_c_R0 (by kernel_rfl) ?_
  refine at_pures 1 (by kernel_rfl) (by kernel_rfl) ?_
  refine at_done (by kernel_rfl) ?_
  refine then_n ?_
  refine c_seq [1, 0] [1, 1] (by kernel_rfl) ?_
  refine c_seq [1, 0, 0] [1, 0, 1] (by kernel_rfl) ?_
  refine c_reg 1 large_c_R1 (by kernel_rfl) ?_
  refine at_pures 3 (by kernel_rfl) (by kernel_rfl) ?_
  refine at_done (by kernel_rfl) ?_
  refine then_n ?_
  refine c_if (.tmp 7) (decide ((ts.length : Int) > (100 : Int))) [1, 0, 1, 0] [1, 0, 1, 1] (by kernel_rfl) (by kernel_rfl) (fun c1_ => ?_) (fun c1_ => ?_)
  · -- yes
    replace c1_ : (ts.length : Int) > (100 : Int) := of_decide_eq_true c1_
    refine c_seq [1, 0, 1, 0, 0] [1, 0, 1, 0, 1] (by kernel_rfl) ?_
    refine c_reg 2 large_c_R2 (by kernel_rfl) ?_
    refine at_pures 1 (by kernel_rfl) (by kernel_rfl) ?_
    refine at_done (by kernel_rfl) ?_
    refine then_n ?_
    refine c_ret (by kernel_rfl) ?_
    refine then_r ?_
    refine fin_ret (.bool true) (by kernel_rfl) (by kernel_rfl) ?_
    exact ⟨(by first | rw [largeT_many (by omega)] | rw [largeT_long hx_x (by omega)]), (Fr.refl w N0)⟩
  · -- no
    replace c1_ : ¬ ((ts.length : Int) > (100 : Int)) := of_decide_eq_false c1_
    refine c_skip (by kernel_rfl) ?_
    refine then_n ?_
    refine c_seq [1, 1, 0] [1, 1, 1] (by kernel_rfl) ?_
    refine c_seq [1, 1, 0, 0] [1, 1, 0, 1] (by kernel_rfl) ?_
    refine c_reg 3 large_c_R3 (by kernel_rfl) ?_
    refine at_pures 3 (by kernel_rfl) (by kernel_rfl) ?_
    refine at_done (by kernel_rfl) ?_
    refine then_n ?_
    refine c_block 0 [1, 1, 0, 1, 0] (by kernel_rfl) ?_
    refine c_loop (fun a w' => ∃ (k : Nat), (∃ u, a = mk 19 [(0, (.slice ao ts.length cap)), (5, (.slice ao ts.length cap)), (6, (.int .i64 (ts.length : Int))), (7, (.bool (decide ((ts.length : Int) > (100 : Int))))), (8, (.slice ao ts.length cap)), (9, (.int .i64 (ts.length : Int))), (10, (.int .i64 (k : Int)))] u) ∧ (k ≤ ts.length) ∧ (∀ y ∈ ts.take k, y.b.length ≤ 300) ∧ (ThingsAt N w' ao ts) ∧ (Fr w w' N0)) (fun a _ => cnt (ts.length) 10 a) [1, 1, 0, 1, 0, 0] (by kernel_rfl) ⟨0, is_mk (by kernel_rfl) (by kernel_rfl) (by kernel_rfl), ⟨Nat.zero_le _, (by simp), h_ts, (Fr.refl w N0)⟩⟩ ?_
    rintro a3_ w4_ ⟨k, ⟨u5_, rfl⟩, ⟨hk, hS, q_0L2_, hFrL2_⟩⟩
    refine c_seq [1, 1, 0, 1, 0, 0, 0] [1, 1, 0, 1, 0, 0, 1] (by kernel_rfl) ?_
    refine c_reg 4 large_c_R4 (by kernel_rfl) ?_
    refine at_pures 1 (by kernel_rfl) (by kernel_rfl) ?_
    refine at_done (by kernel_rfl) ?_
    refine then_n ?_
    refine c_seq [1, 1, 0, 1, 0, 0, 1, 0] [1, 1, 0, 1, 0, 0, 1, 1] (by kernel_rfl) ?_
    refine c_if (.tmp 11) (decide ((k : Int) < (ts.length : Int))) [1, 1, 0, 1, 0, 0, 1, 0, 0] [1, 1, 0, 1, 0, 0, 1, 0, 1] (by kernel_rfl) (by kernel_rfl) (fun c6_ => ?_) (fun c6_ => ?_)
    · -- yes
      replace c6_ : (k : Int) < (ts.length : Int) := of_decide_eq_true c6_
      refine c_skip (by kernel_rfl) ?_
      refine then_n ?_
      refine c_seq [1, 1, 0, 1, 0, 0, 1, 1, 0] [1, 1, 0, 1, 0, 0, 1, 1, 1] (by kernel_rfl) ?_
      refine c_block 1 [1, 1, 0, 1, 0, 0, 1, 1, 0, 0] (by kernel_rfl) ?_
      refine c_seq [1, 1, 0, 1, 0, 0, 1, 1, 0, 0, 0] [1, 1, 0, 1, 0, 0, 1, 1, 0, 0, 1] (by kernel_rfl) ?_
      refine c_reg 5 large_c_R5 (by kernel_rfl) ?_
      obtain ⟨x, hx_x⟩ : ∃ x, ts[k]? = some x := ⟨_, List.getElem?_eq_getElem (by omega)⟩
      have hm_x := List.mem_of_getElem? hx_x; have ho_x := ThingsAt.ok q_0L2_ x hm_x; have hi_x := ThingsAt.in2 q_0L2_ x hm_x; have hn_x := ho_x.n
      obtain ⟨ad7_, ha8_⟩ := (ThingsAt.rd q_0L2_).has (k * 36) (by rw [cellsT_length]; omega)
      refine at_run (.pointer (some (ad7_.add (k * 36)))) _ (by kernel_rfl) (run_idx_o 22 (.tmp 8) (.tmp 10) 36 ao ad7_ ts.length cap .i64 k (by kernel_rfl) (by kernel_rfl) (by kernel_rfl) (by kernel_rfl) (by kernel_rfl) ha8_ (by omega)) ?_
      refine at_run (.agg (Thing.cells x)) _ (by kernel_rfl) (run_loadEn 33 (.tmp 12) ao ad7_ (k * 36) 36 (cellsT ts) (Thing.cells x) (by kernel_rfl) (by kernel_rfl) (by kernel_rfl) (by kernel_rfl) ha8_ (ThingsAt.rd q_0L2_) (by kernel_rfl) (cellsT_get ts k x hx_x)) ?_
      refine at_do (by kernel_rfl) (op_new (.cells #[(.int .i64 0), (.int .u64 0), (.int .u8 0), (.int .u8 0), (.int .u8 0), (.int .u8 0), (.int .u8 0), (.int .u8 0), (.int .u8 0), (.int .u8 0), (.int .u8 0), (.int .u8 0), (.int .u8 0), (.int .u8 0), (.int .u8 0), (.int .u8 0), (.int .u8 0), (.int .u8 0), (.int .u8 0), (.int .u8 0), (.int .u8 0), (.int .u8 0), (.int .u8 0), (.int .u8 0), (.int .u8 0), (.int .u8 0), (.int .u8 0), (.int .u8 0), (.int .u8 0), (.int .u8 0), (.int .u8 0), (.int .u8 0), (.int .u8 0), (.int .u8 0), (.slice none 0 0), (.int .i64 0)] 33) (fun N => (.pointer (some ⟨N, 0, none⟩))) (fun _ => by kernel_rfl) (fun w10_ b9_ h11_ q12_ F13_ => ?_))
      have d14_ : Dis (One b9_) (Old N) := Dis.fresh (New.one q12_) (ThingsAt.in q_0L2_)
      have d15_ : Dis (One b9_) (Ar x.ao (B x.b)) := Dis.fresh (New.one q12_) (Rd.in (ThingsAt.rdb q_0L2_ x hm_x))
      have N16_ : New w N0 (One b9_) := New.made q12_ (Fr.size hFrL2_)
      have T17_ := Fr.tr hFrL2_ F13_
      have h18_ := ThingsAt.keep q_0L2_ F13_ Dis.n0
      have h19_ := Rd.keep' (ThingsAt.rdb q_0L2_ x hm_x) F13_ Dis.n0
      refine at_do (by kernel_rfl) (op_store 33 (.tmp 4) (.tmp 13) b9_ 0 (.agg (Thing.cells x)) _ _ (Thing.cells x) (by kernel_rfl) (by kernel_rfl) (by kernel_rfl) h11_ (by kernel_rfl) (by kernel_rfl) (by kernel_rfl) (by kernel_rfl) (fun w20_ h21_ z22_ F23_ => ?_))
      have T24_ := Fr.then T17_ F23_ N16_
      have h25_ := ThingsAt.keep h18_ F23_ (Dis.sym d14_)
      have h26_ := Rd.keep' h19_ F23_ (Dis.sym d15_)
      refine at_done (by kernel_rfl) ?_
      refine then_n ?_
      refine c_seq [1, 1, 0, 1, 0, 0, 1, 1, 0, 0, 1, 0] [1, 1, 0, 1, 0, 0, 1, 1, 0, 0, 1, 1] (by kernel_rfl) ?_
      refine c_reg 6 large_c_R6 (by kernel_rfl) ?_
      refine at_pures 1 (by kernel_rfl) (by kernel_rfl) ?_
      refine at_load1 26 (.tmp 14) b9_ 34 _ _ _ (.slice x.ao x.b.length x.cap) (by kernel_rfl) (by kernel_rfl) (by kernel_rfl) (by kernel_rfl) h21_ (by kernel_rfl) ?_
      refine at_pures 4 (by kernel_rfl) (by kernel_rfl) ?_
      refine at_done (by kernel_rfl) ?_
      refine then_n ?_
      refine c_if (.tmp 17) (decide ((x.b.length : Int) > (300 : Int))) [1, 1, 0, 1, 0, 0, 1, 1, 0, 0, 1, 1, 0] [1, 1, 0, 1, 0, 0, 1, 1, 0, 0, 1, 1, 1] (by kernel_rfl) (by kernel_rfl) (fun c27_ => ?_) (fun c27_ => ?_)
      · -- yes
        replace c27_ : (x.b.length : Int) > (300 : Int) := of_decide_eq_true c27_
        refine c_seq [1, 1, 0, 1, 0, 0, 1, 1, 0, 0, 1, 1, 0, 0] [1, 1, 0, 1, 0, 0, 1, 1, 0, 0, 1, 1, 0, 1] (by kernel_rfl) ?_
        refine c_reg 7 large_c_R7 (by kernel_rfl) ?_
        refine at_pures 1 (by kernel_rfl) (by kernel_rfl) ?_
        refine at_done (by kernel_rfl) ?_
        refine then_n ?_
        refine c_ret (by kernel_rfl) ?_
        refine blk_r ?_
        refine then_r ?_
        refine then_r ?_
        refine blk_r ?_
        refine then_r ?_
        refine fin_ret (.bool true) (by kernel_rfl) (by kernel_rfl) ?_
        exact ⟨(by first | rw [largeT_many (by omega)] | rw [largeT_long hx_x (by omega)]), T24_⟩
      · -- no
        replace c27_ : ¬ ((x.b.length : Int) > (300 : Int)) := of_decide_eq_false c27_
        refine c_skip (by kernel_rfl) ?_
        refine blk_n ?_
        refine then_n ?_
        refine c_reg 8 large_c_R8 (by kernel_rfl) ?_
        refine at_int (kd := .i64) (IntKind.i64.wrap ((k : Int) + (1 : Int))) ((k : Int) + (1 : Int)) (by kernel_rfl) (by kernel_rfl) (wrapN_i64 (by omega) (by omega)) ?_
        refine at_pures 2 (by kernel_rfl) (by kernel_rfl) ?_
        refine at_done (by kernel_rfl) ?_
        refine then_n ?_
        exact ⟨⟨k + 1, is_mk (by kernel_rfl) (by kernel_rfl) (by kernel_rfl), ⟨(by omega), upto_step (p := fun y => y.b.length ≤ 300) hS hx_x (by omega), h25_, T24_⟩⟩, cnt_lt (k := (k : Int)) (k' := ((k : Int) + (1 : Int))) (by kernel_rfl) (by kernel_rfl) (by omega) (by omega)⟩
    · -- no
      replace c6_ : ¬ ((k : Int) < (ts.length : Int)) := of_decide_eq_false c6_
      refine c_exit 0 (by kernel_rfl) ?_
      refine then_e ?_
      refine then_e ?_
      refine blk_hit ?_
      refine then_n ?_
      refine c_seq [1, 1, 1, 0] [1, 1, 1, 1] (by kernel_rfl) ?_
      refine c_reg 9 large_c_R9 (by kernel_rfl) ?_
      refine at_pures 1 (by kernel_rfl) (by kernel_rfl) ?_
      refine at_done (by kernel_rfl) ?_
      refine then_n ?_
      refine c_ret (by kernel_rfl) ?_
      refine fin_ret (.bool false) (by kernel_rfl) (by kernel_rfl) ?_
      exact ⟨(by rw [List.take_of_length_le (by omega)] at hS; rw [largeT_not (by omega) hS]), hFrL2_⟩

noncomputable def write_c_R0 : Array Oper := rAt Try.prog 9 [0]
noncomputable def write_c_R1 : Array Oper := rAt Try.prog 9 [1, 0, 0]
noncomputable def write_c_R2 : Array Oper := rAt Try.prog 9 [1, 0, 1, 0, 0]
noncomputable def write_c_R3 : Array Oper := rAt Try.prog 9 [1, 0, 1, 0, 1, 0]
noncomputable def write_c_R12 : Array Oper := rAt Try.prog 9 [1, 1, 0]
noncomputable def write_c_R4 : Array Oper := rAt Try.prog 9 [1, 0, 1, 0, 1, 1, 0]
noncomputable def write_c_R5 : Array Oper := rAt Try.prog 9 [1, 0, 1, 0, 1, 1, 1, 0]
noncomputable def write_c_R6 : Array Oper := rAt Try.prog 9 [1, 0, 1, 0, 1, 1, 1, 1, 0]
noncomputable def write_c_R7 : Array Oper := rAt Try.prog 9 [1, 0, 1, 0, 1, 1, 1, 1, 1, 0]
noncomputable def write_c_R8 : Array Oper := rAt Try.prog 9 [1, 0, 1, 0, 1, 1, 1, 1, 1, 1, 0]
noncomputable def write_c_R9 : Array Oper := rAt Try.prog 9 [1, 0, 1, 0, 1, 1, 1, 1, 1, 1, 1, 0]
noncomputable def write_c_R10 : Array Oper := rAt Try.prog 9 [1, 0, 1, 0, 1, 1, 1, 1, 1, 1, 1, 1, 0]
noncomputable def write_c_R11 : Array Oper := rAt Try.prog 9 [1, 0, 1, 0, 1, 1, 1, 1, 1, 1, 1, 1, 1, 0, 0]
set_option maxRecDepth 100000 in
theorem write_c (bw : Nat) (v : Value) (l : List Nat) (x : Thing) (w : World) (h_xb : Rd w x.ao (B x.b)) (h_wr : WrAt 5 28 w bw v l) (d_wr_xb : Dis (wrS bw v) (Ar x.ao (B x.b))) (hx : x.Ok) (hl : l.length ≤ 900000) (hxl : x.b.length ≤ 1000000) :
    Calls Try.prog 9 #[(.pointer (some ⟨bw, 0, none⟩)), (.agg (Thing.cells x))] w fun e w' => ∃ (v_wr' : Value), e = .returned (.bool x.okW) ∧ WrAt 5 28 w' bw v_wr' (l ++ x.w) ∧ Fr w w' (wrS bw v) ∧ New w (wrS bw v) (wrS bw v_wr') := by
  have hn := hx.n
  refine c_enter (mk 39 [(0, (.pointer (some ⟨bw, 0, none⟩))), (1, (.agg (Thing.cells x)))] (fun _ => undef)) Try.func9 (by kernel_rfl) (by kernel_rfl) ?_
  refine c_seq [0] [1] (by kernel_rfl) ?_
  refine c_reg 0 write_c_R0 (by kernel_rfl) ?_
  refine at_do (by kernel_rfl) (op_new (.cells (Thing.cells x) 33) (fun N => (.pointer (some ⟨N, 0, none⟩))) (fun _ => by kernel_rfl) (fun w2_ b1_ h3_ q4_ F5_ => ?_))
  have d6_ : Dis (One b1_) (Ar x.ao (B x.b)) := Dis.fresh (New.one q4_) (Rd.in h_xb)
  have d7_ : Dis (One b1_) (wrS bw v) := Dis.fresh (New.one q4_) (WrAt.in h_wr)
  have N8_ : New w (wrS bw v) (One b1_) := New.made q4_ (Fr.size (Fr.refl w (wrS bw v)))
  have T9_ := Fr.tr (Fr.refl w (wrS bw v)) F5_
  refine at_pures 2 (by kernel_rfl) (by kernel_rfl) ?_
  refine at_done (by kernel_rfl) ?_
  refine then_n ?_
  refine c_seq [1, 0] [1, 1] (by kernel_rfl) ?_
  refine c_seq [1, 0, 0] [1, 0, 1] (by kernel_rfl) ?_
  refine c_reg 1 write_c_R1 (by kernel_rfl) ?_
  refine at_pures 1 (by kernel_rfl) (by kernel_rfl) ?_
  refine at_load1 3 (.tmp 5) b1_ 0 _ _ _ (.int .i64 x.kind) (by kernel_rfl) (by kernel_rfl) (by kernel_rfl) (by kernel_rfl) h3_ (by kernel_rfl) ?_
  refine at_done (by kernel_rfl) ?_
  refine then_n ?_
  refine c_block 0 [1, 0, 1, 0] (by kernel_rfl) ?_
  refine c_seq [1, 0, 1, 0, 0] [1, 0, 1, 0, 1] (by kernel_rfl) ?_
  refine c_reg 2 write_c_R2 (by kernel_rfl) ?_
  refine at_pures 2 (by kernel_rfl) (by kernel_rfl) ?_
  refine at_done (by kernel_rfl) ?_
  refine then_n ?_
  refine c_if (.tmp 7) (x.kind == (0 : Int)) [1, 0, 1, 0, 1, 0] [1, 0, 1, 0, 1, 1] (by kernel_rfl) (by kernel_rfl) (fun c10_ => ?_) (fun c10_ => ?_)
  · -- yes
    replace c10_ : x.kind = (0 : Int) := by simpa using c10_
    refine c_reg 3 write_c_R3 (by kernel_rfl) ?_
    refine at_pures 2 (by kernel_rfl) (by kernel_rfl) ?_
    refine at_load1 29 (.tmp 10) b1_ 1 _ _ _ (.int .u64 (x.n : Int)) (by kernel_rfl) (by kernel_rfl) (by kernel_rfl) (by kernel_rfl) h3_ (by kernel_rfl) ?_
    refine at_int (kd := .u8) (IntKind.u8.wrap ((x.n : Int))) (((x.n % 256 : Nat) : Int)) (by kernel_rfl) (by kernel_rfl) (by rw [wrap_u8]; rfl) ?_
    have h11_ := Rd.keep' h_xb F5_ Dis.n0
    have h12_ := WrAt.keep h_wr F5_ Dis.n0
    refine at_do (by kernel_rfl) (op_call 30 #[(.tmp 9), (.tmp 12)] #[(.pointer (some ⟨bw, 0, none⟩)), (.int .u8 ((x.n % 256 : Nat) : Int))] (by kernel_rfl) (by kernel_rfl) (by kernel_rfl) ?_)
    have C19_ := byte_c bw v l (x.n % 256 : Nat) w2_ h12_ (by omega) (by omega)
    refine Calls.mono C19_ ?_
    rintro e18_ w16_ ⟨rfl, v13_, h14_, F17_, N15_⟩
    refine ⟨_, rfl, ?_⟩
    have T20_ := Fr.then T9_ F17_ (New.refl w (wrS bw v))
    have d21_ : Dis (wrS bw v13_) (Ar x.ao (B x.b)) := Dis.step d_wr_xb N15_ (Rd.in h11_)
    have h22_ := Rd.keep' h11_ F17_ (Dis.sym d_wr_xb)
    have d23_ : Dis (wrS bw v13_) (One b1_) := Dis.step (Dis.sym d7_) N15_ (In.one h3_)
    have h24_ := Fr.keep F17_ h3_ d7_
    have N25_ : New w (wrS bw v) (wrS bw v13_) := New.trans (New.refl w (wrS bw v)) N15_ (Fr.size T9_)
    refine at_done (by kernel_rfl) ?_
    refine blk_n ?_
    refine then_n ?_
    refine c_seq [1, 1, 0] [1, 1, 1] (by kernel_rfl) ?_
    refine c_reg 12 write_c_R12 (by kernel_rfl) ?_
    refine at_pures 1 (by kernel_rfl) (by kernel_rfl) ?_
    refine at_done (by kernel_rfl) ?_
    refine then_n ?_
    refine c_ret (by kernel_rfl) ?_
    refine fin_ret (.bool true) (by kernel_rfl) (by kernel_rfl) ?_
    have hw : l ++ x.w = l ++ putB (x.n % 256 : Nat) 1 1 := by unfold Thing.w; first | rw [if_pos (by omega)] | rw [if_neg (by omega), if_pos (by omega)] | rw [if_neg (by omega), if_neg (by omega), if_pos (by omega)] | rw [if_neg (by omega), if_neg (by omega), if_neg (by omega), if_pos (by omega)] | rw [if_neg (by omega), if_neg (by omega), if_neg (by omega), if_neg (by omega), if_pos (by omega)] | rw [if_neg (by omega), if_neg (by omega), if_neg (by omega), if_neg (by omega), if_neg (by omega), List.append_nil]
    rw [hw]
    exact ⟨v13_, (by unfold Thing.okW; first | rw [if_pos (by omega)] | rw [if_neg (by omega)]), h14_, T20_, N25_⟩
  · -- no
    replace c10_ : x.kind ≠ (0 : Int) := by simpa using c10_
    refine c_seq [1, 0, 1, 0, 1, 1, 0] [1, 0, 1, 0, 1, 1, 1] (by kernel_rfl) ?_
    refine c_reg 4 write_c_R4 (by kernel_rfl) ?_
    refine at_pures 2 (by kernel_rfl) (by kernel_rfl) ?_
    refine at_done (by kernel_rfl) ?_
    refine then_n ?_
    refine c_if (.tmp 14) (x.kind == (1 : Int)) [1, 0, 1, 0, 1, 1, 1, 0] [1, 0, 1, 0, 1, 1, 1, 1] (by kernel_rfl) (by kernel_rfl) (fun c26_ => ?_) (fun c26_ => ?_)
    · -- yes
      replace c26_ : x.kind = (1 : Int) := by simpa using c26_
      refine c_reg 5 write_c_R5 (by kernel_rfl) ?_
      refine at_pures 2 (by kernel_rfl) (by kernel_rfl) ?_
      refine at_load1 29 (.tmp 17) b1_ 1 _ _ _ (.int .u64 (x.n : Int)) (by kernel_rfl) (by kernel_rfl) (by kernel_rfl) (by kernel_rfl) h3_ (by kernel_rfl) ?_
      refine at_int (kd := .u32) (IntKind.u32.wrap ((x.n : Int))) (((x.n % 4294967296 : Nat) : Int)) (by kernel_rfl) (by kernel_rfl) (by rw [wrap_u32]; rfl) ?_
      have h27_ := Rd.keep' h_xb F5_ Dis.n0
      have h28_ := WrAt.keep h_wr F5_ Dis.n0
      refine at_do (by kernel_rfl) (op_call 28 #[(.tmp 16), (.tmp 19)] #[(.pointer (some ⟨bw, 0, none⟩)), (.int .u32 ((x.n % 4294967296 : Nat) : Int))] (by kernel_rfl) (by kernel_rfl) (by kernel_rfl) ?_)
      have C35_ := num_c bw v l (x.n % 4294967296 : Nat) w2_ h28_ (by omega) (by omega)
      refine Calls.mono C35_ ?_
      rintro e34_ w32_ ⟨rfl, v29_, h30_, F33_, N31_⟩
      refine ⟨_, rfl, ?_⟩
      have T36_ := Fr.then T9_ F33_ (New.refl w (wrS bw v))
      have d37_ : Dis (wrS bw v29_) (Ar x.ao (B x.b)) := Dis.step d_wr_xb N31_ (Rd.in h27_)
      have h38_ := Rd.keep' h27_ F33_ (Dis.sym d_wr_xb)
      have d39_ : Dis (wrS bw v29_) (One b1_) := Dis.step (Dis.sym d7_) N31_ (In.one h3_)
      have h40_ := Fr.keep F33_ h3_ d7_
      have N41_ : New w (wrS bw v) (wrS bw v29_) := New.trans (New.refl w (wrS bw v)) N31_ (Fr.size T9_)
      refine at_done (by kernel_rfl) ?_
      refine blk_n ?_
      refine then_n ?_
      refine c_seq [1, 1, 0] [1, 1, 1] (by kernel_rfl) ?_
      refine c_reg 12 write_c_R12 (by kernel_rfl) ?_
      refine at_pures 1 (by kernel_rfl) (by kernel_rfl) ?_
      refine at_done (by kernel_rfl) ?_
      refine then_n ?_
      refine c_ret (by kernel_rfl) ?_
      refine fin_ret (.bool true) (by kernel_rfl) (by kernel_rfl) ?_
      have hw : l ++ x.w = l ++ putB (x.n % 4294967296 : Nat) 4 4 := by unfold Thing.w; first | rw [if_pos (by omega)] | rw [if_neg (by omega), if_pos (by omega)] | rw [if_neg (by omega), if_neg (by omega), if_pos (by omega)] | rw [if_neg (by omega), if_neg (by omega), if_neg (by omega), if_pos (by omega)] | rw [if_neg (by omega), if_neg (by omega), if_neg (by omega), if_neg (by omega), if_pos (by omega)] | rw [if_neg (by omega), if_neg (by omega), if_neg (by omega), if_neg (by omega), if_neg (by omega), List.append_nil]
      rw [hw]
      exact ⟨v29_, (by unfold Thing.okW; first | rw [if_pos (by omega)] | rw [if_neg (by omega)]), h30_, T36_, N41_⟩
    · -- no
      replace c26_ : x.kind ≠ (1 : Int) := by simpa using c26_
      refine c_seq [1, 0, 1, 0, 1, 1, 1, 1, 0] [1, 0, 1, 0, 1, 1, 1, 1, 1] (by kernel_rfl) ?_
      refine c_reg 6 write_c_R6 (by kernel_rfl) ?_
      refine at_pures 2 (by kernel_rfl) (by kernel_rfl) ?_
      refine at_done (by kernel_rfl) ?_
      refine then_n ?_
      refine c_if (.tmp 21) (x.kind == (2 : Int)) [1, 0, 1, 0, 1, 1, 1, 1, 1, 0] [1, 0, 1, 0, 1, 1, 1, 1, 1, 1] (by kernel_rfl) (by kernel_rfl) (fun c42_ => ?_) (fun c42_ => ?_)
      · -- yes
        replace c42_ : x.kind = (2 : Int) := by simpa using c42_
        refine c_reg 7 write_c_R7 (by kernel_rfl) ?_
        refine at_pures 2 (by kernel_rfl) (by kernel_rfl) ?_
        refine at_load1 29 (.tmp 24) b1_ 1 _ _ _ (.int .u64 (x.n : Int)) (by kernel_rfl) (by kernel_rfl) (by kernel_rfl) (by kernel_rfl) h3_ (by kernel_rfl) ?_
        have h43_ := Rd.keep' h_xb F5_ Dis.n0
        have h44_ := WrAt.keep h_wr F5_ Dis.n0
        refine at_do (by kernel_rfl) (op_call 31 #[(.tmp 23), (.tmp 25)] #[(.pointer (some ⟨bw, 0, none⟩)), (.int .u64 (x.n : Int))] (by kernel_rfl) (by kernel_rfl) (by kernel_rfl) ?_)
        have C51_ := long_c bw v l x.n w2_ h44_ (by omega) (by omega)
        refine Calls.mono C51_ ?_
        rintro e50_ w48_ ⟨rfl, v45_, h46_, F49_, N47_⟩
        refine ⟨_, rfl, ?_⟩
        have T52_ := Fr.then T9_ F49_ (New.refl w (wrS bw v))
        have d53_ : Dis (wrS bw v45_) (Ar x.ao (B x.b)) := Dis.step d_wr_xb N47_ (Rd.in h43_)
        have h54_ := Rd.keep' h43_ F49_ (Dis.sym d_wr_xb)
        have d55_ : Dis (wrS bw v45_) (One b1_) := Dis.step (Dis.sym d7_) N47_ (In.one h3_)
        have h56_ := Fr.keep F49_ h3_ d7_
        have N57_ : New w (wrS bw v) (wrS bw v45_) := New.trans (New.refl w (wrS bw v)) N47_ (Fr.size T9_)
        refine at_done (by kernel_rfl) ?_
        refine blk_n ?_
        refine then_n ?_
        refine c_seq [1, 1, 0] [1, 1, 1] (by kernel_rfl) ?_
        refine c_reg 12 write_c_R12 (by kernel_rfl) ?_
        refine at_pures 1 (by kernel_rfl) (by kernel_rfl) ?_
        refine at_done (by kernel_rfl) ?_
        refine then_n ?_
        refine c_ret (by kernel_rfl) ?_
        refine fin_ret (.bool true) (by kernel_rfl) (by kernel_rfl) ?_
        have hw : l ++ x.w = l ++ putB x.n 8 8 := by unfold Thing.w; first | rw [if_pos (by omega)] | rw [if_neg (by omega), if_pos (by omega)] | rw [if_neg (by omega), if_neg (by omega), if_pos (by omega)] | rw [if_neg (by omega), if_neg (by omega), if_neg (by omega), if_pos (by omega)] | rw [if_neg (by omega), if_neg (by omega), if_neg (by omega), if_neg (by omega), if_pos (by omega)] | rw [if_neg (by omega), if_neg (by omega), if_neg (by omega), if_neg (by omega), if_neg (by omega), List.append_nil]
        rw [hw]
        exact ⟨v45_, (by unfold Thing.okW; first | rw [if_pos (by omega)] | rw [if_neg (by omega)]), h46_, T52_, N57_⟩
      · -- no
        replace c42_ : x.kind ≠ (2 : Int) := by simpa using c42_
        refine c_seq [1, 0, 1, 0, 1, 1, 1, 1, 1, 1, 0] [1, 0, 1, 0, 1, 1, 1, 1, 1, 1, 1] (by kernel_rfl) ?_
        refine c_reg 8 write_c_R8 (by kernel_rfl) ?_
        refine at_pures 2 (by kernel_rfl) (by kernel_rfl) ?_
        refine at_done (by kernel_rfl) ?_
        refine then_n ?_
        refine c_if (.tmp 27) (x.kind == (3 : Int)) [1, 0, 1, 0, 1, 1, 1, 1, 1, 1, 1, 0] [1, 0, 1, 0, 1, 1, 1, 1, 1, 1, 1, 1] (by kernel_rfl) (by kernel_rfl) (fun c58_ => ?_) (fun c58_ => ?_)
        · -- yes
          replace c58_ : x.kind = (3 : Int) := by simpa using c58_
          refine c_reg 9 write_c_R9 (by kernel_rfl) ?_
          refine at_pures 2 (by kernel_rfl) (by kernel_rfl) ?_
          refine at_loadN 31 (.tmp 30) b1_ 2 32 _ _ _ (hv x.h) (by kernel_rfl) (by kernel_rfl) (by kernel_rfl) (by kernel_rfl) (by kernel_rfl) h3_ (by kernel_rfl) (by kernel_rfl) ?_
          have h59_ := Rd.keep' h_xb F5_ Dis.n0
          have h60_ := WrAt.keep h_wr F5_ Dis.n0
          refine at_do (by kernel_rfl) (op_call 32 #[(.tmp 29), (.tmp 31)] #[(.pointer (some ⟨bw, 0, none⟩)), (.agg (hv x.h))] (by kernel_rfl) (by kernel_rfl) (by kernel_rfl) ?_)
          have C67_ := hash_c bw v l x.h w2_ h60_ (by omega) hx.h
          refine Calls.mono C67_ ?_
          rintro e66_ w64_ ⟨rfl, v61_, h62_, F65_, N63_⟩
          refine ⟨_, rfl, ?_⟩
          have T68_ := Fr.then T9_ F65_ (New.refl w (wrS bw v))
          have d69_ : Dis (wrS bw v61_) (Ar x.ao (B x.b)) := Dis.step d_wr_xb N63_ (Rd.in h59_)
          have h70_ := Rd.keep' h59_ F65_ (Dis.sym d_wr_xb)
          have d71_ : Dis (wrS bw v61_) (One b1_) := Dis.step (Dis.sym d7_) N63_ (In.one h3_)
          have h72_ := Fr.keep F65_ h3_ d7_
          have N73_ : New w (wrS bw v) (wrS bw v61_) := New.trans (New.refl w (wrS bw v)) N63_ (Fr.size T9_)
          refine at_done (by kernel_rfl) ?_
          refine blk_n ?_
          refine then_n ?_
          refine c_seq [1, 1, 0] [1, 1, 1] (by kernel_rfl) ?_
          refine c_reg 12 write_c_R12 (by kernel_rfl) ?_
          refine at_pures 1 (by kernel_rfl) (by kernel_rfl) ?_
          refine at_done (by kernel_rfl) ?_
          refine then_n ?_
          refine c_ret (by kernel_rfl) ?_
          refine fin_ret (.bool true) (by kernel_rfl) (by kernel_rfl) ?_
          have hw : l ++ x.w = l ++ x.h := by unfold Thing.w; first | rw [if_pos (by omega)] | rw [if_neg (by omega), if_pos (by omega)] | rw [if_neg (by omega), if_neg (by omega), if_pos (by omega)] | rw [if_neg (by omega), if_neg (by omega), if_neg (by omega), if_pos (by omega)] | rw [if_neg (by omega), if_neg (by omega), if_neg (by omega), if_neg (by omega), if_pos (by omega)] | rw [if_neg (by omega), if_neg (by omega), if_neg (by omega), if_neg (by omega), if_neg (by omega), List.append_nil]
          rw [hw]
          exact ⟨v61_, (by unfold Thing.okW; first | rw [if_pos (by omega)] | rw [if_neg (by omega)]), h62_, T68_, N73_⟩
        · -- no
          replace c58_ : x.kind ≠ (3 : Int) := by simpa using c58_
          refine c_seq [1, 0, 1, 0, 1, 1, 1, 1, 1, 1, 1, 1, 0] [1, 0, 1, 0, 1, 1, 1, 1, 1, 1, 1, 1, 1] (by kernel_rfl) ?_
          refine c_reg 10 write_c_R10 (by kernel_rfl) ?_
          refine at_pures 2 (by kernel_rfl) (by kernel_rfl) ?_
          refine at_done (by kernel_rfl) ?_
          refine then_n ?_
          refine c_if (.tmp 33) (x.kind == (4 : Int)) [1, 0, 1, 0, 1, 1, 1, 1, 1, 1, 1, 1, 1, 0] [1, 0, 1, 0, 1, 1, 1, 1, 1, 1, 1, 1, 1, 1] (by kernel_rfl) (by kernel_rfl) (fun c74_ => ?_) (fun c74_ => ?_)
          · -- yes
            replace c74_ : x.kind = (4 : Int) := by simpa using c74_
            refine c_seq [1, 0, 1, 0, 1, 1, 1, 1, 1, 1, 1, 1, 1, 0, 0] [1, 0, 1, 0, 1, 1, 1, 1, 1, 1, 1, 1, 1, 0, 1] (by kernel_rfl) ?_
            refine c_reg 11 write_c_R11 (by kernel_rfl) ?_
            refine at_pures 2 (by kernel_rfl) (by kernel_rfl) ?_
            refine at_load1 26 (.tmp 36) b1_ 34 _ _ _ (.slice x.ao x.b.length x.cap) (by kernel_rfl) (by kernel_rfl) (by kernel_rfl) (by kernel_rfl) h3_ (by kernel_rfl) ?_
            have h75_ := Rd.keep' h_xb F5_ Dis.n0
            have h76_ := WrAt.keep h_wr F5_ Dis.n0
            refine at_do (by kernel_rfl) (op_call 29 #[(.tmp 35), (.tmp 37)] #[(.pointer (some ⟨bw, 0, none⟩)), (.slice x.ao x.b.length x.cap)] (by kernel_rfl) (by kernel_rfl) (by kernel_rfl) ?_)
            have C83_ := text_c bw v l (.slice x.ao x.b.length x.cap) x.b w2_ h76_ (by omega) (by omega) ⟨_, _, rfl, h75_⟩ (Dis.sym d_wr_xb)
            refine Calls.mono C83_ ?_
            rintro e82_ w80_ ⟨rfl, v77_, h78_, F81_, N79_⟩
            refine ⟨_, rfl, ?_⟩
            have T84_ := Fr.then T9_ F81_ (New.refl w (wrS bw v))
            have d85_ : Dis (wrS bw v77_) (Ar x.ao (B x.b)) := Dis.step d_wr_xb N79_ (Rd.in h75_)
            have h86_ := Rd.keep' h75_ F81_ (Dis.sym d_wr_xb)
            have d87_ : Dis (wrS bw v77_) (One b1_) := Dis.step (Dis.sym d7_) N79_ (In.one h3_)
            have h88_ := Fr.keep F81_ h3_ d7_
            have N89_ : New w (wrS bw v) (wrS bw v77_) := New.trans (New.refl w (wrS bw v)) N79_ (Fr.size T9_)
            refine at_pures 5 (by kernel_rfl) (by kernel_rfl) ?_
            refine at_done (by kernel_rfl) ?_
            refine then_n ?_
            refine c_ret (by kernel_rfl) ?_
            refine blk_r ?_
            refine then_r ?_
            refine fin_ret (.bool (decide (x.b.length ≤ 255))) (by kernel_rfl) (by kernel_rfl) ?_
            have hw : l ++ x.w = l ++ textW x.b := by unfold Thing.w; first | rw [if_pos (by omega)] | rw [if_neg (by omega), if_pos (by omega)] | rw [if_neg (by omega), if_neg (by omega), if_pos (by omega)] | rw [if_neg (by omega), if_neg (by omega), if_neg (by omega), if_pos (by omega)] | rw [if_neg (by omega), if_neg (by omega), if_neg (by omega), if_neg (by omega), if_pos (by omega)] | rw [if_neg (by omega), if_neg (by omega), if_neg (by omega), if_neg (by omega), if_neg (by omega), List.append_nil]
            rw [hw]
            exact ⟨v77_, (by unfold Thing.okW; first | rw [if_pos (by omega)] | rw [if_neg (by omega)]), h78_, T84_, N89_⟩
          · -- no
            replace c74_ : x.kind ≠ (4 : Int) := by simpa using c74_
            refine c_skip (by kernel_rfl) ?_
            refine blk_n ?_
            refine then_n ?_
            refine c_seq [1, 1, 0] [1, 1, 1] (by kernel_rfl) ?_
            refine c_reg 12 write_c_R12 (by kernel_rfl) ?_
            refine at_pures 1 (by kernel_rfl) (by kernel_rfl) ?_
            refine at_done (by kernel_rfl) ?_
            refine then_n ?_
            refine c_ret (by kernel_rfl) ?_
            refine fin_ret (.bool true) (by kernel_rfl) (by kernel_rfl) ?_
            have h90_ := Rd.keep' h_xb F5_ Dis.n0
            have h91_ := WrAt.keep h_wr F5_ Dis.n0
            have hw : l ++ x.w = l := by unfold Thing.w; first | rw [if_pos (by omega)] | rw [if_neg (by omega), if_pos (by omega)] | rw [if_neg (by omega), if_neg (by omega), if_pos (by omega)] | rw [if_neg (by omega), if_neg (by omega), if_neg (by omega), if_pos (by omega)] | rw [if_neg (by omega), if_neg (by omega), if_neg (by omega), if_neg (by omega), if_pos (by omega)] | rw [if_neg (by omega), if_neg (by omega), if_neg (by omega), if_neg (by omega), if_neg (by omega), List.append_nil]
            rw [hw]
            exact ⟨v, (by unfold Thing.okW; first | rw [if_pos (by omega)] | rw [if_neg (by omega)]), h91_, T9_, (New.refl w (wrS bw v))⟩

noncomputable def read_c_R0 : Array Oper := rAt Try.prog 27 [0]
noncomputable def read_c_R1 : Array Oper := rAt Try.prog 27 [1, 0, 0]
noncomputable def read_c_R2 : Array Oper := rAt Try.prog 27 [1, 0, 1, 0, 0]
noncomputable def read_c_R3 : Array Oper := rAt Try.prog 27 [1, 0, 1, 0, 1, 0, 0]
def read_c_sk3 : Nat → Bool := fun i => decide (i ∈ [1])
def read_c_pl3 : List (Nat × PK) := [(0, .q false), (2, .q false), (3, .q true), (4, .q false), (1, .e), (5, .q false), (6, .q false)]
noncomputable def read_c_R4 : Array Oper := rAt Try.prog 27 [1, 0, 1, 0, 1, 1, 0]
noncomputable def read_c_R5 : Array Oper := rAt Try.prog 27 [1, 0, 1, 0, 1, 1, 1, 0, 0]
def read_c_sk5 : Nat → Bool := fun i => decide (i ∈ [1])
def read_c_pl5 : List (Nat × PK) := [(0, .q false), (2, .q false), (3, .q true), (4, .q false), (1, .e), (5, .q false), (6, .q false)]
noncomputable def read_c_R6 : Array Oper := rAt Try.prog 27 [1, 0, 1, 0, 1, 1, 1, 1, 0]
noncomputable def read_c_R7 : Array Oper := rAt Try.prog 27 [1, 0, 1, 0, 1, 1, 1, 1, 1, 0, 0]
def read_c_sk7 : Nat → Bool := fun i => decide (i ∈ [1])
def read_c_pl7 : List (Nat × PK) := [(0, .q false), (2, .q false), (3, .q true), (1, .e), (4, .q false), (5, .q false)]
noncomputable def read_c_R8 : Array Oper := rAt Try.prog 27 [1, 0, 1, 0, 1, 1, 1, 1, 1, 1, 0]
noncomputable def read_c_R9 : Array Oper := rAt Try.prog 27 [1, 0, 1, 0, 1, 1, 1, 1, 1, 1, 1, 0, 0]
def read_c_sk9 : Nat → Bool := fun i => decide (i ∈ [1])
def read_c_pl9 : List (Nat × PK) := [(0, .q false), (2, .q false), (3, .q true), (1, .e), (4, .q false), (5, .q false)]
noncomputable def read_c_R10 : Array Oper := rAt Try.prog 27 [1, 0, 1, 0, 1, 1, 1, 1, 1, 1, 1, 1, 0]
noncomputable def read_c_R11 : Array Oper := rAt Try.prog 27 [1, 0, 1, 0, 1, 1, 1, 1, 1, 1, 1, 1, 1, 0, 0]
def read_c_sk11 : Nat → Bool := fun i => decide (i ∈ [1])
def read_c_pl11 : List (Nat × PK) := [(0, .q false), (2, .q false), (3, .q true), (1, .e), (4, .e), (5, .q false)]
noncomputable def read_c_R12 : Array Oper := rAt Try.prog 27 [1, 1, 0]
set_option maxRecDepth 100000 in
theorem read_c (br : Nat) (ao : Option Addr) (cap : Nat) (r : Rs) (x : Thing) (w : World) (h_xb : Rd w x.ao (B x.b)) (h_rr : RrAt 67 w br ao cap r) (d_rr_xb : Dis (rrS br ao r) (Ar x.ao (B x.b))) (hx : x.Ok) (hB : Byt r.l) (hrl : r.l.length ≤ 1000000) (hxl : x.b.length ≤ 1000000) :
    Calls Try.prog 27 #[(.pointer (some ⟨br, 0, none⟩)), (.agg (Thing.cells x))] w fun e w' => ∃ (ao_rr' : Option Addr), ∃ (cap_rr' : Nat), e = .returned (.bool (x.okR r)) ∧ RrAt 67 w' br ao_rr' cap_rr' (x.r r) ∧ Fr w w' (One br) ∧ New w (rrS br ao r) (rrS br ao_rr' (x.r r)) := by
  have hn := hx.n; have htl := text_len r 255
  refine c_enter (mk 44 [(0, (.pointer (some ⟨br, 0, none⟩))), (1, (.agg (Thing.cells x)))] (fun _ => undef)) Try.func27 (by kernel_rfl) (by kernel_rfl) ?_
  refine c_seq [0] [1] (by kernel_rfl) ?_
  refine c_reg 0 read_c_R0 (by kernel_rfl) ?_
  refine at_do (by kernel_rfl) (op_new (.cells (Thing.cells x) 33) (fun N => (.pointer (some ⟨N, 0, none⟩))) (fun _ => by kernel_rfl) (fun w2_ b1_ h3_ q4_ F5_ => ?_))
  have d6_ : Dis (One b1_) (Ar x.ao (B x.b)) := Dis.fresh (New.one q4_) (Rd.in h_xb)
  have d7_ : Dis (One b1_) (rrS br ao r) := Dis.fresh (New.one q4_) (RrAt.in h_rr)
  have N8_ : New w (One br) (One b1_) := New.made q4_ (Fr.size (Fr.refl w (One br)))
  have T9_ := Fr.tr (Fr.refl w (One br)) F5_
  refine at_pures 2 (by kernel_rfl) (by kernel_rfl) ?_
  refine at_done (by kernel_rfl) ?_
  refine then_n ?_
  refine c_seq [1, 0] [1, 1] (by kernel_rfl) ?_
  refine c_seq [1, 0, 0] [1, 0, 1] (by kernel_rfl) ?_
  refine c_reg 1 read_c_R1 (by kernel_rfl) ?_
  refine at_pures 1 (by kernel_rfl) (by kernel_rfl) ?_
  refine at_load1 3 (.tmp 5) b1_ 0 _ _ _ (.int .i64 x.kind) (by kernel_rfl) (by kernel_rfl) (by kernel_rfl) (by kernel_rfl) h3_ (by kernel_rfl) ?_
  refine at_done (by kernel_rfl) ?_
  refine then_n ?_
  refine c_block 0 [1, 0, 1, 0] (by kernel_rfl) ?_
  refine c_seq [1, 0, 1, 0, 0] [1, 0, 1, 0, 1] (by kernel_rfl) ?_
  refine c_reg 2 read_c_R2 (by kernel_rfl) ?_
  refine at_pures 2 (by kernel_rfl) (by kernel_rfl) ?_
  refine at_done (by kernel_rfl) ?_
  refine then_n ?_
  refine c_if (.tmp 7) (x.kind == (0 : Int)) [1, 0, 1, 0, 1, 0] [1, 0, 1, 0, 1, 1] (by kernel_rfl) (by kernel_rfl) (fun c10_ => ?_) (fun c10_ => ?_)
  · -- yes
    replace c10_ : x.kind = (0 : Int) := by simpa using c10_
    refine c_seq [1, 0, 1, 0, 1, 0, 0] [1, 0, 1, 0, 1, 0, 1] (by kernel_rfl) ?_
    refine c_plan 3 read_c_R3 (fun w' => w'.heap[b1_]? = some (.cells (Thing.cells x) 33 (0, 0)) ∧ True) read_c_sk3 read_c_pl3 (by kernel_rfl) (by kernel_rfl) (by kernel_rfl) (by kernel_rfl) (by kernel_rfl) (fun w11_ F12_ => ?_)
    have T13_ := Fr.tr T9_ F12_
    have h15_ := Fr.keep F12_ h3_ Dis.n0
    have S14_ : w11_.heap[b1_]? = some (.cells (Thing.cells x) 33 (0, 0)) ∧ True := ⟨h15_, trivial⟩
    refine pl_pures 2 (by kernel_rfl) (by kernel_rfl) (off (by kernel_rfl)) ?_
    refine pl_read 3 (.int .u64 (x.n : Int)) (by kernel_rfl) (by kernel_rfl) (fun w' hs => run_load1 29 (.tmp 11) b1_ 1 _ _ _ (.int .u64 (x.n : Int)) (by kernel_rfl) (by kernel_rfl) (by kernel_rfl) hs.1 (by kernel_rfl)) S14_ ?_
    refine pl_as 4 (.int .u8 (IntKind.u8.wrap ((x.n : Int)))) (.int .u8 ((x.n % 256 : Nat) : Int)) (by kernel_rfl) (by kernel_rfl) ⟨by kernel_rfl, by kernel_rfl⟩ (congrArg (Value.int .u8) (by rw [wrap_u8]; rfl)) (off (by kernel_rfl)) ?_
    have h16_ := Rd.keep' h_xb F5_ Dis.n0
    have h17_ := Rd.keep' h16_ F12_ Dis.n0
    have h18_ := RrAt.keep h_rr F5_ Dis.n0
    have h19_ := RrAt.keep h18_ F12_ Dis.n0
    refine pl_do 1 (by kernel_rfl) (by kernel_rfl) (op_call 15 #[(.tmp 9)] #[(.pointer (some ⟨br, 0, none⟩))] (by kernel_rfl) (by kernel_rfl) (by kernel_rfl) ?_)
    have C28_ := rbyte_c br ao cap r w11_ h19_  (by first | omega | with_reducible assumption | (simp only [List.length_append, List.length_cons, List.length_nil, putB_length]; omega) | decide)
    refine Calls.mono C28_ ?_
    rintro e27_ w25_ ⟨aorr20_, caprr21_, rfl, h22_, F26_, h24_⟩
    refine ⟨_, rfl, ?_⟩
    have T29_ := Fr.then T13_ F26_ (New.refl w (One br))
    have d30_ : Dis (rrS br aorr20_ (r.take 1)) (Ar x.ao (B x.b)) := Dis.step d_rr_xb h24_ (Rd.in h17_)
    have h31_ := Rd.keep' h17_ F26_ (Dis.sub Sub.inl (Dis.sym d_rr_xb))
    have d32_ : Dis (rrS br aorr20_ (r.take 1)) (One b1_) := Dis.step (Dis.sym d7_) h24_ (In.one h15_)
    have h33_ := Fr.keep F26_ h15_ (Dis.sub Sub.inl d7_)
    have N34_ := New.trans (New.refl w (rrS br ao r)) h24_ (Fr.size T13_)
    have S35_ : w25_.heap[b1_]? = some (.cells (Thing.cells x) 33 (0, 0)) ∧ True := ⟨h33_, trivial⟩
    refine ⟨fun _ => S35_, ?_⟩
    refine pl_pures 7 (by kernel_rfl) (by kernel_rfl) (off (by kernel_rfl)) ?_
    refine pl_done (by kernel_rfl) ?_
    refine then_n ?_
    refine c_ret (by kernel_rfl) ?_
    refine blk_r ?_
    refine then_r ?_
    refine fin_ret (.bool ((r.num 1 : Int) == ((x.n % 256 : Nat) : Int))) (by kernel_rfl) (by kernel_rfl) ?_
    have hw : x.r r = r.take 1 := by unfold Thing.r; first | rw [if_pos (by omega)] | rw [if_neg (by omega), if_pos (by omega)] | rw [if_neg (by omega), if_neg (by omega), if_pos (by omega)] | rw [if_neg (by omega), if_neg (by omega), if_neg (by omega), if_pos (by omega)] | rw [if_neg (by omega), if_neg (by omega), if_neg (by omega), if_neg (by omega), if_pos (by omega)] | rw [if_neg (by omega), if_neg (by omega), if_neg (by omega), if_neg (by omega), if_neg (by omega)]
    rw [hw]
    exact ⟨aorr20_, caprr21_, (by rw [show x.okR r = ((r.num 1 : Int) == ((x.n % 256 : Nat) : Int)) from (by unfold Thing.okR; rw [beq_nat]; first | rw [if_pos (by omega)] | rw [if_neg (by omega), if_pos (by omega)] | rw [if_neg (by omega), if_neg (by omega), if_pos (by omega)] | rw [if_neg (by omega), if_neg (by omega), if_neg (by omega), if_pos (by omega)] | rw [if_neg (by omega), if_neg (by omega), if_neg (by omega), if_neg (by omega), if_pos (by omega)] | rw [if_neg (by omega), if_neg (by omega), if_neg (by omega), if_neg (by omega), if_neg (by omega)])]), h22_, T29_, N34_⟩
  · -- no
    replace c10_ : x.kind ≠ (0 : Int) := by simpa using c10_
    refine c_seq [1, 0, 1, 0, 1, 1, 0] [1, 0, 1, 0, 1, 1, 1] (by kernel_rfl) ?_
    refine c_reg 4 read_c_R4 (by kernel_rfl) ?_
    refine at_pures 2 (by kernel_rfl) (by kernel_rfl) ?_
    refine at_done (by kernel_rfl) ?_
    refine then_n ?_
    refine c_if (.tmp 15) (x.kind == (1 : Int)) [1, 0, 1, 0, 1, 1, 1, 0] [1, 0, 1, 0, 1, 1, 1, 1] (by kernel_rfl) (by kernel_rfl) (fun c36_ => ?_) (fun c36_ => ?_)
    · -- yes
      replace c36_ : x.kind = (1 : Int) := by simpa using c36_
      refine c_seq [1, 0, 1, 0, 1, 1, 1, 0, 0] [1, 0, 1, 0, 1, 1, 1, 0, 1] (by kernel_rfl) ?_
      refine c_plan 5 read_c_R5 (fun w' => w'.heap[b1_]? = some (.cells (Thing.cells x) 33 (0, 0)) ∧ True) read_c_sk5 read_c_pl5 (by kernel_rfl) (by kernel_rfl) (by kernel_rfl) (by kernel_rfl) (by kernel_rfl) (fun w37_ F38_ => ?_)
      have T39_ := Fr.tr T9_ F38_
      have h41_ := Fr.keep F38_ h3_ Dis.n0
      have S40_ : w37_.heap[b1_]? = some (.cells (Thing.cells x) 33 (0, 0)) ∧ True := ⟨h41_, trivial⟩
      refine pl_pures 2 (by kernel_rfl) (by kernel_rfl) (off (by kernel_rfl)) ?_
      refine pl_read 3 (.int .u64 (x.n : Int)) (by kernel_rfl) (by kernel_rfl) (fun w' hs => run_load1 29 (.tmp 19) b1_ 1 _ _ _ (.int .u64 (x.n : Int)) (by kernel_rfl) (by kernel_rfl) (by kernel_rfl) hs.1 (by kernel_rfl)) S40_ ?_
      refine pl_as 4 (.int .u32 (IntKind.u32.wrap ((x.n : Int)))) (.int .u32 ((x.n % 4294967296 : Nat) : Int)) (by kernel_rfl) (by kernel_rfl) ⟨by kernel_rfl, by kernel_rfl⟩ (congrArg (Value.int .u32) (by rw [wrap_u32]; rfl)) (off (by kernel_rfl)) ?_
      have h42_ := Rd.keep' h_xb F5_ Dis.n0
      have h43_ := Rd.keep' h42_ F38_ Dis.n0
      have h44_ := RrAt.keep h_rr F5_ Dis.n0
      have h45_ := RrAt.keep h44_ F38_ Dis.n0
      refine pl_do 1 (by kernel_rfl) (by kernel_rfl) (op_call 17 #[(.tmp 17)] #[(.pointer (some ⟨br, 0, none⟩))] (by kernel_rfl) (by kernel_rfl) (by kernel_rfl) ?_)
      have C54_ := rnum_c br ao cap r w37_ h45_  (by first | omega | with_reducible assumption | (simp only [List.length_append, List.length_cons, List.length_nil, putB_length]; omega) | decide)
      refine Calls.mono C54_ ?_
      rintro e53_ w51_ ⟨aorr46_, caprr47_, rfl, h48_, F52_, h50_⟩
      refine ⟨_, rfl, ?_⟩
      have T55_ := Fr.then T39_ F52_ (New.refl w (One br))
      have d56_ : Dis (rrS br aorr46_ (r.take 4)) (Ar x.ao (B x.b)) := Dis.step d_rr_xb h50_ (Rd.in h43_)
      have h57_ := Rd.keep' h43_ F52_ (Dis.sub Sub.inl (Dis.sym d_rr_xb))
      have d58_ : Dis (rrS br aorr46_ (r.take 4)) (One b1_) := Dis.step (Dis.sym d7_) h50_ (In.one h41_)
      have h59_ := Fr.keep F52_ h41_ (Dis.sub Sub.inl d7_)
      have N60_ := New.trans (New.refl w (rrS br ao r)) h50_ (Fr.size T39_)
      have S61_ : w51_.heap[b1_]? = some (.cells (Thing.cells x) 33 (0, 0)) ∧ True := ⟨h59_, trivial⟩
      refine ⟨fun _ => S61_, ?_⟩
      refine pl_pures 7 (by kernel_rfl) (by kernel_rfl) (off (by kernel_rfl)) ?_
      refine pl_done (by kernel_rfl) ?_
      refine then_n ?_
      refine c_ret (by kernel_rfl) ?_
      refine blk_r ?_
      refine then_r ?_
      refine fin_ret (.bool ((r.num 4 : Int) == ((x.n % 4294967296 : Nat) : Int))) (by kernel_rfl) (by kernel_rfl) ?_
      have hw : x.r r = r.take 4 := by unfold Thing.r; first | rw [if_pos (by omega)] | rw [if_neg (by omega), if_pos (by omega)] | rw [if_neg (by omega), if_neg (by omega), if_pos (by omega)] | rw [if_neg (by omega), if_neg (by omega), if_neg (by omega), if_pos (by omega)] | rw [if_neg (by omega), if_neg (by omega), if_neg (by omega), if_neg (by omega), if_pos (by omega)] | rw [if_neg (by omega), if_neg (by omega), if_neg (by omega), if_neg (by omega), if_neg (by omega)]
      rw [hw]
      exact ⟨aorr46_, caprr47_, (by rw [show x.okR r = ((r.num 4 : Int) == ((x.n % 4294967296 : Nat) : Int)) from (by unfold Thing.okR; rw [beq_nat]; first | rw [if_pos (by omega)] | rw [if_neg (by omega), if_pos (by omega)] | rw [if_neg (by omega), if_neg (by omega), if_pos (by omega)] | rw [if_neg (by omega), if_neg (by omega), if_neg (by omega), if_pos (by omega)] | rw [if_neg (by omega), if_neg (by omega), if_neg (by omega), if_neg (by omega), if_pos (by omega)] | rw [if_neg (by omega), if_neg (by omega), if_neg (by omega), if_neg (by omega), if_neg (by omega)])]), h48_, T55_, N60_⟩
    · -- no
      replace c36_ : x.kind ≠ (1 : Int) := by simpa using c36_
      refine c_seq [1, 0, 1, 0, 1, 1, 1, 1, 0] [1, 0, 1, 0, 1, 1, 1, 1, 1] (by kernel_rfl) ?_
      refine c_reg 6 read_c_R6 (by kernel_rfl) ?_
      refine at_pures 2 (by kernel_rfl) (by kernel_rfl) ?_
      refine at_done (by kernel_rfl) ?_
      refine then_n ?_
      refine c_if (.tmp 23) (x.kind == (2 : Int)) [1, 0, 1, 0, 1, 1, 1, 1, 1, 0] [1, 0, 1, 0, 1, 1, 1, 1, 1, 1] (by kernel_rfl) (by kernel_rfl) (fun c62_ => ?_) (fun c62_ => ?_)
      · -- yes
        replace c62_ : x.kind = (2 : Int) := by simpa using c62_
        refine c_seq [1, 0, 1, 0, 1, 1, 1, 1, 1, 0, 0] [1, 0, 1, 0, 1, 1, 1, 1, 1, 0, 1] (by kernel_rfl) ?_
        refine c_plan 7 read_c_R7 (fun w' => w'.heap[b1_]? = some (.cells (Thing.cells x) 33 (0, 0)) ∧ True) read_c_sk7 read_c_pl7 (by kernel_rfl) (by kernel_rfl) (by kernel_rfl) (by kernel_rfl) (by kernel_rfl) (fun w63_ F64_ => ?_)
        have T65_ := Fr.tr T9_ F64_
        have h67_ := Fr.keep F64_ h3_ Dis.n0
        have S66_ : w63_.heap[b1_]? = some (.cells (Thing.cells x) 33 (0, 0)) ∧ True := ⟨h67_, trivial⟩
        refine pl_pures 2 (by kernel_rfl) (by kernel_rfl) (off (by kernel_rfl)) ?_
        refine pl_read 3 (.int .u64 (x.n : Int)) (by kernel_rfl) (by kernel_rfl) (fun w' hs => run_load1 29 (.tmp 27) b1_ 1 _ _ _ (.int .u64 (x.n : Int)) (by kernel_rfl) (by kernel_rfl) (by kernel_rfl) hs.1 (by kernel_rfl)) S66_ ?_
        have h68_ := Rd.keep' h_xb F5_ Dis.n0
        have h69_ := Rd.keep' h68_ F64_ Dis.n0
        have h70_ := RrAt.keep h_rr F5_ Dis.n0
        have h71_ := RrAt.keep h70_ F64_ Dis.n0
        refine pl_do 1 (by kernel_rfl) (by kernel_rfl) (op_call 18 #[(.tmp 25)] #[(.pointer (some ⟨br, 0, none⟩))] (by kernel_rfl) (by kernel_rfl) (by kernel_rfl) ?_)
        have C80_ := rlong_c br ao cap r w63_ h71_  (by first | omega | with_reducible assumption | (simp only [List.length_append, List.length_cons, List.length_nil, putB_length]; omega) | decide)
        refine Calls.mono C80_ ?_
        rintro e79_ w77_ ⟨aorr72_, caprr73_, rfl, h74_, F78_, h76_⟩
        refine ⟨_, rfl, ?_⟩
        have T81_ := Fr.then T65_ F78_ (New.refl w (One br))
        have d82_ : Dis (rrS br aorr72_ (r.take 8)) (Ar x.ao (B x.b)) := Dis.step d_rr_xb h76_ (Rd.in h69_)
        have h83_ := Rd.keep' h69_ F78_ (Dis.sub Sub.inl (Dis.sym d_rr_xb))
        have d84_ : Dis (rrS br aorr72_ (r.take 8)) (One b1_) := Dis.step (Dis.sym d7_) h76_ (In.one h67_)
        have h85_ := Fr.keep F78_ h67_ (Dis.sub Sub.inl d7_)
        have N86_ := New.trans (New.refl w (rrS br ao r)) h76_ (Fr.size T65_)
        have S87_ : w77_.heap[b1_]? = some (.cells (Thing.cells x) 33 (0, 0)) ∧ True := ⟨h85_, trivial⟩
        refine ⟨fun _ => S87_, ?_⟩
        refine pl_pures 6 (by kernel_rfl) (by kernel_rfl) (off (by kernel_rfl)) ?_
        refine pl_done (by kernel_rfl) ?_
        refine then_n ?_
        refine c_ret (by kernel_rfl) ?_
        refine blk_r ?_
        refine then_r ?_
        refine fin_ret (.bool ((r.num 8 : Int) == (x.n : Int))) (by kernel_rfl) (by kernel_rfl) ?_
        have hw : x.r r = r.take 8 := by unfold Thing.r; first | rw [if_pos (by omega)] | rw [if_neg (by omega), if_pos (by omega)] | rw [if_neg (by omega), if_neg (by omega), if_pos (by omega)] | rw [if_neg (by omega), if_neg (by omega), if_neg (by omega), if_pos (by omega)] | rw [if_neg (by omega), if_neg (by omega), if_neg (by omega), if_neg (by omega), if_pos (by omega)] | rw [if_neg (by omega), if_neg (by omega), if_neg (by omega), if_neg (by omega), if_neg (by omega)]
        rw [hw]
        exact ⟨aorr72_, caprr73_, (by rw [show x.okR r = ((r.num 8 : Int) == (x.n : Int)) from (by unfold Thing.okR; rw [beq_nat]; first | rw [if_pos (by omega)] | rw [if_neg (by omega), if_pos (by omega)] | rw [if_neg (by omega), if_neg (by omega), if_pos (by omega)] | rw [if_neg (by omega), if_neg (by omega), if_neg (by omega), if_pos (by omega)] | rw [if_neg (by omega), if_neg (by omega), if_neg (by omega), if_neg (by omega), if_pos (by omega)] | rw [if_neg (by omega), if_neg (by omega), if_neg (by omega), if_neg (by omega), if_neg (by omega)])]), h74_, T81_, N86_⟩
      · -- no
        replace c62_ : x.kind ≠ (2 : Int) := by simpa using c62_
        refine c_seq [1, 0, 1, 0, 1, 1, 1, 1, 1, 1, 0] [1, 0, 1, 0, 1, 1, 1, 1, 1, 1, 1] (by kernel_rfl) ?_
        refine c_reg 8 read_c_R8 (by kernel_rfl) ?_
        refine at_pures 2 (by kernel_rfl) (by kernel_rfl) ?_
        refine at_done (by kernel_rfl) ?_
        refine then_n ?_
        refine c_if (.tmp 30) (x.kind == (3 : Int)) [1, 0, 1, 0, 1, 1, 1, 1, 1, 1, 1, 0] [1, 0, 1, 0, 1, 1, 1, 1, 1, 1, 1, 1] (by kernel_rfl) (by kernel_rfl) (fun c88_ => ?_) (fun c88_ => ?_)
        · -- yes
          replace c88_ : x.kind = (3 : Int) := by simpa using c88_
          refine c_seq [1, 0, 1, 0, 1, 1, 1, 1, 1, 1, 1, 0, 0] [1, 0, 1, 0, 1, 1, 1, 1, 1, 1, 1, 0, 1] (by kernel_rfl) ?_
          refine c_plan 9 read_c_R9 (fun w' => w'.heap[b1_]? = some (.cells (Thing.cells x) 33 (0, 0)) ∧ True) read_c_sk9 read_c_pl9 (by kernel_rfl) (by kernel_rfl) (by kernel_rfl) (by kernel_rfl) (by kernel_rfl) (fun w89_ F90_ => ?_)
          have T91_ := Fr.tr T9_ F90_
          have h93_ := Fr.keep F90_ h3_ Dis.n0
          have S92_ : w89_.heap[b1_]? = some (.cells (Thing.cells x) 33 (0, 0)) ∧ True := ⟨h93_, trivial⟩
          refine pl_pures 2 (by kernel_rfl) (by kernel_rfl) (off (by kernel_rfl)) ?_
          refine pl_read 3 (.agg (hv x.h)) (by kernel_rfl) (by kernel_rfl) (fun w' hs => run_loadN 31 (.tmp 34) b1_ 2 32 _ _ _ (hv x.h) (by kernel_rfl) (by kernel_rfl) (by kernel_rfl) (by kernel_rfl) hs.1 (by kernel_rfl) (by kernel_rfl)) S92_ ?_
          have h94_ := Rd.keep' h_xb F5_ Dis.n0
          have h95_ := Rd.keep' h94_ F90_ Dis.n0
          have h96_ := RrAt.keep h_rr F5_ Dis.n0
          have h97_ := RrAt.keep h96_ F90_ Dis.n0
          refine pl_do 1 (by kernel_rfl) (by kernel_rfl) (op_call 19 #[(.tmp 32)] #[(.pointer (some ⟨br, 0, none⟩))] (by kernel_rfl) (by kernel_rfl) (by kernel_rfl) ?_)
          have C106_ := rhash_c br ao cap r w89_ h97_  
          refine Calls.mono C106_ ?_
          rintro e105_ w103_ ⟨aorr98_, caprr99_, rfl, h100_, F104_, h102_⟩
          refine ⟨_, rfl, ?_⟩
          have T107_ := Fr.then T91_ F104_ (New.refl w (One br))
          have d108_ : Dis (rrS br aorr98_ (r.take 32)) (Ar x.ao (B x.b)) := Dis.step d_rr_xb h102_ (Rd.in h95_)
          have h109_ := Rd.keep' h95_ F104_ (Dis.sub Sub.inl (Dis.sym d_rr_xb))
          have d110_ : Dis (rrS br aorr98_ (r.take 32)) (One b1_) := Dis.step (Dis.sym d7_) h102_ (In.one h93_)
          have h111_ := Fr.keep F104_ h93_ (Dis.sub Sub.inl d7_)
          have N112_ := New.trans (New.refl w (rrS br ao r)) h102_ (Fr.size T91_)
          have S113_ : w103_.heap[b1_]? = some (.cells (Thing.cells x) 33 (0, 0)) ∧ True := ⟨h111_, trivial⟩
          refine ⟨fun _ => S113_, ?_⟩
          refine pl_quiet 4 (.bool (decide (r.hash = x.h))) (by kernel_rfl) (by kernel_rfl) (fun w' => run_eq_hash true 31 (.tmp 33) (.tmp 35) r.hash x.h (by kernel_rfl) (by kernel_rfl) (by kernel_rfl) (by kernel_rfl) (by kernel_rfl) (by kernel_rfl) (hash_length r) hx.h hB.hash hx.hb) (off (by kernel_rfl)) ?_
          refine pl_pures 6 (by kernel_rfl) (by kernel_rfl) (off (by kernel_rfl)) ?_
          refine pl_done (by kernel_rfl) ?_
          refine then_n ?_
          refine c_ret (by kernel_rfl) ?_
          refine blk_r ?_
          refine then_r ?_
          refine fin_ret (.bool (decide (r.hash = x.h))) (by kernel_rfl) (by kernel_rfl) ?_
          have hw : x.r r = r.take 32 := by unfold Thing.r; first | rw [if_pos (by omega)] | rw [if_neg (by omega), if_pos (by omega)] | rw [if_neg (by omega), if_neg (by omega), if_pos (by omega)] | rw [if_neg (by omega), if_neg (by omega), if_neg (by omega), if_pos (by omega)] | rw [if_neg (by omega), if_neg (by omega), if_neg (by omega), if_neg (by omega), if_pos (by omega)] | rw [if_neg (by omega), if_neg (by omega), if_neg (by omega), if_neg (by omega), if_neg (by omega)]
          rw [hw]
          exact ⟨aorr98_, caprr99_, (by rw [show x.okR r = decide (r.hash = x.h) from (by unfold Thing.okR; first | rw [if_pos (by omega)] | rw [if_neg (by omega), if_pos (by omega)] | rw [if_neg (by omega), if_neg (by omega), if_pos (by omega)] | rw [if_neg (by omega), if_neg (by omega), if_neg (by omega), if_pos (by omega)] | rw [if_neg (by omega), if_neg (by omega), if_neg (by omega), if_neg (by omega), if_pos (by omega)] | rw [if_neg (by omega), if_neg (by omega), if_neg (by omega), if_neg (by omega), if_neg (by omega)])]), h100_, T107_, N112_⟩
        · -- no
          replace c88_ : x.kind ≠ (3 : Int) := by simpa using c88_
          refine c_seq [1, 0, 1, 0, 1, 1, 1, 1, 1, 1, 1, 1, 0] [1, 0, 1, 0, 1, 1, 1, 1, 1, 1, 1, 1, 1] (by kernel_rfl) ?_
          refine c_reg 10 read_c_R10 (by kernel_rfl) ?_
          refine at_pures 2 (by kernel_rfl) (by kernel_rfl) ?_
          refine at_done (by kernel_rfl) ?_
          refine then_n ?_
          refine c_if (.tmp 37) (x.kind == (4 : Int)) [1, 0, 1, 0, 1, 1, 1, 1, 1, 1, 1, 1, 1, 0] [1, 0, 1, 0, 1, 1, 1, 1, 1, 1, 1, 1, 1, 1] (by kernel_rfl) (by kernel_rfl) (fun c114_ => ?_) (fun c114_ => ?_)
          · -- yes
            replace c114_ : x.kind = (4 : Int) := by simpa using c114_
            refine c_seq [1, 0, 1, 0, 1, 1, 1, 1, 1, 1, 1, 1, 1, 0, 0] [1, 0, 1, 0, 1, 1, 1, 1, 1, 1, 1, 1, 1, 0, 1] (by kernel_rfl) ?_
            refine c_plan 11 read_c_R11 (fun w' => w'.heap[b1_]? = some (.cells (Thing.cells x) 33 (0, 0)) ∧ True) read_c_sk11 read_c_pl11 (by kernel_rfl) (by kernel_rfl) (by kernel_rfl) (by kernel_rfl) (by kernel_rfl) (fun w115_ F116_ => ?_)
            have T117_ := Fr.tr T9_ F116_
            have h119_ := Fr.keep F116_ h3_ Dis.n0
            have S118_ : w115_.heap[b1_]? = some (.cells (Thing.cells x) 33 (0, 0)) ∧ True := ⟨h119_, trivial⟩
            refine pl_pures 2 (by kernel_rfl) (by kernel_rfl) (off (by kernel_rfl)) ?_
            refine pl_read 3 (.slice x.ao x.b.length x.cap) (by kernel_rfl) (by kernel_rfl) (fun w' hs => run_load1 26 (.tmp 41) b1_ 34 _ _ _ (.slice x.ao x.b.length x.cap) (by kernel_rfl) (by kernel_rfl) (by kernel_rfl) hs.1 (by kernel_rfl)) S118_ ?_
            have h120_ := Rd.keep' h_xb F5_ Dis.n0
            have h121_ := Rd.keep' h120_ F116_ Dis.n0
            have h122_ := RrAt.keep h_rr F5_ Dis.n0
            have h123_ := RrAt.keep h122_ F116_ Dis.n0
            refine pl_do 1 (by kernel_rfl) (by kernel_rfl) (op_call 21 #[(.tmp 39), (.const (.int .i64 255))] #[(.pointer (some ⟨br, 0, none⟩)), (.int .i64 255)] (by kernel_rfl) (by kernel_rfl) (by kernel_rfl) ?_)
            have C138_ := rtext_c br ao cap r 255 w115_ h123_  (by first | omega | with_reducible assumption | (simp only [List.length_append, List.length_cons, List.length_nil, putB_length]; omega) | decide)
            refine Calls.mono C138_ ?_
            rintro e137_ w135_ ⟨oc124_, aorr125_, caprr126_, aoout127_, rfl, h128_, h129_, F136_, h131_, h132_, h133_, h134_⟩
            refine ⟨_, rfl, ?_⟩
            have d139_ : Dis (Ar aoout127_ (B (r.text 255))) (Ar x.ao (B x.b)) := Dis.step d_rr_xb h132_ (Rd.in h121_)
            have d140_ : Dis (Ar aoout127_ (B (r.text 255))) (One b1_) := Dis.step (Dis.sym d7_) h132_ (In.one h119_)
            have T141_ := Fr.then T117_ F136_ (New.refl w (One br))
            have d142_ : Dis (rrS br aorr125_ (r.textR 255)) (Ar x.ao (B x.b)) := Dis.step d_rr_xb h131_ (Rd.in h121_)
            have h143_ := Rd.keep' h121_ F136_ (Dis.sub Sub.inl (Dis.sym d_rr_xb))
            have d144_ : Dis (rrS br aorr125_ (r.textR 255)) (One b1_) := Dis.step (Dis.sym d7_) h131_ (In.one h119_)
            have h145_ := Fr.keep F136_ h119_ (Dis.sub Sub.inl d7_)
            have N146_ := New.trans (New.refl w (rrS br ao r)) h131_ (Fr.size T117_)
            have N148_ := New.trans (New.refl w (rrS br ao r)) h132_ (Fr.size T117_)
            have S149_ : w135_.heap[b1_]? = some (.cells (Thing.cells x) 33 (0, 0)) ∧ True := ⟨h145_, trivial⟩
            refine ⟨fun _ => S149_, ?_⟩
            refine pl_do 4 (by kernel_rfl) (by kernel_rfl) (op_call 12 #[(.tmp 40), (.tmp 42)] #[(.slice aoout127_ ((r.text 255).length) oc124_), (.slice x.ao x.b.length x.cap)] (by kernel_rfl) (by kernel_rfl) (by kernel_rfl) ?_)
            have C154_ := same_c (.slice aoout127_ ((r.text 255).length) oc124_) (r.text 255) (.slice x.ao x.b.length x.cap) x.b w135_ ⟨_, _, rfl, h129_⟩ ⟨_, _, rfl, h143_⟩  (by first | omega | with_reducible assumption | (simp only [List.length_append, List.length_cons, List.length_nil, putB_length]; omega) | decide) (by first | omega | with_reducible assumption | (simp only [List.length_append, List.length_cons, List.length_nil, putB_length]; omega) | decide)
            refine Calls.mono C154_ ?_
            rintro e153_ w151_ ⟨rfl, F152_⟩
            refine ⟨_, rfl, ?_⟩
            have T155_ := Fr.tr T141_ F152_
            have h156_ := Rd.keep' h143_ F152_ Dis.n0
            have h157_ := RrAt.keep h128_ F152_ Dis.n0
            have h158_ := Fr.keep F152_ h145_ Dis.n0
            have h159_ := Rd.keep' h129_ F152_ Dis.n0
            refine ⟨off (by kernel_rfl), ?_⟩
            refine pl_pures 6 (by kernel_rfl) (by kernel_rfl) (off (by kernel_rfl)) ?_
            refine pl_done (by kernel_rfl) ?_
            refine then_n ?_
            refine c_ret (by kernel_rfl) ?_
            refine blk_r ?_
            refine then_r ?_
            refine fin_ret (.bool (decide ((r.text 255) = x.b))) (by kernel_rfl) (by kernel_rfl) ?_
            have hw : x.r r = r.textR 255 := by unfold Thing.r; first | rw [if_pos (by omega)] | rw [if_neg (by omega), if_pos (by omega)] | rw [if_neg (by omega), if_neg (by omega), if_pos (by omega)] | rw [if_neg (by omega), if_neg (by omega), if_neg (by omega), if_pos (by omega)] | rw [if_neg (by omega), if_neg (by omega), if_neg (by omega), if_neg (by omega), if_pos (by omega)] | rw [if_neg (by omega), if_neg (by omega), if_neg (by omega), if_neg (by omega), if_neg (by omega)]
            rw [hw]
            exact ⟨aorr125_, caprr126_, (by rw [show x.okR r = (decide ((r.text 255) = x.b)) from (by unfold Thing.okR; first | rw [if_pos (by omega)] | rw [if_neg (by omega), if_pos (by omega)] | rw [if_neg (by omega), if_neg (by omega), if_pos (by omega)] | rw [if_neg (by omega), if_neg (by omega), if_neg (by omega), if_pos (by omega)] | rw [if_neg (by omega), if_neg (by omega), if_neg (by omega), if_neg (by omega), if_pos (by omega)] | rw [if_neg (by omega), if_neg (by omega), if_neg (by omega), if_neg (by omega), if_neg (by omega)])]), h157_, T155_, N146_⟩
          · -- no
            replace c114_ : x.kind ≠ (4 : Int) := by simpa using c114_
            refine c_skip (by kernel_rfl) ?_
            refine blk_n ?_
            refine then_n ?_
            refine c_seq [1, 1, 0] [1, 1, 1] (by kernel_rfl) ?_
            refine c_reg 12 read_c_R12 (by kernel_rfl) ?_
            refine at_pures 1 (by kernel_rfl) (by kernel_rfl) ?_
            refine at_done (by kernel_rfl) ?_
            refine then_n ?_
            refine c_ret (by kernel_rfl) ?_
            refine fin_ret (.bool true) (by kernel_rfl) (by kernel_rfl) ?_
            have h160_ := Rd.keep' h_xb F5_ Dis.n0
            have h161_ := RrAt.keep h_rr F5_ Dis.n0
            have hw : x.r r = r := by unfold Thing.r; first | rw [if_pos (by omega)] | rw [if_neg (by omega), if_pos (by omega)] | rw [if_neg (by omega), if_neg (by omega), if_pos (by omega)] | rw [if_neg (by omega), if_neg (by omega), if_neg (by omega), if_pos (by omega)] | rw [if_neg (by omega), if_neg (by omega), if_neg (by omega), if_neg (by omega), if_pos (by omega)] | rw [if_neg (by omega), if_neg (by omega), if_neg (by omega), if_neg (by omega), if_neg (by omega)]
            rw [hw]
            exact ⟨ao, cap, (by rw [show x.okR r = true from (by unfold Thing.okR; first | rw [if_pos (by omega)] | rw [if_neg (by omega), if_pos (by omega)] | rw [if_neg (by omega), if_neg (by omega), if_pos (by omega)] | rw [if_neg (by omega), if_neg (by omega), if_neg (by omega), if_pos (by omega)] | rw [if_neg (by omega), if_neg (by omega), if_neg (by omega), if_neg (by omega), if_pos (by omega)] | rw [if_neg (by omega), if_neg (by omega), if_neg (by omega), if_neg (by omega), if_neg (by omega)])]), h161_, T9_, (New.refl w (rrS br ao r))⟩

noncomputable def awake_c_R0 : Array Oper := rAt Try.prog 7 [0]
noncomputable def awake_c_R1 : Array Oper := rAt Try.prog 7 [1, 0]
noncomputable def awake_c_R2 : Array Oper := rAt Try.prog 7 [1, 1, 0]
noncomputable def awake_c_R3 : Array Oper := rAt Try.prog 7 [1, 1, 1, 0]
noncomputable def awake_c_R4 : Array Oper := rAt Try.prog 7 [1, 1, 1, 1, 0]
noncomputable def awake_c_R5 : Array Oper := rAt Try.prog 7 [1, 1, 1, 1, 1, 0]
noncomputable def awake_c_R6 : Array Oper := rAt Try.prog 7 [1, 1, 1, 1, 1, 1, 0, 0]
noncomputable def awake_c_R8 : Array Oper := rAt Try.prog 7 [1, 1, 1, 1, 1, 1, 1, 0]
noncomputable def awake_c_R9 : Array Oper := rAt Try.prog 7 [1, 1, 1, 1, 1, 1, 1, 1, 0]
noncomputable def awake_c_R10 : Array Oper := rAt Try.prog 7 [1, 1, 1, 1, 1, 1, 1, 1, 1, 0]
noncomputable def awake_c_R11 : Array Oper := rAt Try.prog 7 [1, 1, 1, 1, 1, 1, 1, 1, 1, 1, 0]
noncomputable def awake_c_R12 : Array Oper := rAt Try.prog 7 [1, 1, 1, 1, 1, 1, 1, 1, 1, 1, 1, 0]
noncomputable def awake_c_R13 : Array Oper := rAt Try.prog 7 [1, 1, 1, 1, 1, 1, 1, 1, 1, 1, 1, 1, 0]
set_option maxRecDepth 100000 in
set_option maxHeartbeats 1000000 in
theorem awake_c (w : World) :
    Calls Try.prog 7 #[] w fun e w' => e = .returned (.bool true) ∧ Fr w w' N0 := by
  refine c_enter (mk 71 [] (fun _ => undef)) Try.func7 (by kernel_rfl) (by kernel_rfl) ?_
  refine c_seq [0] [1] (by kernel_rfl) ?_
  refine c_reg 0 awake_c_R0 (by kernel_rfl) ?_
  refine at_pures 1 (by kernel_rfl) (by kernel_rfl) ?_
  refine at_done (by kernel_rfl) ?_
  refine then_n ?_
  refine c_seq [1, 0] [1, 1] (by kernel_rfl) ?_
  refine c_reg 1 awake_c_R1 (by kernel_rfl) ?_
  refine at_pures 1 (by kernel_rfl) (by kernel_rfl) ?_
  refine at_do (by kernel_rfl) (op_new (.cells #[(.slice none 0 0)] 28) (fun N => (.pointer (some ⟨N, 0, none⟩))) (fun _ => by kernel_rfl) (fun w2_ b1_ h3_ q4_ F5_ => ?_))
  have N6_ : New w N0 (One b1_) := New.made q4_ (Fr.size (Fr.refl w N0))
  have T7_ := Fr.tr (Fr.refl w N0) F5_
  refine at_pures 3 (by kernel_rfl) (by kernel_rfl) ?_
  refine at_done (by kernel_rfl) ?_
  refine then_n ?_
  refine c_seq [1, 1, 0] [1, 1, 1] (by kernel_rfl) ?_
  refine c_reg 2 awake_c_R2 (by kernel_rfl) ?_
  refine at_pures 1 (by kernel_rfl) (by kernel_rfl) ?_
  have h8_ : WrAt 5 28 w2_ b1_ (.slice none 0 0) [] := WrAt.nil h3_
  refine at_do (by kernel_rfl) (op_call 28 #[(.tmp 12), (.const (.int .u32 258))] #[(.pointer (some ⟨b1_, 0, none⟩)), (.int .u32 258)] (by kernel_rfl) (by kernel_rfl) (by kernel_rfl) ?_)
  have C15_ := num_c b1_ (.slice none 0 0) [] 258 w2_ h8_ (Nat.le_of_ble_eq_true (by kernel_rfl)) (by omega)
  refine Calls.mono C15_ ?_
  rintro e14_ w12_ ⟨rfl, v9_, h10_, F13_, N11_⟩
  have T16_ := Fr.then T7_ F13_ (New.wrNil N6_)
  have N17_ : New w N0 (wrS b1_ v9_) := New.trans (New.wrNil N6_) N11_ (Fr.size T7_)
  refine ⟨_, rfl, ?_⟩
  refine at_done (by kernel_rfl) ?_
  refine then_n ?_
  refine c_seq [1, 1, 1, 0] [1, 1, 1, 1] (by kernel_rfl) ?_
  refine c_reg 3 awake_c_R3 (by kernel_rfl) ?_
  refine at_pures 1 (by kernel_rfl) (by kernel_rfl) ?_
  refine at_do (by kernel_rfl) (op_new (.cells #[(.int .u8 7)] 5) (fun N => (.slice (some ⟨N, 0, none⟩) 1 1)) (fun _ => by kernel_rfl) (fun w19_ b18_ h20_ q21_ F22_ => ?_))
  have d23_ : Dis (One b18_) (wrS b1_ v9_) := Dis.fresh (New.one q21_) (WrAt.in h10_)
  have N24_ : New w N0 (One b18_) := New.made q21_ (Fr.size T16_)
  have T25_ := Fr.tr T16_ F22_
  have h26_ := WrAt.keep h10_ F22_ Dis.n0
  refine at_do (by kernel_rfl) (op_call 29 #[(.tmp 14), (.tmp 15)] #[(.pointer (some ⟨b1_, 0, none⟩)), (.slice (some ⟨b18_, 0, none⟩) 1 1)] (by kernel_rfl) (by kernel_rfl) (by kernel_rfl) ?_)
  have C33_ := text_c b1_ v9_ ([] ++ putB 258 4 4) (.slice (some ⟨b18_, 0, none⟩) 1 1) [7] w19_ h26_ (Nat.le_of_ble_eq_true (by kernel_rfl)) (by decide) (SlV.of_blk (l := [7]) h20_ (by kernel_rfl)) (Sub.dis Sub.arOne d23_)
  refine Calls.mono C33_ ?_
  rintro e32_ w30_ ⟨rfl, v27_, h28_, F31_, N29_⟩
  have T34_ := Fr.then T25_ F31_ N17_
  have d35_ : Dis (wrS b1_ v27_) (One b18_) := Dis.step (Dis.sym d23_) N29_ (In.one h20_)
  have h36_ := Fr.keep F31_ h20_ d23_
  have N37_ : New w N0 (wrS b1_ v27_) := New.trans N17_ N29_ (Fr.size T25_)
  refine ⟨(.bool true), (by kernel_rfl), ?_⟩
  refine at_pures 4 (by kernel_rfl) (by kernel_rfl) ?_
  refine at_done (by kernel_rfl) ?_
  refine then_n ?_
  refine c_seq [1, 1, 1, 1, 0] [1, 1, 1, 1, 1] (by kernel_rfl) ?_
  refine c_reg 4 awake_c_R4 (by kernel_rfl) ?_
  refine at_pures 1 (by kernel_rfl) (by kernel_rfl) ?_
  refine at_do (by kernel_rfl) (op_call 13 #[(.tmp 17)] #[(.pointer (some ⟨b1_, 0, none⟩))] (by kernel_rfl) (by kernel_rfl) (by kernel_rfl) ?_)
  have C45_ := bytes_c b1_ v27_ ([] ++ putB 258 4 4 ++ textW [7]) w30_ h28_  (by first | exact Nat.le_of_ble_eq_true (by kernel_rfl) | exact Byt.all (by kernel_rfl))
  refine Calls.mono C45_ ?_
  rintro e44_ w42_ ⟨vout38_, rfl, h39_, F43_, h41_⟩
  have d46_ : Dis (Own vout38_) (wrS b1_ v27_) := Dis.fresh h41_ (WrAt.in h28_)
  have d47_ : Dis (Own vout38_) (One b18_) := Dis.fresh h41_ (In.one h36_)
  have T48_ := Fr.tr T34_ F43_
  have h49_ := WrAt.keep h28_ F43_ Dis.n0
  have h50_ := Fr.keep F43_ h36_ Dis.n0
  have N52_ : New w N0 (Own vout38_) := New.later' h41_ (Fr.size T34_)
  obtain ⟨ao53_, cap54_, rfl, hc55_, hm56_, hR57_, ho58_⟩ := Row.read h39_
  refine ⟨_, rfl, ?_⟩
  refine at_pures 3 (by kernel_rfl) (by kernel_rfl) ?_
  refine at_done (by kernel_rfl) ?_
  refine then_n ?_
  refine c_seq [1, 1, 1, 1, 1, 0] [1, 1, 1, 1, 1, 1] (by kernel_rfl) ?_
  refine c_reg 5 awake_c_R5 (by kernel_rfl) ?_
  refine at_pures 1 (by kernel_rfl) (by kernel_rfl) ?_
  refine at_do (by kernel_rfl) (op_call 14 #[(.tmp 19)] #[(.slice ao53_ (([] ++ putB 258 4 4 ++ textW [7]).length) cap54_)] (by kernel_rfl) (by kernel_rfl) (by kernel_rfl) ?_)
  have C68_ := rnew_c (.slice ao53_ (([] ++ putB 258 4 4 ++ textW [7]).length) cap54_) ([] ++ putB 258 4 4 ++ textW [7]) w42_ (Row.sl h39_)  (by first | exact Nat.le_of_ble_eq_true (by kernel_rfl) | exact Byt.all (by kernel_rfl))
  refine Calls.mono C68_ ?_
  rintro e67_ w65_ ⟨b59_, aorr60_, caprr61_, rfl, h62_, F66_, h64_⟩
  have d69_ : Dis (rrS b59_ aorr60_ (Rs.mk 0 ([] ++ putB 258 4 4 ++ textW [7]))) (wrS b1_ v27_) := Dis.fresh h64_ (WrAt.in h49_)
  have d70_ : Dis (rrS b59_ aorr60_ (Rs.mk 0 ([] ++ putB 258 4 4 ++ textW [7]))) (One b18_) := Dis.fresh h64_ (In.one h50_)
  have d71_ : Dis (rrS b59_ aorr60_ (Rs.mk 0 ([] ++ putB 258 4 4 ++ textW [7]))) (Own (.slice ao53_ (([] ++ putB 258 4 4 ++ textW [7]).length) cap54_)) := Dis.fresh h64_ (Row.in h39_)
  have T72_ := Fr.tr T48_ F66_
  have h73_ := WrAt.keep h49_ F66_ Dis.n0
  have h74_ := Fr.keep F66_ h50_ Dis.n0
  have h75_ := Row.keep h39_ F66_ Dis.n0
  have N77_ : New w N0 (rrS b59_ aorr60_ (Rs.mk 0 ([] ++ putB 258 4 4 ++ textW [7]))) := New.later' h64_ (Fr.size T48_)
  refine ⟨_, rfl, ?_⟩
  refine at_pures 3 (by kernel_rfl) (by kernel_rfl) ?_
  refine at_done (by kernel_rfl) ?_
  refine then_n ?_
  refine c_seq [1, 1, 1, 1, 1, 1, 0] [1, 1, 1, 1, 1, 1, 1] (by kernel_rfl) ?_
  refine c_seq [1, 1, 1, 1, 1, 1, 0, 0] [1, 1, 1, 1, 1, 1, 0, 1] (by kernel_rfl) ?_
  refine c_reg 6 awake_c_R6 (by kernel_rfl) ?_
  refine at_pures 2 (by kernel_rfl) (by kernel_rfl) ?_
  refine at_done (by kernel_rfl) ?_
  refine then_n ?_
  refine c_else (.tmp 22) [1, 1, 1, 1, 1, 1, 0, 1, 0] [1, 1, 1, 1, 1, 1, 0, 1, 1] (by kernel_rfl) (by kernel_rfl) ?_
  refine c_skip (by kernel_rfl) ?_
  refine then_n ?_
  refine c_seq [1, 1, 1, 1, 1, 1, 1, 0] [1, 1, 1, 1, 1, 1, 1, 1] (by kernel_rfl) ?_
  refine c_reg 8 awake_c_R8 (by kernel_rfl) ?_
  refine at_pures 1 (by kernel_rfl) (by kernel_rfl) ?_
  refine at_do (by kernel_rfl) (op_call 17 #[(.tmp 23)] #[(.pointer (some ⟨b59_, 0, none⟩))] (by kernel_rfl) (by kernel_rfl) (by kernel_rfl) ?_)
  have C86_ := rnum_c b59_ aorr60_ caprr61_ (Rs.mk 0 ([] ++ putB 258 4 4 ++ textW [7])) w65_ h62_  (by first | exact Nat.le_of_ble_eq_true (by kernel_rfl) | exact Byt.all (by kernel_rfl))
  refine Calls.mono C86_ ?_
  rintro e85_ w83_ ⟨aorr78_, caprr79_, rfl, h80_, F84_, h82_⟩
  have T87_ := Fr.then T72_ F84_ (Sub.new Sub.inl N77_)
  have d88_ : Dis (rrS b59_ aorr78_ ((Rs.mk 0 ([] ++ putB 258 4 4 ++ textW [7])).take 4)) (wrS b1_ v27_) := Dis.step d69_ h82_ (WrAt.in h73_)
  have h89_ := WrAt.keep h73_ F84_ (Dis.sub Sub.inl (Dis.sym d69_))
  have d90_ : Dis (rrS b59_ aorr78_ ((Rs.mk 0 ([] ++ putB 258 4 4 ++ textW [7])).take 4)) (One b18_) := Dis.step d70_ h82_ (In.one h74_)
  have h91_ := Fr.keep F84_ h74_ (Dis.sub Sub.inl (Dis.sym d70_))
  have d92_ : Dis (rrS b59_ aorr78_ ((Rs.mk 0 ([] ++ putB 258 4 4 ++ textW [7])).take 4)) (Own (.slice ao53_ (([] ++ putB 258 4 4 ++ textW [7]).length) cap54_)) := Dis.step d71_ h82_ (Row.in h75_)
  have h93_ := Row.keep h75_ F84_ (Dis.sub Sub.inl (Dis.sym d71_))
  have N94_ := New.trans N77_ h82_ (Fr.size T72_)
  refine ⟨(.int .u32 258), (by kernel_rfl), ?_⟩
  refine at_pures 3 (by kernel_rfl) (by kernel_rfl) ?_
  refine at_done (by kernel_rfl) ?_
  refine then_n ?_
  refine c_seq [1, 1, 1, 1, 1, 1, 1, 1, 0] [1, 1, 1, 1, 1, 1, 1, 1, 1] (by kernel_rfl) ?_
  refine c_reg 9 awake_c_R9 (by kernel_rfl) ?_
  refine at_pures 1 (by kernel_rfl) (by kernel_rfl) ?_
  refine at_do (by kernel_rfl) (op_call 23 #[(.tmp 25)] #[(.pointer (some ⟨b59_, 0, none⟩))] (by kernel_rfl) (by kernel_rfl) (by kernel_rfl) ?_)
  have C99_ := rleft_c b59_ aorr78_ caprr79_ ((Rs.mk 0 ([] ++ putB 258 4 4 ++ textW [7])).take 4) w83_ h80_  
  refine Calls.mono C99_ ?_
  rintro e98_ w96_ ⟨rfl, F97_⟩
  have T100_ := Fr.tr T87_ F97_
  have h101_ := WrAt.keep h89_ F97_ Dis.n0
  have h102_ := Fr.keep F97_ h91_ Dis.n0
  have h103_ := Row.keep h93_ F97_ Dis.n0
  have h104_ := RrAt.keep h80_ F97_ Dis.n0
  refine ⟨(.int .i64 2), (by kernel_rfl), ?_⟩
  refine at_pures 3 (by kernel_rfl) (by kernel_rfl) ?_
  refine at_done (by kernel_rfl) ?_
  refine then_n ?_
  refine c_seq [1, 1, 1, 1, 1, 1, 1, 1, 1, 0] [1, 1, 1, 1, 1, 1, 1, 1, 1, 1] (by kernel_rfl) ?_
  refine c_reg 10 awake_c_R10 (by kernel_rfl) ?_
  refine at_pures 1 (by kernel_rfl) (by kernel_rfl) ?_
  refine at_do (by kernel_rfl) (op_call 21 #[(.tmp 27), (.const (.int .i64 1))] #[(.pointer (some ⟨b59_, 0, none⟩)), (.int .i64 1)] (by kernel_rfl) (by kernel_rfl) (by kernel_rfl) ?_)
  have C119_ := rtext_c b59_ aorr78_ caprr79_ ((Rs.mk 0 ([] ++ putB 258 4 4 ++ textW [7])).take 4) 1 w96_ h104_  (by first | exact Nat.le_of_ble_eq_true (by kernel_rfl) | exact Byt.all (by kernel_rfl))
  refine Calls.mono C119_ ?_
  rintro e118_ w116_ ⟨oc105_, aorr106_, caprr107_, aoout108_, rfl, h109_, h110_, F117_, h112_, h113_, h114_, h115_⟩
  have d120_ : Dis (Ar aoout108_ (B (((Rs.mk 0 ([] ++ putB 258 4 4 ++ textW [7])).take 4).text 1))) (wrS b1_ v27_) := Dis.step d88_ h113_ (WrAt.in h101_)
  have d121_ : Dis (Ar aoout108_ (B (((Rs.mk 0 ([] ++ putB 258 4 4 ++ textW [7])).take 4).text 1))) (One b18_) := Dis.step d90_ h113_ (In.one h102_)
  have d122_ : Dis (Ar aoout108_ (B (((Rs.mk 0 ([] ++ putB 258 4 4 ++ textW [7])).take 4).text 1))) (Own (.slice ao53_ (([] ++ putB 258 4 4 ++ textW [7]).length) cap54_)) := Dis.step d92_ h113_ (Row.in h103_)
  have T123_ := Fr.then T100_ F117_ (Sub.new Sub.inl N94_)
  have d124_ : Dis (rrS b59_ aorr106_ (((Rs.mk 0 ([] ++ putB 258 4 4 ++ textW [7])).take 4).textR 1)) (wrS b1_ v27_) := Dis.step d88_ h112_ (WrAt.in h101_)
  have h125_ := WrAt.keep h101_ F117_ (Dis.sub Sub.inl (Dis.sym d88_))
  have d126_ : Dis (rrS b59_ aorr106_ (((Rs.mk 0 ([] ++ putB 258 4 4 ++ textW [7])).take 4).textR 1)) (One b18_) := Dis.step d90_ h112_ (In.one h102_)
  have h127_ := Fr.keep F117_ h102_ (Dis.sub Sub.inl (Dis.sym d90_))
  have d128_ : Dis (rrS b59_ aorr106_ (((Rs.mk 0 ([] ++ putB 258 4 4 ++ textW [7])).take 4).textR 1)) (Own (.slice ao53_ (([] ++ putB 258 4 4 ++ textW [7]).length) cap54_)) := Dis.step d92_ h112_ (Row.in h103_)
  have h129_ := Row.keep h103_ F117_ (Dis.sub Sub.inl (Dis.sym d92_))
  have N130_ := New.trans N94_ h112_ (Fr.size T100_)
  have N132_ := New.trans N94_ h113_ (Fr.size T100_)
  refine ⟨(.slice aoout108_ 1 oc105_), (by kernel_rfl), ?_⟩
  refine at_pures 3 (by kernel_rfl) (by kernel_rfl) ?_
  refine at_done (by kernel_rfl) ?_
  refine then_n ?_
  refine c_seq [1, 1, 1, 1, 1, 1, 1, 1, 1, 1, 0] [1, 1, 1, 1, 1, 1, 1, 1, 1, 1, 1] (by kernel_rfl) ?_
  refine c_reg 11 awake_c_R11 (by kernel_rfl) ?_
  refine at_pures 1 (by kernel_rfl) (by kernel_rfl) ?_
  refine at_do (by kernel_rfl) (op_call 25 #[(.tmp 29)] #[(.pointer (some ⟨b59_, 0, none⟩))] (by kernel_rfl) (by kernel_rfl) (by kernel_rfl) ?_)
  have C137_ := rend_c b59_ aorr106_ caprr107_ (((Rs.mk 0 ([] ++ putB 258 4 4 ++ textW [7])).take 4).textR 1) w116_ h109_  
  refine Calls.mono C137_ ?_
  rintro e136_ w134_ ⟨rfl, F135_⟩
  have T138_ := Fr.tr T123_ F135_
  have h139_ := WrAt.keep h125_ F135_ Dis.n0
  have h140_ := Fr.keep F135_ h127_ Dis.n0
  have h141_ := Row.keep h129_ F135_ Dis.n0
  have h142_ := RrAt.keep h109_ F135_ Dis.n0
  have h143_ := Rd.keep' h110_ F135_ Dis.n0
  refine ⟨(.int .i64 0), (by kernel_rfl), ?_⟩
  refine at_pures 3 (by kernel_rfl) (by kernel_rfl) ?_
  refine at_done (by kernel_rfl) ?_
  refine then_n ?_
  refine c_seq [1, 1, 1, 1, 1, 1, 1, 1, 1, 1, 1, 0] [1, 1, 1, 1, 1, 1, 1, 1, 1, 1, 1, 1] (by kernel_rfl) ?_
  refine c_reg 12 awake_c_R12 (by kernel_rfl) ?_
  refine at_pures 1 (by kernel_rfl) (by kernel_rfl) ?_
  refine at_do (by kernel_rfl) (op_call 15 #[(.tmp 31)] #[(.pointer (some ⟨b59_, 0, none⟩))] (by kernel_rfl) (by kernel_rfl) (by kernel_rfl) ?_)
  have C152_ := rbyte_c b59_ aorr106_ caprr107_ (((Rs.mk 0 ([] ++ putB 258 4 4 ++ textW [7])).take 4).textR 1) w134_ h142_  (by first | exact Nat.le_of_ble_eq_true (by kernel_rfl) | exact Byt.all (by kernel_rfl))
  refine Calls.mono C152_ ?_
  rintro e151_ w149_ ⟨aorr144_, caprr145_, rfl, h146_, F150_, h148_⟩
  have T153_ := Fr.then T138_ F150_ (Sub.new Sub.inl N130_)
  have d154_ : Dis (rrS b59_ aorr144_ ((((Rs.mk 0 ([] ++ putB 258 4 4 ++ textW [7])).take 4).textR 1).take 1)) (wrS b1_ v27_) := Dis.step d124_ h148_ (WrAt.in h139_)
  have h155_ := WrAt.keep h139_ F150_ (Dis.sub Sub.inl (Dis.sym d124_))
  have d156_ : Dis (rrS b59_ aorr144_ ((((Rs.mk 0 ([] ++ putB 258 4 4 ++ textW [7])).take 4).textR 1).take 1)) (One b18_) := Dis.step d126_ h148_ (In.one h140_)
  have h157_ := Fr.keep F150_ h140_ (Dis.sub Sub.inl (Dis.sym d126_))
  have d158_ : Dis (rrS b59_ aorr144_ ((((Rs.mk 0 ([] ++ putB 258 4 4 ++ textW [7])).take 4).textR 1).take 1)) (Own (.slice ao53_ (([] ++ putB 258 4 4 ++ textW [7]).length) cap54_)) := Dis.step d128_ h148_ (Row.in h141_)
  have h159_ := Row.keep h141_ F150_ (Dis.sub Sub.inl (Dis.sym d128_))
  have h160_ := Rd.keep' h143_ F150_ h114_
  have N161_ := New.trans N130_ h148_ (Fr.size T138_)
  refine ⟨(.int .u8 0), (by kernel_rfl), ?_⟩
  refine at_pures 3 (by kernel_rfl) (by kernel_rfl) ?_
  refine at_done (by kernel_rfl) ?_
  refine then_n ?_
  refine c_seq [1, 1, 1, 1, 1, 1, 1, 1, 1, 1, 1, 1, 0] [1, 1, 1, 1, 1, 1, 1, 1, 1, 1, 1, 1, 1] (by kernel_rfl) ?_
  refine c_reg 13 awake_c_R13 (by kernel_rfl) ?_
  refine at_pures 3 (by kernel_rfl) (by kernel_rfl) ?_
  refine at_do (by kernel_rfl) (op_new (.cells #[(.int .u8 0), (.int .u8 0), (.int .u8 1), (.int .u8 2), (.int .u8 1), (.int .u8 7)] 5) (fun N => (.slice (some ⟨N, 0, none⟩) 6 6)) (fun _ => by kernel_rfl) (fun w163_ b162_ h164_ q165_ F166_ => ?_))
  have d167_ : Dis (One b162_) (wrS b1_ v27_) := Dis.fresh (New.one q165_) (WrAt.in h155_)
  have d168_ : Dis (One b162_) (One b18_) := Dis.fresh (New.one q165_) (In.one h157_)
  have d169_ : Dis (One b162_) (Own (.slice ao53_ (([] ++ putB 258 4 4 ++ textW [7]).length) cap54_)) := Dis.fresh (New.one q165_) (Row.in h159_)
  have d170_ : Dis (One b162_) (rrS b59_ aorr144_ ((((Rs.mk 0 ([] ++ putB 258 4 4 ++ textW [7])).take 4).textR 1).take 1)) := Dis.fresh (New.one q165_) (RrAt.in h146_)
  have d171_ : Dis (One b162_) (Ar aoout108_ (B (((Rs.mk 0 ([] ++ putB 258 4 4 ++ textW [7])).take 4).text 1))) := Dis.fresh (New.one q165_) (Rd.in h160_)
  have N172_ : New w N0 (One b162_) := New.made q165_ (Fr.size T153_)
  have T173_ := Fr.tr T153_ F166_
  have h174_ := WrAt.keep h155_ F166_ Dis.n0
  have h175_ := Fr.keep F166_ h157_ Dis.n0
  have h176_ := Row.keep h159_ F166_ Dis.n0
  have h177_ := RrAt.keep h146_ F166_ Dis.n0
  have h178_ := Rd.keep' h160_ F166_ Dis.n0
  refine at_do (by kernel_rfl) (op_call 12 #[(.tmp 35), (.tmp 36)] #[(.slice ao53_ (([] ++ putB 258 4 4 ++ textW [7]).length) cap54_), (.slice (some ⟨b162_, 0, none⟩) 6 6)] (by kernel_rfl) (by kernel_rfl) (by kernel_rfl) ?_)
  have C183_ := same_c (.slice ao53_ (([] ++ putB 258 4 4 ++ textW [7]).length) cap54_) ([] ++ putB 258 4 4 ++ textW [7]) (.slice (some ⟨b162_, 0, none⟩) 6 6) [0, 0, 1, 2, 1, 7] w163_ (Row.sl h176_) (SlV.of_blk (l := [0, 0, 1, 2, 1, 7]) h164_ (by kernel_rfl))  (by first | exact Nat.le_of_ble_eq_true (by kernel_rfl) | exact Byt.all (by kernel_rfl)) (by first | exact Nat.le_of_ble_eq_true (by kernel_rfl) | exact Byt.all (by kernel_rfl))
  refine Calls.mono C183_ ?_
  rintro e182_ w180_ ⟨rfl, F181_⟩
  have T184_ := Fr.tr T173_ F181_
  have h185_ := WrAt.keep h174_ F181_ Dis.n0
  have h186_ := Fr.keep F181_ h175_ Dis.n0
  have h187_ := Row.keep h176_ F181_ Dis.n0
  have h188_ := RrAt.keep h177_ F181_ Dis.n0
  have h189_ := Rd.keep' h178_ F181_ Dis.n0
  have h190_ := Fr.keep F181_ h164_ Dis.n0
  refine ⟨(.bool true), (by kernel_rfl), ?_⟩
  refine at_pures 29 (by kernel_rfl) (by kernel_rfl) ?_
  refine at_do (by kernel_rfl) (op_call 25 #[(.tmp 61)] #[(.pointer (some ⟨b59_, 0, none⟩))] (by kernel_rfl) (by kernel_rfl) (by kernel_rfl) ?_)
  have C195_ := rend_c b59_ aorr144_ caprr145_ ((((Rs.mk 0 ([] ++ putB 258 4 4 ++ textW [7])).take 4).textR 1).take 1) w180_ h188_  
  refine Calls.mono C195_ ?_
  rintro e194_ w192_ ⟨rfl, F193_⟩
  have T196_ := Fr.tr T184_ F193_
  have h197_ := WrAt.keep h185_ F193_ Dis.n0
  have h198_ := Fr.keep F193_ h186_ Dis.n0
  have h199_ := Row.keep h187_ F193_ Dis.n0
  have h200_ := RrAt.keep h188_ F193_ Dis.n0
  have h201_ := Rd.keep' h189_ F193_ Dis.n0
  have h202_ := Fr.keep F193_ h190_ Dis.n0
  refine ⟨(.int .i64 3), (by kernel_rfl), ?_⟩
  refine at_pures 34 (by kernel_rfl) (by kernel_rfl) ?_
  refine at_do (by kernel_rfl) (op_new (.cells #[(.int .u8 0), (.int .u8 0), (.int .u8 0), (.int .u8 0), (.int .u8 0), (.int .u8 0), (.int .u8 0), (.int .u8 0), (.int .u8 0), (.int .u8 0), (.int .u8 0), (.int .u8 0), (.int .u8 0), (.int .u8 0), (.int .u8 0), (.int .u8 0), (.int .u8 0), (.int .u8 0), (.int .u8 0), (.int .u8 0), (.int .u8 0), (.int .u8 0), (.int .u8 0), (.int .u8 0), (.int .u8 0), (.int .u8 0), (.int .u8 0), (.int .u8 0), (.int .u8 0), (.int .u8 0), (.int .u8 0), (.int .u8 0), (.int .u8 0), (.int .u8 0), (.int .u8 0), (.int .u8 0), (.int .u8 0), (.int .u8 0), (.int .u8 0), (.int .u8 0), (.int .u8 0), (.int .u8 0), (.int .u8 0), (.int .u8 0), (.int .u8 0), (.int .u8 0), (.int .u8 0), (.int .u8 0), (.int .u8 0), (.int .u8 0), (.int .u8 0), (.int .u8 0), (.int .u8 0), (.int .u8 0), (.int .u8 0), (.int .u8 0), (.int .u8 0), (.int .u8 0), (.int .u8 0), (.int .u8 0), (.int .u8 0), (.int .u8 0), (.int .u8 0), (.int .u8 0), (.int .u8 0), (.int .u8 0), (.int .u8 0), (.int .u8 0), (.int .u8 0), (.int .u8 0), (.int .u8 0), (.int .u8 0), (.int .u8 0), (.int .u8 0), (.int .u8 0), (.int .u8 0), (.int .u8 0), (.int .u8 0), (.int .u8 0), (.int .u8 0), (.int .u8 0), (.int .u8 0), (.int .u8 0), (.int .u8 0), (.int .u8 0), (.int .u8 0), (.int .u8 0), (.int .u8 0), (.int .u8 0), (.int .u8 0), (.int .u8 0), (.int .u8 0), (.int .u8 0), (.int .u8 0), (.int .u8 0), (.int .u8 0), (.int .u8 0), (.int .u8 0), (.int .u8 0), (.int .u8 0), (.int .u8 0), (.int .u8 0), (.int .u8 0), (.int .u8 0), (.int .u8 0), (.int .u8 0), (.int .u8 0), (.int .u8 0), (.int .u8 0), (.int .u8 0), (.int .u8 0), (.int .u8 0), (.int .u8 0), (.int .u8 0), (.int .u8 0), (.int .u8 0), (.int .u8 0), (.int .u8 0), (.int .u8 0), (.int .u8 0), (.int .u8 0), (.int .u8 0), (.int .u8 0), (.int .u8 0), (.int .u8 0), (.int .u8 0), (.int .u8 0), (.int .u8 0), (.int .u8 0), (.int .u8 0), (.int .u8 0), (.int .u8 0), (.int .u8 0), (.int .u8 0), (.int .u8 0), (.int .u8 0), (.int .u8 0), (.int .u8 0), (.int .u8 0), (.int .u8 0), (.int .u8 0), (.int .u8 0), (.int .u8 0), (.int .u8 0), (.int .u8 0), (.int .u8 0), (.int .u8 0), (.int .u8 0), (.int .u8 0), (.int .u8 0), (.int .u8 0), (.int .u8 0), (.int .u8 0), (.int .u8 0), (.int .u8 0), (.int .u8 0), (.int .u8 0), (.int .u8 0), (.int .u8 0), (.int .u8 0), (.int .u8 0), (.int .u8 0), (.int .u8 0), (.int .u8 0), (.int .u8 0), (.int .u8 0), (.int .u8 0), (.int .u8 0), (.int .u8 0), (.int .u8 0), (.int .u8 0), (.int .u8 0), (.int .u8 0), (.int .u8 0), (.int .u8 0), (.int .u8 0), (.int .u8 0), (.int .u8 0), (.int .u8 0), (.int .u8 0), (.int .u8 0), (.int .u8 0), (.int .u8 0), (.int .u8 0), (.int .u8 0), (.int .u8 0), (.int .u8 0), (.int .u8 0), (.int .u8 0), (.int .u8 0), (.int .u8 0), (.int .u8 0), (.int .u8 0), (.int .u8 0), (.int .u8 0), (.int .u8 0), (.int .u8 0), (.int .u8 0), (.int .u8 0), (.int .u8 0), (.int .u8 0), (.int .u8 0), (.int .u8 0), (.int .u8 0), (.int .u8 0), (.int .u8 0), (.int .u8 0), (.int .u8 0), (.int .u8 0), (.int .u8 0), (.int .u8 0), (.int .u8 0), (.int .u8 0), (.int .u8 0), (.int .u8 0), (.int .u8 0), (.int .u8 0), (.int .u8 0), (.int .u8 0), (.int .u8 0), (.int .u8 0), (.int .u8 0), (.int .u8 0), (.int .u8 0), (.int .u8 0), (.int .u8 0), (.int .u8 0), (.int .u8 0), (.int .u8 0), (.int .u8 0), (.int .u8 0), (.int .u8 0), (.int .u8 0), (.int .u8 0), (.int .u8 0), (.int .u8 0), (.int .u8 0), (.int .u8 0), (.int .u8 0), (.int .u8 0), (.int .u8 0), (.int .u8 0), (.int .u8 0), (.int .u8 0), (.int .u8 0), (.int .u8 0), (.int .u8 0), (.int .u8 0), (.int .u8 0), (.int .u8 0), (.int .u8 0), (.int .u8 0), (.int .u8 0), (.int .u8 0), (.int .u8 0), (.int .u8 0)] 5) (fun N => (.slice (some ⟨N, 0, none⟩) 256 256)) (fun _ => by kernel_rfl) (fun w204_ b203_ h205_ q206_ F207_ => ?_))
  have d208_ : Dis (One b203_) (wrS b1_ v27_) := Dis.fresh (New.one q206_) (WrAt.in h197_)
  have d209_ : Dis (One b203_) (One b18_) := Dis.fresh (New.one q206_) (In.one h198_)
  have d210_ : Dis (One b203_) (Own (.slice ao53_ (([] ++ putB 258 4 4 ++ textW [7]).length) cap54_)) := Dis.fresh (New.one q206_) (Row.in h199_)
  have d211_ : Dis (One b203_) (rrS b59_ aorr144_ ((((Rs.mk 0 ([] ++ putB 258 4 4 ++ textW [7])).take 4).textR 1).take 1)) := Dis.fresh (New.one q206_) (RrAt.in h200_)
  have d212_ : Dis (One b203_) (Ar aoout108_ (B (((Rs.mk 0 ([] ++ putB 258 4 4 ++ textW [7])).take 4).text 1))) := Dis.fresh (New.one q206_) (Rd.in h201_)
  have d213_ : Dis (One b203_) (One b162_) := Dis.fresh (New.one q206_) (In.one h202_)
  have N214_ : New w N0 (One b203_) := New.made q206_ (Fr.size T196_)
  have T215_ := Fr.tr T196_ F207_
  have h216_ := WrAt.keep h197_ F207_ Dis.n0
  have h217_ := Fr.keep F207_ h198_ Dis.n0
  have h218_ := Row.keep h199_ F207_ Dis.n0
  have h219_ := RrAt.keep h200_ F207_ Dis.n0
  have h220_ := Rd.keep' h201_ F207_ Dis.n0
  have h221_ := Fr.keep F207_ h202_ Dis.n0
  refine at_do (by kernel_rfl) (op_call 29 #[(.tmp 66), (.tmp 67)] #[(.pointer (some ⟨b1_, 0, none⟩)), (.slice (some ⟨b203_, 0, none⟩) 256 256)] (by kernel_rfl) (by kernel_rfl) (by kernel_rfl) ?_)
  have C228_ := text_c b1_ v27_ ([] ++ putB 258 4 4 ++ textW [7]) (.slice (some ⟨b203_, 0, none⟩) 256 256) (List.replicate 256 0) w204_ h216_ (Nat.le_of_ble_eq_true (by kernel_rfl)) (by decide) (SlV.of_blk (l := (List.replicate 256 0)) h205_ (by kernel_rfl)) (Sub.dis Sub.arOne d208_)
  refine Calls.mono C228_ ?_
  rintro e227_ w225_ ⟨rfl, v222_, h223_, F226_, N224_⟩
  have T229_ := Fr.then T215_ F226_ N37_
  have d230_ : Dis (wrS b1_ v222_) (One b18_) := Dis.step d35_ N224_ (In.one h217_)
  have h231_ := Fr.keep F226_ h217_ (Dis.sym d35_)
  have d232_ : Dis (wrS b1_ v222_) (Own (.slice ao53_ (([] ++ putB 258 4 4 ++ textW [7]).length) cap54_)) := Dis.step (Dis.sym d46_) N224_ (Row.in h218_)
  have h233_ := Row.keep h218_ F226_ d46_
  have d234_ : Dis (wrS b1_ v222_) (rrS b59_ aorr144_ ((((Rs.mk 0 ([] ++ putB 258 4 4 ++ textW [7])).take 4).textR 1).take 1)) := Dis.step (Dis.sym d154_) N224_ (RrAt.in h219_)
  have h235_ := RrAt.keep h219_ F226_ d154_
  have d236_ : Dis (wrS b1_ v222_) (Ar aoout108_ (B (((Rs.mk 0 ([] ++ putB 258 4 4 ++ textW [7])).take 4).text 1))) := Dis.step (Dis.sym d120_) N224_ (Rd.in h220_)
  have h237_ := Rd.keep' h220_ F226_ d120_
  have d238_ : Dis (wrS b1_ v222_) (One b162_) := Dis.step (Dis.sym d167_) N224_ (In.one h221_)
  have h239_ := Fr.keep F226_ h221_ d167_
  have d240_ : Dis (wrS b1_ v222_) (One b203_) := Dis.step (Dis.sym d208_) N224_ (In.one h205_)
  have h241_ := Fr.keep F226_ h205_ d208_
  have N242_ : New w N0 (wrS b1_ v222_) := New.trans N37_ N224_ (Fr.size T215_)
  refine ⟨(.bool false), (by kernel_rfl), ?_⟩
  refine at_pures 39 (by kernel_rfl) (by kernel_rfl) ?_
  refine at_done (by kernel_rfl) ?_
  refine then_n ?_
  refine c_ret (by kernel_rfl) ?_
  refine fin_ret (.bool true) (by kernel_rfl) (by kernel_rfl) ?_
  exact ⟨rfl, T229_⟩

noncomputable def wireWrites_c_R0 : Array Oper := rAt Try.prog 3 [0]
noncomputable def wireWrites_c_R1 : Array Oper := rAt Try.prog 3 [1, 0, 0]
noncomputable def wireWrites_c_R3 : Array Oper := rAt Try.prog 3 [1, 1, 0, 0]
noncomputable def wireWrites_c_R4 : Array Oper := rAt Try.prog 3 [1, 1, 0, 1, 0, 0]
noncomputable def wireWrites_c_R5 : Array Oper := rAt Try.prog 3 [1, 1, 1, 0]
noncomputable def wireWrites_c_R6 : Array Oper := rAt Try.prog 3 [1, 1, 1, 1, 0]
noncomputable def wireWrites_c_R7 : Array Oper := rAt Try.prog 3 [1, 1, 1, 1, 1, 0, 0]
noncomputable def wireWrites_c_R8 : Array Oper := rAt Try.prog 3 [1, 1, 1, 1, 1, 0, 1, 0, 0, 0]
noncomputable def wireWrites_c_R9 : Array Oper := rAt Try.prog 3 [1, 1, 1, 1, 1, 0, 1, 0, 0, 1, 1, 0, 0, 0]
noncomputable def wireWrites_c_R10 : Array Oper := rAt Try.prog 3 [1, 1, 1, 1, 1, 0, 1, 0, 0, 1, 1, 0, 0, 1, 0]
noncomputable def wireWrites_c_R11 : Array Oper := rAt Try.prog 3 [1, 1, 1, 1, 1, 0, 1, 0, 0, 1, 1, 0, 0, 1, 1, 0, 0]
noncomputable def wireWrites_c_R12 : Array Oper := rAt Try.prog 3 [1, 1, 1, 1, 1, 0, 1, 0, 0, 1, 1, 0, 0, 1, 1, 0, 1, 0, 0]
noncomputable def wireWrites_c_R13 : Array Oper := rAt Try.prog 3 [1, 1, 1, 1, 1, 0, 1, 0, 0, 1, 1, 0, 0, 1, 1, 0, 1, 0, 1, 0]
noncomputable def wireWrites_c_R24 : Array Oper := rAt Try.prog 3 [1, 1, 1, 1, 1, 0, 1, 0, 0, 1, 1, 0, 0, 1, 1, 1, 0]
noncomputable def wireWrites_c_R26 : Array Oper := rAt Try.prog 3 [1, 1, 1, 1, 1, 0, 1, 0, 0, 1, 1, 1]
noncomputable def wireWrites_c_R14 : Array Oper := rAt Try.prog 3 [1, 1, 1, 1, 1, 0, 1, 0, 0, 1, 1, 0, 0, 1, 1, 0, 1, 0, 1, 1, 0]
noncomputable def wireWrites_c_R15 : Array Oper := rAt Try.prog 3 [1, 1, 1, 1, 1, 0, 1, 0, 0, 1, 1, 0, 0, 1, 1, 0, 1, 0, 1, 1, 1, 0]
noncomputable def wireWrites_c_R16 : Array Oper := rAt Try.prog 3 [1, 1, 1, 1, 1, 0, 1, 0, 0, 1, 1, 0, 0, 1, 1, 0, 1, 0, 1, 1, 1, 1, 0]
noncomputable def wireWrites_c_R17 : Array Oper := rAt Try.prog 3 [1, 1, 1, 1, 1, 0, 1, 0, 0, 1, 1, 0, 0, 1, 1, 0, 1, 0, 1, 1, 1, 1, 1, 0]
noncomputable def wireWrites_c_R18 : Array Oper := rAt Try.prog 3 [1, 1, 1, 1, 1, 0, 1, 0, 0, 1, 1, 0, 0, 1, 1, 0, 1, 0, 1, 1, 1, 1, 1, 1, 0]
noncomputable def wireWrites_c_R19 : Array Oper := rAt Try.prog 3 [1, 1, 1, 1, 1, 0, 1, 0, 0, 1, 1, 0, 0, 1, 1, 0, 1, 0, 1, 1, 1, 1, 1, 1, 1, 0]
noncomputable def wireWrites_c_R20 : Array Oper := rAt Try.prog 3 [1, 1, 1, 1, 1, 0, 1, 0, 0, 1, 1, 0, 0, 1, 1, 0, 1, 0, 1, 1, 1, 1, 1, 1, 1, 1, 0]
noncomputable def wireWrites_c_R21 : Array Oper := rAt Try.prog 3 [1, 1, 1, 1, 1, 0, 1, 0, 0, 1, 1, 0, 0, 1, 1, 0, 1, 0, 1, 1, 1, 1, 1, 1, 1, 1, 1, 0, 0]
noncomputable def wireWrites_c_R22 : Array Oper := rAt Try.prog 3 [1, 1, 1, 1, 1, 0, 1, 0, 0, 1, 1, 0, 0, 1, 1, 0, 1, 0, 1, 1, 1, 1, 1, 1, 1, 1, 1, 0, 1, 0]
noncomputable def wireWrites_c_R23 : Array Oper := rAt Try.prog 3 [1, 1, 1, 1, 1, 0, 1, 0, 0, 1, 1, 0, 0, 1, 1, 0, 1, 0, 1, 1, 1, 1, 1, 1, 1, 1, 1, 0, 1, 1]
noncomputable def wireWrites_c_R27 : Array Oper := rAt Try.prog 3 [1, 1, 1, 1, 1, 1, 0]
set_option maxRecDepth 100000 in
theorem wireWrites_c (N : Nat) (ao : Option Addr) (cap : Nat) (ts : List Thing) (w : World) (h_ts : ThingsAt N w ao ts) (hn : ts.length ≤ 9223372036854775807) :
    Calls Try.prog 3 #[(.slice ao ts.length cap)] w fun e w' => e = .returned (.bool true) ∧ Fr w w' N0 := by
  refine c_enter (mk 80 [(0, (.slice ao ts.length cap))] (fun _ => undef)) Try.func3 (by kernel_rfl) (by kernel_rfl) ?_
  refine c_seq [0] [1] (by kernel_rfl) ?_
  refine c_reg 0 wireWrites_c_R0 (by kernel_rfl) ?_
  refine at_pures 1 (by kernel_rfl) (by kernel_rfl) ?_
  refine at_done (by kernel_rfl) ?_
  refine then_n ?_
  refine c_seq [1, 0] [1, 1] (by kernel_rfl) ?_
  refine c_seq [1, 0, 0] [1, 0, 1] (by kernel_rfl) ?_
  refine c_reg 1 wireWrites_c_R1 (by kernel_rfl) ?_
  refine at_do (by kernel_rfl) (op_call 7 #[] #[] (by kernel_rfl) (by kernel_rfl) (by kernel_rfl) ?_)
  have C5_ := awake_c  w   
  refine Calls.mono C5_ ?_
  rintro e4_ w2_ ⟨rfl, F3_⟩
  have T6_ := Fr.tr (Fr.refl w N0) F3_
  have h7_ := ThingsAt.keep h_ts F3_ Dis.n0
  refine ⟨_, rfl, ?_⟩
  refine at_pures 2 (by kernel_rfl) (by kernel_rfl) ?_
  refine at_done (by kernel_rfl) ?_
  refine then_n ?_
  refine c_else (.tmp 11) [1, 0, 1, 0] [1, 0, 1, 1] (by kernel_rfl) (by kernel_rfl) ?_
  refine c_skip (by kernel_rfl) ?_
  refine then_n ?_
  refine c_seq [1, 1, 0] [1, 1, 1] (by kernel_rfl) ?_
  refine c_seq [1, 1, 0, 0] [1, 1, 0, 1] (by kernel_rfl) ?_
  refine c_reg 3 wireWrites_c_R3 (by kernel_rfl) ?_
  refine at_pures 1 (by kernel_rfl) (by kernel_rfl) ?_
  refine at_do (by kernel_rfl) (op_call 8 #[(.tmp 12)] #[(.slice ao ts.length cap)] (by kernel_rfl) (by kernel_rfl) (by kernel_rfl) ?_)
  have C12_ := large_c N ao cap ts w2_ h7_  (by first | omega | with_reducible assumption | (simp only [List.length_append, List.length_cons, List.length_nil, putB_length]; omega) | decide)
  refine Calls.mono C12_ ?_
  rintro e11_ w9_ ⟨rfl, F10_⟩
  have T13_ := Fr.tr T6_ F10_
  have h14_ := ThingsAt.keep h7_ F10_ Dis.n0
  refine ⟨_, rfl, ?_⟩
  refine at_done (by kernel_rfl) ?_
  refine then_n ?_
  refine c_if (.tmp 13) (largeT ts) [1, 1, 0, 1, 0] [1, 1, 0, 1, 1] (by kernel_rfl) (by kernel_rfl) (fun c15_ => ?_) (fun c15_ => ?_)
  · -- yes
    refine c_seq [1, 1, 0, 1, 0, 0] [1, 1, 0, 1, 0, 1] (by kernel_rfl) ?_
    refine c_reg 4 wireWrites_c_R4 (by kernel_rfl) ?_
    refine at_pures 1 (by kernel_rfl) (by kernel_rfl) ?_
    refine at_done (by kernel_rfl) ?_
    refine then_n ?_
    refine c_ret (by kernel_rfl) ?_
    refine then_r ?_
    refine fin_ret (.bool true) (by kernel_rfl) (by kernel_rfl) ?_
    exact ⟨rfl, T13_⟩
  · -- no
    refine c_skip (by kernel_rfl) ?_
    refine then_n ?_
    refine c_seq [1, 1, 1, 0] [1, 1, 1, 1] (by kernel_rfl) ?_
    refine c_reg 5 wireWrites_c_R5 (by kernel_rfl) ?_
    refine at_pures 1 (by kernel_rfl) (by kernel_rfl) ?_
    refine at_do (by kernel_rfl) (op_new (.cells #[(.slice none 0 0)] 28) (fun N => (.pointer (some ⟨N, 0, none⟩))) (fun _ => by kernel_rfl) (fun w17_ b16_ h18_ q19_ F20_ => ?_))
    have d21_ : Dis (One b16_) (Old N) := Dis.fresh (New.one q19_) (ThingsAt.in h14_)
    have N22_ : New w N0 (One b16_) := New.made q19_ (Fr.size T13_)
    have T23_ := Fr.tr T13_ F20_
    refine at_pures 3 (by kernel_rfl) (by kernel_rfl) ?_
    refine at_done (by kernel_rfl) ?_
    refine then_n ?_
    refine c_seq [1, 1, 1, 1, 0] [1, 1, 1, 1, 1] (by kernel_rfl) ?_
    refine c_reg 6 wireWrites_c_R6 (by kernel_rfl) ?_
    refine at_do (by kernel_rfl) (op_new (.cells #[] 5) (fun N => (.slice (some ⟨N, 0, none⟩) 0 0)) (fun _ => by kernel_rfl) (fun w25_ b24_ h26_ q27_ F28_ => ?_))
    have h29_ := ThingsAt.keep h14_ F20_ Dis.n0
    have d30_ : Dis (One b24_) (Old N) := Dis.fresh (New.one q27_) (ThingsAt.in h29_)
    have d31_ : Dis (One b24_) (One b16_) := Dis.fresh (New.one q27_) (In.one h18_)
    have N32_ : New w N0 (One b24_) := New.made q27_ (Fr.size T23_)
    have T33_ := Fr.tr T23_ F28_
    refine at_pures 2 (by kernel_rfl) (by kernel_rfl) ?_
    refine at_done (by kernel_rfl) ?_
    refine then_n ?_
    refine c_seq [1, 1, 1, 1, 1, 0] [1, 1, 1, 1, 1, 1] (by kernel_rfl) ?_
    refine c_seq [1, 1, 1, 1, 1, 0, 0] [1, 1, 1, 1, 1, 0, 1] (by kernel_rfl) ?_
    refine c_reg 7 wireWrites_c_R7 (by kernel_rfl) ?_
    refine at_pures 3 (by kernel_rfl) (by kernel_rfl) ?_
    refine at_done (by kernel_rfl) ?_
    refine then_n ?_
    refine c_block 0 [1, 1, 1, 1, 1, 0, 1, 0] (by kernel_rfl) ?_
    have h34_ := ThingsAt.keep h29_ F28_ Dis.n0
    have h35_ := Fr.keep F28_ h18_ Dis.n0
    have h36_ : WrAt 5 28 w25_ b16_ (.slice none 0 0) [] := WrAt.nil h35_
    have h37_ : Row w25_ 5 1 (.slice (some ⟨b24_, 0, none⟩) 0 0) 0 [] := Row.made' h26_ (by rfl) (by decide) (by decide) (by rfl)
    have hlg := largeT_spec (ts := ts) (by assumption)
    refine c_loop (fun a w' => ∃ (k : Nat), ∃ (vw : Value), ∃ (vo : Value), (∃ u, a = mk 80 [(0, (.slice ao ts.length cap)), (3, (.pointer (some ⟨b16_, 0, none⟩))), (4, vo), (10, (.bool true)), (11, (.bool false)), (12, (.slice ao ts.length cap)), (13, (.bool (largeT ts))), (14, (.agg #[(.slice none 0 0)])), (15, (.pointer (some ⟨b16_, 0, none⟩))), (16, (.slice (some ⟨b24_, 0, none⟩) 0 0)), (17, (.slice ao ts.length cap)), (18, (.int .i64 (ts.length : Int))), (19, (.int .i64 (k : Int)))] u) ∧ (k ≤ ts.length) ∧ (ThingsAt N w' ao ts) ∧ (WrAt 5 28 w' b16_ vw (writeT (ts.take k))) ∧ (Row w' 5 1 vo ((writeT (ts.take k)).length) (B (writeT (ts.take k)))) ∧ (Dis (Old N) (wrS b16_ vw)) ∧ (Dis (Old N) (Own vo)) ∧ (Dis (wrS b16_ vw) (Own vo)) ∧ (New w N0 (wrS b16_ vw)) ∧ (New w N0 (Own vo)) ∧ (Fr w w' N0)) (fun a _ => cnt (ts.length) 19 a) [1, 1, 1, 1, 1, 0, 1, 0, 0] (by kernel_rfl) ⟨0, _, _, is_mk (by kernel_rfl) (by kernel_rfl) (by kernel_rfl), ⟨Nat.zero_le _, h34_, h36_, h37_, (Dis.sym (Dis.wrNil d21_)), (Dis.sym (Dis.own d30_)), (Dis.sym (Dis.own (Dis.sym (Dis.wrNil (Dis.sym d31_))))), (New.wrNil N22_), (New.own N32_), T33_⟩⟩ ?_
    rintro a39_ w40_ ⟨k, vw, vo, ⟨u41_, rfl⟩, ⟨hk, q_0L38_, q_1L38_, q_2L38_, d_0_1L38_, d_0_2L38_, d_1_2L38_, n_1L38_, n_2L38_, hFrL38_⟩⟩
    have hWL : (writeT (ts.take k)).length ≤ 25600 := by have h := writeT_len (ts := ts.take k) (fun y hy => h_ts.ok y (List.mem_of_mem_take hy)); have : (ts.take k).length ≤ ts.length := (by rw [List.length_take]; omega); omega
    refine c_seq [1, 1, 1, 1, 1, 0, 1, 0, 0, 0] [1, 1, 1, 1, 1, 0, 1, 0, 0, 1] (by kernel_rfl) ?_
    refine c_reg 8 wireWrites_c_R8 (by kernel_rfl) ?_
    refine at_pures 1 (by kernel_rfl) (by kernel_rfl) ?_
    refine at_done (by kernel_rfl) ?_
    refine then_n ?_
    refine c_seq [1, 1, 1, 1, 1, 0, 1, 0, 0, 1, 0] [1, 1, 1, 1, 1, 0, 1, 0, 0, 1, 1] (by kernel_rfl) ?_
    refine c_if (.tmp 20) (decide ((k : Int) < (ts.length : Int))) [1, 1, 1, 1, 1, 0, 1, 0, 0, 1, 0, 0] [1, 1, 1, 1, 1, 0, 1, 0, 0, 1, 0, 1] (by kernel_rfl) (by kernel_rfl) (fun c42_ => ?_) (fun c42_ => ?_)
    · -- yes
      replace c42_ : (k : Int) < (ts.length : Int) := of_decide_eq_true c42_
      refine c_skip (by kernel_rfl) ?_
      refine then_n ?_
      refine c_seq [1, 1, 1, 1, 1, 0, 1, 0, 0, 1, 1, 0] [1, 1, 1, 1, 1, 0, 1, 0, 0, 1, 1, 1] (by kernel_rfl) ?_
      refine c_block 1 [1, 1, 1, 1, 1, 0, 1, 0, 0, 1, 1, 0, 0] (by kernel_rfl) ?_
      refine c_seq [1, 1, 1, 1, 1, 0, 1, 0, 0, 1, 1, 0, 0, 0] [1, 1, 1, 1, 1, 0, 1, 0, 0, 1, 1, 0, 0, 1] (by kernel_rfl) ?_
      refine c_reg 9 wireWrites_c_R9 (by kernel_rfl) ?_
      obtain ⟨x, hx_x⟩ : ∃ x, ts[k]? = some x := ⟨_, List.getElem?_eq_getElem (by omega)⟩
      have hm_x := List.mem_of_getElem? hx_x; have ho_x := ThingsAt.ok q_0L38_ x hm_x; have hi_x := ThingsAt.in2 q_0L38_ x hm_x; have hn_x := ho_x.n
      have hXW := Thing.w_len ho_x; have hxh := ho_x.h; have hTX := textW_len x.b; have hxb := hlg.2 x hm_x
      obtain ⟨ad43_, ha44_⟩ := (ThingsAt.rd q_0L38_).has (k * 36) (by rw [cellsT_length]; omega)
      refine at_run (.pointer (some (ad43_.add (k * 36)))) _ (by kernel_rfl) (run_idx_o 22 (.tmp 17) (.tmp 19) 36 ao ad43_ ts.length cap .i64 k (by kernel_rfl) (by kernel_rfl) (by kernel_rfl) (by kernel_rfl) (by kernel_rfl) ha44_ (by omega)) ?_
      refine at_run (.agg (Thing.cells x)) _ (by kernel_rfl) (run_loadEn 33 (.tmp 21) ao ad43_ (k * 36) 36 (cellsT ts) (Thing.cells x) (by kernel_rfl) (by kernel_rfl) (by kernel_rfl) (by kernel_rfl) ha44_ (ThingsAt.rd q_0L38_) (by kernel_rfl) (cellsT_get ts k x hx_x)) ?_
      refine at_do (by kernel_rfl) (op_new (.cells #[(.int .i64 0), (.int .u64 0), (.int .u8 0), (.int .u8 0), (.int .u8 0), (.int .u8 0), (.int .u8 0), (.int .u8 0), (.int .u8 0), (.int .u8 0), (.int .u8 0), (.int .u8 0), (.int .u8 0), (.int .u8 0), (.int .u8 0), (.int .u8 0), (.int .u8 0), (.int .u8 0), (.int .u8 0), (.int .u8 0), (.int .u8 0), (.int .u8 0), (.int .u8 0), (.int .u8 0), (.int .u8 0), (.int .u8 0), (.int .u8 0), (.int .u8 0), (.int .u8 0), (.int .u8 0), (.int .u8 0), (.int .u8 0), (.int .u8 0), (.int .u8 0), (.slice none 0 0), (.int .i64 0)] 33) (fun N => (.pointer (some ⟨N, 0, none⟩))) (fun _ => by kernel_rfl) (fun w46_ b45_ h47_ q48_ F49_ => ?_))
      have d50_ : Dis (One b45_) (Old N) := Dis.fresh (New.one q48_) (ThingsAt.in q_0L38_)
      have d51_ : Dis (One b45_) (wrS b16_ vw) := Dis.fresh (New.one q48_) (WrAt.in q_1L38_)
      have d52_ : Dis (One b45_) (Own vo) := Dis.fresh (New.one q48_) (Row.in q_2L38_)
      have d53_ : Dis (One b45_) (Ar x.ao (B x.b)) := Dis.fresh (New.one q48_) (Rd.in (ThingsAt.rdb q_0L38_ x hm_x))
      have N54_ : New w N0 (One b45_) := New.made q48_ (Fr.size hFrL38_)
      have T55_ := Fr.tr hFrL38_ F49_
      have h56_ := ThingsAt.keep q_0L38_ F49_ Dis.n0
      have h57_ := WrAt.keep q_1L38_ F49_ Dis.n0
      have h58_ := Row.keep q_2L38_ F49_ Dis.n0
      have h59_ := Rd.keep' (ThingsAt.rdb q_0L38_ x hm_x) F49_ Dis.n0
      refine at_do (by kernel_rfl) (op_store 33 (.tmp 6) (.tmp 22) b45_ 0 (.agg (Thing.cells x)) _ _ (Thing.cells x) (by kernel_rfl) (by kernel_rfl) (by kernel_rfl) h47_ (by kernel_rfl) (by kernel_rfl) (by kernel_rfl) (by kernel_rfl) (fun w60_ h61_ z62_ F63_ => ?_))
      have T64_ := Fr.then T55_ F63_ N54_
      have h65_ := ThingsAt.keep h56_ F63_ (Dis.sym d50_)
      have h66_ := WrAt.keep h57_ F63_ (Dis.sym d51_)
      have h67_ := Row.keep h58_ F63_ (Dis.sym d52_)
      have h68_ := Rd.keep' h59_ F63_ (Dis.sym d53_)
      refine at_done (by kernel_rfl) ?_
      refine then_n ?_
      refine c_seq [1, 1, 1, 1, 1, 0, 1, 0, 0, 1, 1, 0, 0, 1, 0] [1, 1, 1, 1, 1, 0, 1, 0, 0, 1, 1, 0, 0, 1, 1] (by kernel_rfl) ?_
      refine c_reg 10 wireWrites_c_R10 (by kernel_rfl) ?_
      refine at_pures 1 (by kernel_rfl) (by kernel_rfl) ?_
      refine at_loadN 33 (.tmp 6) b45_ 0 36 _ _ _ (Thing.cells x) (by kernel_rfl) (by kernel_rfl) (by kernel_rfl) (by kernel_rfl) (by kernel_rfl) h61_ (by kernel_rfl) (by kernel_rfl) ?_
      refine at_do (by kernel_rfl) (op_call 9 #[(.tmp 23), (.tmp 24)] #[(.pointer (some ⟨b16_, 0, none⟩)), (.agg (Thing.cells x))] (by kernel_rfl) (by kernel_rfl) (by kernel_rfl) ?_)
      have C76_ := write_c b16_ vw (writeT (ts.take k)) x w60_ h68_ h66_ (Dis.sym (Sub.dis hi_x d_0_1L38_)) (by first | omega | with_reducible assumption | (simp only [List.length_append, List.length_cons, List.length_nil, putB_length]; omega) | decide) (by first | omega | with_reducible assumption | (simp only [List.length_append, List.length_cons, List.length_nil, putB_length]; omega) | decide) (by first | omega | with_reducible assumption | (simp only [List.length_append, List.length_cons, List.length_nil, putB_length]; omega) | decide)
      refine Calls.mono C76_ ?_
      rintro e75_ w73_ ⟨vwr69_, rfl, h70_, F74_, h72_⟩
      have T77_ := Fr.then T64_ F74_ n_1L38_
      have d78_ : Dis (wrS b16_ vwr69_) (Old N) := Dis.step (Dis.sym d_0_1L38_) h72_ (ThingsAt.in h65_)
      have h79_ := ThingsAt.keep h65_ F74_ d_0_1L38_
      have d80_ : Dis (wrS b16_ vwr69_) (Own vo) := Dis.step d_1_2L38_ h72_ (Row.in h67_)
      have h81_ := Row.keep h67_ F74_ (Dis.sym d_1_2L38_)
      have d82_ : Dis (wrS b16_ vwr69_) (Ar x.ao (B x.b)) := Dis.step (Dis.sym (Sub.dis hi_x d_0_1L38_)) h72_ (Rd.in h68_)
      have h83_ := Rd.keep' h68_ F74_ (Sub.dis hi_x d_0_1L38_)
      have d84_ : Dis (wrS b16_ vwr69_) (One b45_) := Dis.step (Dis.sym d51_) h72_ (In.one h61_)
      have h85_ := Fr.keep F74_ h61_ d51_
      have N86_ : New w N0 (wrS b16_ vwr69_) := New.trans n_1L38_ h72_ (Fr.size T64_)
      refine ⟨_, rfl, ?_⟩
      refine at_pures 5 (by kernel_rfl) (by kernel_rfl) ?_
      refine at_done (by kernel_rfl) ?_
      refine then_n ?_
      refine c_seq [1, 1, 1, 1, 1, 0, 1, 0, 0, 1, 1, 0, 0, 1, 1, 0] [1, 1, 1, 1, 1, 0, 1, 0, 0, 1, 1, 0, 0, 1, 1, 1] (by kernel_rfl) ?_
      refine c_seq [1, 1, 1, 1, 1, 0, 1, 0, 0, 1, 1, 0, 0, 1, 1, 0, 0] [1, 1, 1, 1, 1, 0, 1, 0, 0, 1, 1, 0, 0, 1, 1, 0, 1] (by kernel_rfl) ?_
      refine c_reg 11 wireWrites_c_R11 (by kernel_rfl) ?_
      refine at_pures 1 (by kernel_rfl) (by kernel_rfl) ?_
      refine at_load1 3 (.tmp 26) b45_ 0 _ _ _ (.int .i64 x.kind) (by kernel_rfl) (by kernel_rfl) (by kernel_rfl) (by kernel_rfl) h85_ (by kernel_rfl) ?_
      refine at_done (by kernel_rfl) ?_
      refine then_n ?_
      refine c_block 2 [1, 1, 1, 1, 1, 0, 1, 0, 0, 1, 1, 0, 0, 1, 1, 0, 1, 0] (by kernel_rfl) ?_
      refine c_seq [1, 1, 1, 1, 1, 0, 1, 0, 0, 1, 1, 0, 0, 1, 1, 0, 1, 0, 0] [1, 1, 1, 1, 1, 0, 1, 0, 0, 1, 1, 0, 0, 1, 1, 0, 1, 0, 1] (by kernel_rfl) ?_
      refine c_reg 12 wireWrites_c_R12 (by kernel_rfl) ?_
      refine at_pures 2 (by kernel_rfl) (by kernel_rfl) ?_
      refine at_done (by kernel_rfl) ?_
      refine then_n ?_
      refine c_if (.tmp 28) (x.kind == (0 : Int)) [1, 1, 1, 1, 1, 0, 1, 0, 0, 1, 1, 0, 0, 1, 1, 0, 1, 0, 1, 0] [1, 1, 1, 1, 1, 0, 1, 0, 0, 1, 1, 0, 0, 1, 1, 0, 1, 0, 1, 1] (by kernel_rfl) (by kernel_rfl) (fun c87_ => ?_) (fun c87_ => ?_)
      · -- yes
        replace c87_ : x.kind = (0 : Int) := by simpa using c87_
        refine c_reg 13 wireWrites_c_R13 (by kernel_rfl) ?_
        refine at_pures 2 (by kernel_rfl) (by kernel_rfl) ?_
        refine at_load1 29 (.tmp 31) b45_ 1 _ _ _ (.int .u64 (x.n : Int)) (by kernel_rfl) (by kernel_rfl) (by kernel_rfl) (by kernel_rfl) h85_ (by kernel_rfl) ?_
        refine at_int (kd := .u64) ((x.n : Int).tmod (256 : Int)) (((x.n % 256 : Nat) : Int)) (by kernel_rfl) (by kernel_rfl) (rem_nat _ _) ?_
        refine at_int (kd := .u8) (IntKind.u8.wrap (((x.n % 256 : Nat) : Int))) (((x.n % 256 : Nat) : Int)) (by kernel_rfl) (by kernel_rfl) (wrapN_u8 (by omega) (by omega)) ?_
        refine at_do (by kernel_rfl) (op_new (.cells #[(.int .u8 ((x.n % 256 : Nat) : Int))] 5) (fun N => (.slice (some ⟨N, 0, none⟩) 1 1)) (fun _ => by kernel_rfl) (fun w89_ b88_ h90_ q91_ F92_ => ?_))
        have d93_ : Dis (One b88_) (Old N) := Dis.fresh (New.one q91_) (ThingsAt.in h79_)
        have d94_ : Dis (One b88_) (wrS b16_ vwr69_) := Dis.fresh (New.one q91_) (WrAt.in h70_)
        have d95_ : Dis (One b88_) (Own vo) := Dis.fresh (New.one q91_) (Row.in h81_)
        have d96_ : Dis (One b88_) (Ar x.ao (B x.b)) := Dis.fresh (New.one q91_) (Rd.in h83_)
        have d97_ : Dis (One b88_) (One b45_) := Dis.fresh (New.one q91_) (In.one h85_)
        have N98_ : New w N0 (One b88_) := New.made q91_ (Fr.size T77_)
        have T99_ := Fr.tr T77_ F92_
        have h100_ := ThingsAt.keep h79_ F92_ Dis.n0
        have h101_ := WrAt.keep h70_ F92_ Dis.n0
        have h102_ := Row.keep h81_ F92_ Dis.n0
        have h103_ := Rd.keep' h83_ F92_ Dis.n0
        have h104_ := Fr.keep F92_ h85_ Dis.n0
        refine at_do (by kernel_rfl) (op_append (.tmp 30) (.tmp 35) 26 26 5 1 1 (.int .u8 0) (by kernel_rfl) (by kernel_rfl) (by rfl) (v := vo) (by kernel_rfl) h102_ (xv := (.slice (some ⟨b88_, 0, none⟩) 1 1)) (m := 1) (news := (#[(.int .u8 ((x.n % 256 : Nat) : Int))]).toList) (by kernel_rfl) (Rd.src (xs := (#[(.int .u8 ((x.n % 256 : Nat) : Int))]).toList) (size := 1) (e := 5) (by kernel_rfl) (Rd.of_cut h90_ 0 1 (by kernel_rfl)) (by kernel_rfl) (by decide) (ones (by kernel_rfl))) (by simp only [maxLen]; omega) (by omega) (fun v105_ w106_ h107_ F108_ s109_ => ?_))
        have T110_ := Fr.then T99_ F108_ n_2L38_
        have d111_ : Dis (Own v105_) (Old N) := Dis.step (Dis.sym d_0_2L38_) s109_ (ThingsAt.in h100_)
        have h112_ := ThingsAt.keep h100_ F108_ d_0_2L38_
        have d113_ : Dis (Own v105_) (wrS b16_ vwr69_) := Dis.step (Dis.sym d80_) s109_ (WrAt.in h101_)
        have h114_ := WrAt.keep h101_ F108_ d80_
        have d115_ : Dis (Own v105_) (Ar x.ao (B x.b)) := Dis.step (Dis.sym (Sub.dis hi_x d_0_2L38_)) s109_ (Rd.in h103_)
        have h116_ := Rd.keep' h103_ F108_ (Sub.dis hi_x d_0_2L38_)
        have d117_ : Dis (Own v105_) (One b45_) := Dis.step (Dis.sym d52_) s109_ (In.one h104_)
        have h118_ := Fr.keep F108_ h104_ d52_
        have N119_ : New w N0 (Own v105_) := New.trans n_2L38_ s109_ (Fr.size T99_)
        have h120_ : Row w106_ 5 1 v105_ ((writeT (ts.take k)) ++ [(x.n % 256 : Nat)]).length (B ((writeT (ts.take k)) ++ [(x.n % 256 : Nat)])) := Row.appB h107_ (by rfl)
        refine at_pures 8 (by kernel_rfl) (by kernel_rfl) ?_
        refine at_done (by kernel_rfl) ?_
        refine blk_n ?_
        refine then_n ?_
        refine c_seq [1, 1, 1, 1, 1, 0, 1, 0, 0, 1, 1, 0, 0, 1, 1, 1, 0] [1, 1, 1, 1, 1, 0, 1, 0, 0, 1, 1, 0, 0, 1, 1, 1, 1] (by kernel_rfl) ?_
        refine c_reg 24 wireWrites_c_R24 (by kernel_rfl) ?_
        refine at_pures 2 (by kernel_rfl) (by kernel_rfl) ?_
        have hE : (writeT (ts.take k)) ++ x.w = (writeT (ts.take k)) ++ [(x.n % 256 : Nat)] := congrArg ((writeT (ts.take k)) ++ ·) (show x.w = [(x.n % 256 : Nat)] from by unfold Thing.w; first | (rw [if_pos (by omega), putB_one (by omega)]) | rw [if_neg (by omega), if_pos (by omega)] | rw [if_neg (by omega), if_neg (by omega), if_pos (by omega)] | rw [if_neg (by omega), if_neg (by omega), if_neg (by omega), if_pos (by omega)] | rw [if_neg (by omega), if_neg (by omega), if_neg (by omega), if_neg (by omega), if_pos (by omega)] | rw [if_neg (by omega), if_neg (by omega), if_neg (by omega), if_neg (by omega), if_neg (by omega)])
        refine at_as (.bool (x.okW != true)) (.bool false) (by kernel_rfl) (by kernel_rfl) (by rw [show x.okW = true from (by unfold Thing.okW; first | rw [if_pos (by omega)] | rw [if_neg (by omega)])]; exact congrArg Value.bool (bne_self_eq_false _)) ?_
        refine at_pures 5 (by kernel_rfl) (by kernel_rfl) ?_
        refine at_do (by kernel_rfl) (op_call 13 #[(.tmp 73)] #[(.pointer (some ⟨b16_, 0, none⟩))] (by kernel_rfl) (by kernel_rfl) (by kernel_rfl) ?_)
        have C128_ := bytes_c b16_ vwr69_ ((writeT (ts.take k)) ++ x.w) w106_ h114_  (by first | omega | with_reducible assumption | (simp only [List.length_append, List.length_cons, List.length_nil, putB_length]; omega) | decide)
        refine Calls.mono C128_ ?_
        rintro e127_ w125_ ⟨vout121_, rfl, h122_, F126_, h124_⟩
        have d129_ : Dis (Own vout121_) (Old N) := Dis.fresh h124_ (ThingsAt.in h112_)
        have d130_ : Dis (Own vout121_) (wrS b16_ vwr69_) := Dis.fresh h124_ (WrAt.in h114_)
        have d131_ : Dis (Own vout121_) (Own v105_) := Dis.fresh h124_ (Row.in h120_)
        have d132_ : Dis (Own vout121_) (Ar x.ao (B x.b)) := Dis.fresh h124_ (Rd.in h116_)
        have d133_ : Dis (Own vout121_) (One b45_) := Dis.fresh h124_ (In.one h118_)
        have T134_ := Fr.tr T110_ F126_
        have h135_ := ThingsAt.keep h112_ F126_ Dis.n0
        have h136_ := WrAt.keep h114_ F126_ Dis.n0
        have h137_ := Row.keep h120_ F126_ Dis.n0
        have h138_ := Rd.keep' h116_ F126_ Dis.n0
        have h139_ := Fr.keep F126_ h118_ Dis.n0
        have N141_ : New w N0 (Own vout121_) := New.later' h124_ (Fr.size T110_)
        obtain ⟨ao142_, cap143_, rfl, hc144_, hm145_, hR146_, ho147_⟩ := Row.read h122_
        refine ⟨_, rfl, ?_⟩
        refine at_pures 7 (by kernel_rfl) (by kernel_rfl) ?_
        refine at_do (by kernel_rfl) (op_call 12 #[(.tmp 74), (.tmp 75)] #[(.slice ao142_ (((writeT (ts.take k)) ++ x.w).length) cap143_), v105_] (by kernel_rfl) (by kernel_rfl) (by kernel_rfl) ?_)
        have C152_ := same_c (.slice ao142_ (((writeT (ts.take k)) ++ x.w).length) cap143_) ((writeT (ts.take k)) ++ x.w) v105_ ((writeT (ts.take k)) ++ [(x.n % 256 : Nat)]) w125_ (Row.sl h122_) (Row.sl h137_)  (by first | omega | with_reducible assumption | (simp only [List.length_append, List.length_cons, List.length_nil, putB_length]; omega) | decide) (by first | omega | with_reducible assumption | (simp only [List.length_append, List.length_cons, List.length_nil, putB_length]; omega) | decide)
        refine Calls.mono C152_ ?_
        rintro e151_ w149_ ⟨rfl, F150_⟩
        have T153_ := Fr.tr T134_ F150_
        have h154_ := ThingsAt.keep h135_ F150_ Dis.n0
        have h155_ := WrAt.keep h136_ F150_ Dis.n0
        have h156_ := Row.keep h137_ F150_ Dis.n0
        have h157_ := Rd.keep' h138_ F150_ Dis.n0
        have h158_ := Fr.keep F150_ h139_ Dis.n0
        have h159_ := Row.keep h122_ F150_ Dis.n0
        refine ⟨(.bool true), (by rw [decide_eq_true hE]), ?_⟩
        refine at_pures 10 (by kernel_rfl) (by kernel_rfl) ?_
        refine at_done (by kernel_rfl) ?_
        refine then_n ?_
        refine c_else (.tmp 78) [1, 1, 1, 1, 1, 0, 1, 0, 0, 1, 1, 0, 0, 1, 1, 1, 1, 0] [1, 1, 1, 1, 1, 0, 1, 0, 0, 1, 1, 0, 0, 1, 1, 1, 1, 1] (by kernel_rfl) (by kernel_rfl) ?_
        refine c_skip (by kernel_rfl) ?_
        refine blk_n ?_
        refine then_n ?_
        refine c_reg 26 wireWrites_c_R26 (by kernel_rfl) ?_
        refine at_int (kd := .i64) (IntKind.i64.wrap ((k : Int) + (1 : Int))) ((k : Int) + (1 : Int)) (by kernel_rfl) (by kernel_rfl) (wrapN_i64 (by omega) (by omega)) ?_
        refine at_pures 2 (by kernel_rfl) (by kernel_rfl) ?_
        refine at_done (by kernel_rfl) ?_
        refine then_n ?_
        exact ⟨⟨k + 1, vwr69_, v105_, is_mk (by kernel_rfl) (by kernel_rfl) (by kernel_rfl), ⟨(by omega), h154_, (by rw [writeT_snoc hx_x]; exact h155_), (by rw [writeT_snoc hx_x, hE]; exact h156_), (Dis.sym d78_), (Dis.sym d111_), (Dis.sym d113_), N86_, N119_, T153_⟩⟩, cnt_lt (k := (k : Int)) (k' := ((k : Int) + (1 : Int))) (by kernel_rfl) (by kernel_rfl) (by omega) (by omega)⟩
      · -- no
        replace c87_ : x.kind ≠ (0 : Int) := by simpa using c87_
        refine c_seq [1, 1, 1, 1, 1, 0, 1, 0, 0, 1, 1, 0, 0, 1, 1, 0, 1, 0, 1, 1, 0] [1, 1, 1, 1, 1, 0, 1, 0, 0, 1, 1, 0, 0, 1, 1, 0, 1, 0, 1, 1, 1] (by kernel_rfl) ?_
        refine c_reg 14 wireWrites_c_R14 (by kernel_rfl) ?_
        refine at_pures 2 (by kernel_rfl) (by kernel_rfl) ?_
        refine at_done (by kernel_rfl) ?_
        refine then_n ?_
        refine c_if (.tmp 37) (x.kind == (1 : Int)) [1, 1, 1, 1, 1, 0, 1, 0, 0, 1, 1, 0, 0, 1, 1, 0, 1, 0, 1, 1, 1, 0] [1, 1, 1, 1, 1, 0, 1, 0, 0, 1, 1, 0, 0, 1, 1, 0, 1, 0, 1, 1, 1, 1] (by kernel_rfl) (by kernel_rfl) (fun c160_ => ?_) (fun c160_ => ?_)
        · -- yes
          replace c160_ : x.kind = (1 : Int) := by simpa using c160_
          refine c_reg 15 wireWrites_c_R15 (by kernel_rfl) ?_
          refine at_pures 2 (by kernel_rfl) (by kernel_rfl) ?_
          refine at_load1 29 (.tmp 40) b45_ 1 _ _ _ (.int .u64 (x.n : Int)) (by kernel_rfl) (by kernel_rfl) (by kernel_rfl) (by kernel_rfl) h85_ (by kernel_rfl) ?_
          refine at_int (kd := .u64) ((x.n : Int).tmod (4294967296 : Int)) (((x.n % 4294967296 : Nat) : Int)) (by kernel_rfl) (by kernel_rfl) (rem_nat _ _) ?_
          refine at_do (by kernel_rfl) (op_call 10 #[(.tmp 42), (.const (.int .i64 4))] #[(.int .u64 ((x.n % 4294967296 : Nat) : Int)), (.int .i64 4)] (by kernel_rfl) (by kernel_rfl) (by kernel_rfl) ?_)
          have C168_ := rput_c (x.n % 4294967296 : Nat) 4 w73_   (by first | omega | with_reducible assumption | (simp only [List.length_append, List.length_cons, List.length_nil, putB_length]; omega) | decide) (by first | omega | with_reducible assumption | (simp only [List.length_append, List.length_cons, List.length_nil, putB_length]; omega) | decide)
          refine Calls.mono C168_ ?_
          rintro e167_ w165_ ⟨vout161_, rfl, h162_, F166_, h164_⟩
          have d169_ : Dis (Own vout161_) (Old N) := Dis.fresh h164_ (ThingsAt.in h79_)
          have d170_ : Dis (Own vout161_) (wrS b16_ vwr69_) := Dis.fresh h164_ (WrAt.in h70_)
          have d171_ : Dis (Own vout161_) (Own vo) := Dis.fresh h164_ (Row.in h81_)
          have d172_ : Dis (Own vout161_) (Ar x.ao (B x.b)) := Dis.fresh h164_ (Rd.in h83_)
          have d173_ : Dis (Own vout161_) (One b45_) := Dis.fresh h164_ (In.one h85_)
          have T174_ := Fr.tr T77_ F166_
          have h175_ := ThingsAt.keep h79_ F166_ Dis.n0
          have h176_ := WrAt.keep h70_ F166_ Dis.n0
          have h177_ := Row.keep h81_ F166_ Dis.n0
          have h178_ := Rd.keep' h83_ F166_ Dis.n0
          have h179_ := Fr.keep F166_ h85_ Dis.n0
          have N181_ : New w N0 (Own vout161_) := New.later' h164_ (Fr.size T77_)
          obtain ⟨ao182_, cap183_, rfl, hc184_, hm185_, hR186_, ho187_⟩ := Row.read h162_
          refine ⟨_, rfl, ?_⟩
          refine at_do (by kernel_rfl) (op_append (.tmp 39) (.tmp 43) 26 26 5 1 1 (.int .u8 0) (by kernel_rfl) (by kernel_rfl) (by rfl) (v := vo) (by kernel_rfl) h177_ (xv := (.slice ao182_ 4 cap183_)) (m := 4) (news := B (putB (x.n % 4294967296 : Nat) 4 4)) (by kernel_rfl) (Row.src (e' := 5) (by kernel_rfl) h162_ (by decide) B_one) (by simp only [maxLen]; omega) (by omega) (fun v188_ w189_ h190_ F191_ s192_ => ?_))
          have T193_ := Fr.then T174_ F191_ n_2L38_
          have d194_ : Dis (Own v188_) (Old N) := Dis.step (Dis.sym d_0_2L38_) s192_ (ThingsAt.in h175_)
          have h195_ := ThingsAt.keep h175_ F191_ d_0_2L38_
          have d196_ : Dis (Own v188_) (wrS b16_ vwr69_) := Dis.step (Dis.sym d80_) s192_ (WrAt.in h176_)
          have h197_ := WrAt.keep h176_ F191_ d80_
          have d198_ : Dis (Own v188_) (Ar x.ao (B x.b)) := Dis.step (Dis.sym (Sub.dis hi_x d_0_2L38_)) s192_ (Rd.in h178_)
          have h199_ := Rd.keep' h178_ F191_ (Sub.dis hi_x d_0_2L38_)
          have d200_ : Dis (Own v188_) (One b45_) := Dis.step (Dis.sym d52_) s192_ (In.one h179_)
          have h201_ := Fr.keep F191_ h179_ d52_
          have N202_ : New w N0 (Own v188_) := New.trans n_2L38_ s192_ (Fr.size T174_)
          have h203_ : Row w189_ 5 1 v188_ ((writeT (ts.take k)) ++ (putB (x.n % 4294967296 : Nat) 4 4)).length (B ((writeT (ts.take k)) ++ (putB (x.n % 4294967296 : Nat) 4 4))) := Row.appB h190_ rfl
          refine at_pures 7 (by kernel_rfl) (by kernel_rfl) ?_
          refine at_done (by kernel_rfl) ?_
          refine blk_n ?_
          refine then_n ?_
          refine c_seq [1, 1, 1, 1, 1, 0, 1, 0, 0, 1, 1, 0, 0, 1, 1, 1, 0] [1, 1, 1, 1, 1, 0, 1, 0, 0, 1, 1, 0, 0, 1, 1, 1, 1] (by kernel_rfl) ?_
          refine c_reg 24 wireWrites_c_R24 (by kernel_rfl) ?_
          refine at_pures 2 (by kernel_rfl) (by kernel_rfl) ?_
          have hE : (writeT (ts.take k)) ++ x.w = (writeT (ts.take k)) ++ (putB (x.n % 4294967296 : Nat) 4 4) := congrArg ((writeT (ts.take k)) ++ ·) (show x.w = (putB (x.n % 4294967296 : Nat) 4 4) from by unfold Thing.w; first | (rw [if_pos (by omega), putB_one (by omega)]) | rw [if_neg (by omega), if_pos (by omega)] | rw [if_neg (by omega), if_neg (by omega), if_pos (by omega)] | rw [if_neg (by omega), if_neg (by omega), if_neg (by omega), if_pos (by omega)] | rw [if_neg (by omega), if_neg (by omega), if_neg (by omega), if_neg (by omega), if_pos (by omega)] | rw [if_neg (by omega), if_neg (by omega), if_neg (by omega), if_neg (by omega), if_neg (by omega)])
          refine at_as (.bool (x.okW != true)) (.bool false) (by kernel_rfl) (by kernel_rfl) (by rw [show x.okW = true from (by unfold Thing.okW; first | rw [if_pos (by omega)] | rw [if_neg (by omega)])]; exact congrArg Value.bool (bne_self_eq_false _)) ?_
          refine at_pures 5 (by kernel_rfl) (by kernel_rfl) ?_
          refine at_do (by kernel_rfl) (op_call 13 #[(.tmp 73)] #[(.pointer (some ⟨b16_, 0, none⟩))] (by kernel_rfl) (by kernel_rfl) (by kernel_rfl) ?_)
          have C211_ := bytes_c b16_ vwr69_ ((writeT (ts.take k)) ++ x.w) w189_ h197_  (by first | omega | with_reducible assumption | (simp only [List.length_append, List.length_cons, List.length_nil, putB_length]; omega) | decide)
          refine Calls.mono C211_ ?_
          rintro e210_ w208_ ⟨vout204_, rfl, h205_, F209_, h207_⟩
          have d212_ : Dis (Own vout204_) (Old N) := Dis.fresh h207_ (ThingsAt.in h195_)
          have d213_ : Dis (Own vout204_) (wrS b16_ vwr69_) := Dis.fresh h207_ (WrAt.in h197_)
          have d214_ : Dis (Own vout204_) (Own v188_) := Dis.fresh h207_ (Row.in h203_)
          have d215_ : Dis (Own vout204_) (Ar x.ao (B x.b)) := Dis.fresh h207_ (Rd.in h199_)
          have d216_ : Dis (Own vout204_) (One b45_) := Dis.fresh h207_ (In.one h201_)
          have T217_ := Fr.tr T193_ F209_
          have h218_ := ThingsAt.keep h195_ F209_ Dis.n0
          have h219_ := WrAt.keep h197_ F209_ Dis.n0
          have h220_ := Row.keep h203_ F209_ Dis.n0
          have h221_ := Rd.keep' h199_ F209_ Dis.n0
          have h222_ := Fr.keep F209_ h201_ Dis.n0
          have N224_ : New w N0 (Own vout204_) := New.later' h207_ (Fr.size T193_)
          obtain ⟨ao225_, cap226_, rfl, hc227_, hm228_, hR229_, ho230_⟩ := Row.read h205_
          refine ⟨_, rfl, ?_⟩
          refine at_pures 7 (by kernel_rfl) (by kernel_rfl) ?_
          refine at_do (by kernel_rfl) (op_call 12 #[(.tmp 74), (.tmp 75)] #[(.slice ao225_ (((writeT (ts.take k)) ++ x.w).length) cap226_), v188_] (by kernel_rfl) (by kernel_rfl) (by kernel_rfl) ?_)
          have C235_ := same_c (.slice ao225_ (((writeT (ts.take k)) ++ x.w).length) cap226_) ((writeT (ts.take k)) ++ x.w) v188_ ((writeT (ts.take k)) ++ (putB (x.n % 4294967296 : Nat) 4 4)) w208_ (Row.sl h205_) (Row.sl h220_)  (by first | omega | with_reducible assumption | (simp only [List.length_append, List.length_cons, List.length_nil, putB_length]; omega) | decide) (by first | omega | with_reducible assumption | (simp only [List.length_append, List.length_cons, List.length_nil, putB_length]; omega) | decide)
          refine Calls.mono C235_ ?_
          rintro e234_ w232_ ⟨rfl, F233_⟩
          have T236_ := Fr.tr T217_ F233_
          have h237_ := ThingsAt.keep h218_ F233_ Dis.n0
          have h238_ := WrAt.keep h219_ F233_ Dis.n0
          have h239_ := Row.keep h220_ F233_ Dis.n0
          have h240_ := Rd.keep' h221_ F233_ Dis.n0
          have h241_ := Fr.keep F233_ h222_ Dis.n0
          have h242_ := Row.keep h205_ F233_ Dis.n0
          refine ⟨(.bool true), (by rw [decide_eq_true hE]), ?_⟩
          refine at_pures 10 (by kernel_rfl) (by kernel_rfl) ?_
          refine at_done (by kernel_rfl) ?_
          refine then_n ?_
          refine c_else (.tmp 78) [1, 1, 1, 1, 1, 0, 1, 0, 0, 1, 1, 0, 0, 1, 1, 1, 1, 0] [1, 1, 1, 1, 1, 0, 1, 0, 0, 1, 1, 0, 0, 1, 1, 1, 1, 1] (by kernel_rfl) (by kernel_rfl) ?_
          refine c_skip (by kernel_rfl) ?_
          refine blk_n ?_
          refine then_n ?_
          refine c_reg 26 wireWrites_c_R26 (by kernel_rfl) ?_
          refine at_int (kd := .i64) (IntKind.i64.wrap ((k : Int) + (1 : Int))) ((k : Int) + (1 : Int)) (by kernel_rfl) (by kernel_rfl) (wrapN_i64 (by omega) (by omega)) ?_
          refine at_pures 2 (by kernel_rfl) (by kernel_rfl) ?_
          refine at_done (by kernel_rfl) ?_
          refine then_n ?_
          exact ⟨⟨k + 1, vwr69_, v188_, is_mk (by kernel_rfl) (by kernel_rfl) (by kernel_rfl), ⟨(by omega), h237_, (by rw [writeT_snoc hx_x]; exact h238_), (by rw [writeT_snoc hx_x, hE]; exact h239_), (Dis.sym d78_), (Dis.sym d194_), (Dis.sym d196_), N86_, N202_, T236_⟩⟩, cnt_lt (k := (k : Int)) (k' := ((k : Int) + (1 : Int))) (by kernel_rfl) (by kernel_rfl) (by omega) (by omega)⟩
        · -- no
          replace c160_ : x.kind ≠ (1 : Int) := by simpa using c160_
          refine c_seq [1, 1, 1, 1, 1, 0, 1, 0, 0, 1, 1, 0, 0, 1, 1, 0, 1, 0, 1, 1, 1, 1, 0] [1, 1, 1, 1, 1, 0, 1, 0, 0, 1, 1, 0, 0, 1, 1, 0, 1, 0, 1, 1, 1, 1, 1] (by kernel_rfl) ?_
          refine c_reg 16 wireWrites_c_R16 (by kernel_rfl) ?_
          refine at_pures 2 (by kernel_rfl) (by kernel_rfl) ?_
          refine at_done (by kernel_rfl) ?_
          refine then_n ?_
          refine c_if (.tmp 45) (x.kind == (2 : Int)) [1, 1, 1, 1, 1, 0, 1, 0, 0, 1, 1, 0, 0, 1, 1, 0, 1, 0, 1, 1, 1, 1, 1, 0] [1, 1, 1, 1, 1, 0, 1, 0, 0, 1, 1, 0, 0, 1, 1, 0, 1, 0, 1, 1, 1, 1, 1, 1] (by kernel_rfl) (by kernel_rfl) (fun c243_ => ?_) (fun c243_ => ?_)
          · -- yes
            replace c243_ : x.kind = (2 : Int) := by simpa using c243_
            refine c_reg 17 wireWrites_c_R17 (by kernel_rfl) ?_
            refine at_pures 2 (by kernel_rfl) (by kernel_rfl) ?_
            refine at_load1 29 (.tmp 48) b45_ 1 _ _ _ (.int .u64 (x.n : Int)) (by kernel_rfl) (by kernel_rfl) (by kernel_rfl) (by kernel_rfl) h85_ (by kernel_rfl) ?_
            refine at_do (by kernel_rfl) (op_call 10 #[(.tmp 49), (.const (.int .i64 8))] #[(.int .u64 (x.n : Int)), (.int .i64 8)] (by kernel_rfl) (by kernel_rfl) (by kernel_rfl) ?_)
            have C251_ := rput_c x.n 8 w73_   (by first | omega | with_reducible assumption | (simp only [List.length_append, List.length_cons, List.length_nil, putB_length]; omega) | decide) (by first | omega | with_reducible assumption | (simp only [List.length_append, List.length_cons, List.length_nil, putB_length]; omega) | decide)
            refine Calls.mono C251_ ?_
            rintro e250_ w248_ ⟨vout244_, rfl, h245_, F249_, h247_⟩
            have d252_ : Dis (Own vout244_) (Old N) := Dis.fresh h247_ (ThingsAt.in h79_)
            have d253_ : Dis (Own vout244_) (wrS b16_ vwr69_) := Dis.fresh h247_ (WrAt.in h70_)
            have d254_ : Dis (Own vout244_) (Own vo) := Dis.fresh h247_ (Row.in h81_)
            have d255_ : Dis (Own vout244_) (Ar x.ao (B x.b)) := Dis.fresh h247_ (Rd.in h83_)
            have d256_ : Dis (Own vout244_) (One b45_) := Dis.fresh h247_ (In.one h85_)
            have T257_ := Fr.tr T77_ F249_
            have h258_ := ThingsAt.keep h79_ F249_ Dis.n0
            have h259_ := WrAt.keep h70_ F249_ Dis.n0
            have h260_ := Row.keep h81_ F249_ Dis.n0
            have h261_ := Rd.keep' h83_ F249_ Dis.n0
            have h262_ := Fr.keep F249_ h85_ Dis.n0
            have N264_ : New w N0 (Own vout244_) := New.later' h247_ (Fr.size T77_)
            obtain ⟨ao265_, cap266_, rfl, hc267_, hm268_, hR269_, ho270_⟩ := Row.read h245_
            refine ⟨_, rfl, ?_⟩
            refine at_do (by kernel_rfl) (op_append (.tmp 47) (.tmp 50) 26 26 5 1 1 (.int .u8 0) (by kernel_rfl) (by kernel_rfl) (by rfl) (v := vo) (by kernel_rfl) h260_ (xv := (.slice ao265_ 8 cap266_)) (m := 8) (news := B (putB x.n 8 8)) (by kernel_rfl) (Row.src (e' := 5) (by kernel_rfl) h245_ (by decide) B_one) (by simp only [maxLen]; omega) (by omega) (fun v271_ w272_ h273_ F274_ s275_ => ?_))
            have T276_ := Fr.then T257_ F274_ n_2L38_
            have d277_ : Dis (Own v271_) (Old N) := Dis.step (Dis.sym d_0_2L38_) s275_ (ThingsAt.in h258_)
            have h278_ := ThingsAt.keep h258_ F274_ d_0_2L38_
            have d279_ : Dis (Own v271_) (wrS b16_ vwr69_) := Dis.step (Dis.sym d80_) s275_ (WrAt.in h259_)
            have h280_ := WrAt.keep h259_ F274_ d80_
            have d281_ : Dis (Own v271_) (Ar x.ao (B x.b)) := Dis.step (Dis.sym (Sub.dis hi_x d_0_2L38_)) s275_ (Rd.in h261_)
            have h282_ := Rd.keep' h261_ F274_ (Sub.dis hi_x d_0_2L38_)
            have d283_ : Dis (Own v271_) (One b45_) := Dis.step (Dis.sym d52_) s275_ (In.one h262_)
            have h284_ := Fr.keep F274_ h262_ d52_
            have N285_ : New w N0 (Own v271_) := New.trans n_2L38_ s275_ (Fr.size T257_)
            have h286_ : Row w272_ 5 1 v271_ ((writeT (ts.take k)) ++ (putB x.n 8 8)).length (B ((writeT (ts.take k)) ++ (putB x.n 8 8))) := Row.appB h273_ rfl
            refine at_pures 6 (by kernel_rfl) (by kernel_rfl) ?_
            refine at_done (by kernel_rfl) ?_
            refine blk_n ?_
            refine then_n ?_
            refine c_seq [1, 1, 1, 1, 1, 0, 1, 0, 0, 1, 1, 0, 0, 1, 1, 1, 0] [1, 1, 1, 1, 1, 0, 1, 0, 0, 1, 1, 0, 0, 1, 1, 1, 1] (by kernel_rfl) ?_
            refine c_reg 24 wireWrites_c_R24 (by kernel_rfl) ?_
            refine at_pures 2 (by kernel_rfl) (by kernel_rfl) ?_
            have hE : (writeT (ts.take k)) ++ x.w = (writeT (ts.take k)) ++ (putB x.n 8 8) := congrArg ((writeT (ts.take k)) ++ ·) (show x.w = (putB x.n 8 8) from by unfold Thing.w; first | (rw [if_pos (by omega), putB_one (by omega)]) | rw [if_neg (by omega), if_pos (by omega)] | rw [if_neg (by omega), if_neg (by omega), if_pos (by omega)] | rw [if_neg (by omega), if_neg (by omega), if_neg (by omega), if_pos (by omega)] | rw [if_neg (by omega), if_neg (by omega), if_neg (by omega), if_neg (by omega), if_pos (by omega)] | rw [if_neg (by omega), if_neg (by omega), if_neg (by omega), if_neg (by omega), if_neg (by omega)])
            refine at_as (.bool (x.okW != true)) (.bool false) (by kernel_rfl) (by kernel_rfl) (by rw [show x.okW = true from (by unfold Thing.okW; first | rw [if_pos (by omega)] | rw [if_neg (by omega)])]; exact congrArg Value.bool (bne_self_eq_false _)) ?_
            refine at_pures 5 (by kernel_rfl) (by kernel_rfl) ?_
            refine at_do (by kernel_rfl) (op_call 13 #[(.tmp 73)] #[(.pointer (some ⟨b16_, 0, none⟩))] (by kernel_rfl) (by kernel_rfl) (by kernel_rfl) ?_)
            have C294_ := bytes_c b16_ vwr69_ ((writeT (ts.take k)) ++ x.w) w272_ h280_  (by first | omega | with_reducible assumption | (simp only [List.length_append, List.length_cons, List.length_nil, putB_length]; omega) | decide)
            refine Calls.mono C294_ ?_
            rintro e293_ w291_ ⟨vout287_, rfl, h288_, F292_, h290_⟩
            have d295_ : Dis (Own vout287_) (Old N) := Dis.fresh h290_ (ThingsAt.in h278_)
            have d296_ : Dis (Own vout287_) (wrS b16_ vwr69_) := Dis.fresh h290_ (WrAt.in h280_)
            have d297_ : Dis (Own vout287_) (Own v271_) := Dis.fresh h290_ (Row.in h286_)
            have d298_ : Dis (Own vout287_) (Ar x.ao (B x.b)) := Dis.fresh h290_ (Rd.in h282_)
            have d299_ : Dis (Own vout287_) (One b45_) := Dis.fresh h290_ (In.one h284_)
            have T300_ := Fr.tr T276_ F292_
            have h301_ := ThingsAt.keep h278_ F292_ Dis.n0
            have h302_ := WrAt.keep h280_ F292_ Dis.n0
            have h303_ := Row.keep h286_ F292_ Dis.n0
            have h304_ := Rd.keep' h282_ F292_ Dis.n0
            have h305_ := Fr.keep F292_ h284_ Dis.n0
            have N307_ : New w N0 (Own vout287_) := New.later' h290_ (Fr.size T276_)
            obtain ⟨ao308_, cap309_, rfl, hc310_, hm311_, hR312_, ho313_⟩ := Row.read h288_
            refine ⟨_, rfl, ?_⟩
            refine at_pures 7 (by kernel_rfl) (by kernel_rfl) ?_
            refine at_do (by kernel_rfl) (op_call 12 #[(.tmp 74), (.tmp 75)] #[(.slice ao308_ (((writeT (ts.take k)) ++ x.w).length) cap309_), v271_] (by kernel_rfl) (by kernel_rfl) (by kernel_rfl) ?_)
            have C318_ := same_c (.slice ao308_ (((writeT (ts.take k)) ++ x.w).length) cap309_) ((writeT (ts.take k)) ++ x.w) v271_ ((writeT (ts.take k)) ++ (putB x.n 8 8)) w291_ (Row.sl h288_) (Row.sl h303_)  (by first | omega | with_reducible assumption | (simp only [List.length_append, List.length_cons, List.length_nil, putB_length]; omega) | decide) (by first | omega | with_reducible assumption | (simp only [List.length_append, List.length_cons, List.length_nil, putB_length]; omega) | decide)
            refine Calls.mono C318_ ?_
            rintro e317_ w315_ ⟨rfl, F316_⟩
            have T319_ := Fr.tr T300_ F316_
            have h320_ := ThingsAt.keep h301_ F316_ Dis.n0
            have h321_ := WrAt.keep h302_ F316_ Dis.n0
            have h322_ := Row.keep h303_ F316_ Dis.n0
            have h323_ := Rd.keep' h304_ F316_ Dis.n0
            have h324_ := Fr.keep F316_ h305_ Dis.n0
            have h325_ := Row.keep h288_ F316_ Dis.n0
            refine ⟨(.bool true), (by rw [decide_eq_true hE]), ?_⟩
            refine at_pures 10 (by kernel_rfl) (by kernel_rfl) ?_
            refine at_done (by kernel_rfl) ?_
            refine then_n ?_
            refine c_else (.tmp 78) [1, 1, 1, 1, 1, 0, 1, 0, 0, 1, 1, 0, 0, 1, 1, 1, 1, 0] [1, 1, 1, 1, 1, 0, 1, 0, 0, 1, 1, 0, 0, 1, 1, 1, 1, 1] (by kernel_rfl) (by kernel_rfl) ?_
            refine c_skip (by kernel_rfl) ?_
            refine blk_n ?_
            refine then_n ?_
            refine c_reg 26 wireWrites_c_R26 (by kernel_rfl) ?_
            refine at_int (kd := .i64) (IntKind.i64.wrap ((k : Int) + (1 : Int))) ((k : Int) + (1 : Int)) (by kernel_rfl) (by kernel_rfl) (wrapN_i64 (by omega) (by omega)) ?_
            refine at_pures 2 (by kernel_rfl) (by kernel_rfl) ?_
            refine at_done (by kernel_rfl) ?_
            refine then_n ?_
            exact ⟨⟨k + 1, vwr69_, v271_, is_mk (by kernel_rfl) (by kernel_rfl) (by kernel_rfl), ⟨(by omega), h320_, (by rw [writeT_snoc hx_x]; exact h321_), (by rw [writeT_snoc hx_x, hE]; exact h322_), (Dis.sym d78_), (Dis.sym d277_), (Dis.sym d279_), N86_, N285_, T319_⟩⟩, cnt_lt (k := (k : Int)) (k' := ((k : Int) + (1 : Int))) (by kernel_rfl) (by kernel_rfl) (by omega) (by omega)⟩
          · -- no
            replace c243_ : x.kind ≠ (2 : Int) := by simpa using c243_
            refine c_seq [1, 1, 1, 1, 1, 0, 1, 0, 0, 1, 1, 0, 0, 1, 1, 0, 1, 0, 1, 1, 1, 1, 1, 1, 0] [1, 1, 1, 1, 1, 0, 1, 0, 0, 1, 1, 0, 0, 1, 1, 0, 1, 0, 1, 1, 1, 1, 1, 1, 1] (by kernel_rfl) ?_
            refine c_reg 18 wireWrites_c_R18 (by kernel_rfl) ?_
            refine at_pures 2 (by kernel_rfl) (by kernel_rfl) ?_
            refine at_done (by kernel_rfl) ?_
            refine then_n ?_
            refine c_if (.tmp 52) (x.kind == (3 : Int)) [1, 1, 1, 1, 1, 0, 1, 0, 0, 1, 1, 0, 0, 1, 1, 0, 1, 0, 1, 1, 1, 1, 1, 1, 1, 0] [1, 1, 1, 1, 1, 0, 1, 0, 0, 1, 1, 0, 0, 1, 1, 0, 1, 0, 1, 1, 1, 1, 1, 1, 1, 1] (by kernel_rfl) (by kernel_rfl) (fun c326_ => ?_) (fun c326_ => ?_)
            · -- yes
              replace c326_ : x.kind = (3 : Int) := by simpa using c326_
              refine c_reg 19 wireWrites_c_R19 (by kernel_rfl) ?_
              refine at_pures 3 (by kernel_rfl) (by kernel_rfl) ?_
              refine at_do (by kernel_rfl) (op_append (.tmp 54) (.tmp 56) 26 26 5 1 1 (.int .u8 0) (by kernel_rfl) (by kernel_rfl) (by rfl) (v := vo) (by kernel_rfl) h81_ (xv := (.slice (some ⟨b45_, 2, none⟩) 32 32)) (m := 32) (news := ((hv x.h)).toList) (by kernel_rfl) (Rd.src (xs := ((hv x.h)).toList) (size := 1) (e := 5) (by kernel_rfl) (Rd.of_cut h85_ 2 32 (by kernel_rfl)) (by kernel_rfl) (by decide) (ones (by kernel_rfl))) (by simp only [maxLen]; omega) (by omega) (fun v327_ w328_ h329_ F330_ s331_ => ?_))
              have T332_ := Fr.then T77_ F330_ n_2L38_
              have d333_ : Dis (Own v327_) (Old N) := Dis.step (Dis.sym d_0_2L38_) s331_ (ThingsAt.in h79_)
              have h334_ := ThingsAt.keep h79_ F330_ d_0_2L38_
              have d335_ : Dis (Own v327_) (wrS b16_ vwr69_) := Dis.step (Dis.sym d80_) s331_ (WrAt.in h70_)
              have h336_ := WrAt.keep h70_ F330_ d80_
              have d337_ : Dis (Own v327_) (Ar x.ao (B x.b)) := Dis.step (Dis.sym (Sub.dis hi_x d_0_2L38_)) s331_ (Rd.in h83_)
              have h338_ := Rd.keep' h83_ F330_ (Sub.dis hi_x d_0_2L38_)
              have N339_ : New w N0 (Own v327_) := New.trans n_2L38_ s331_ (Fr.size T77_)
              have h340_ : Row w328_ 5 1 v327_ ((writeT (ts.take k)) ++ x.h).length (B ((writeT (ts.take k)) ++ x.h)) := Row.appB h329_ (by exact hv_B ho_x.h)
              refine at_pures 5 (by kernel_rfl) (by kernel_rfl) ?_
              refine at_done (by kernel_rfl) ?_
              refine blk_n ?_
              refine then_n ?_
              refine c_seq [1, 1, 1, 1, 1, 0, 1, 0, 0, 1, 1, 0, 0, 1, 1, 1, 0] [1, 1, 1, 1, 1, 0, 1, 0, 0, 1, 1, 0, 0, 1, 1, 1, 1] (by kernel_rfl) ?_
              refine c_reg 24 wireWrites_c_R24 (by kernel_rfl) ?_
              refine at_pures 2 (by kernel_rfl) (by kernel_rfl) ?_
              have hE : (writeT (ts.take k)) ++ x.w = (writeT (ts.take k)) ++ x.h := congrArg ((writeT (ts.take k)) ++ ·) (show x.w = x.h from by unfold Thing.w; first | (rw [if_pos (by omega), putB_one (by omega)]) | rw [if_neg (by omega), if_pos (by omega)] | rw [if_neg (by omega), if_neg (by omega), if_pos (by omega)] | rw [if_neg (by omega), if_neg (by omega), if_neg (by omega), if_pos (by omega)] | rw [if_neg (by omega), if_neg (by omega), if_neg (by omega), if_neg (by omega), if_pos (by omega)] | rw [if_neg (by omega), if_neg (by omega), if_neg (by omega), if_neg (by omega), if_neg (by omega)])
              refine at_as (.bool (x.okW != true)) (.bool false) (by kernel_rfl) (by kernel_rfl) (by rw [show x.okW = true from (by unfold Thing.okW; first | rw [if_pos (by omega)] | rw [if_neg (by omega)])]; exact congrArg Value.bool (bne_self_eq_false _)) ?_
              refine at_pures 5 (by kernel_rfl) (by kernel_rfl) ?_
              refine at_do (by kernel_rfl) (op_call 13 #[(.tmp 73)] #[(.pointer (some ⟨b16_, 0, none⟩))] (by kernel_rfl) (by kernel_rfl) (by kernel_rfl) ?_)
              have C348_ := bytes_c b16_ vwr69_ ((writeT (ts.take k)) ++ x.w) w328_ h336_  (by first | omega | with_reducible assumption | (simp only [List.length_append, List.length_cons, List.length_nil, putB_length]; omega) | decide)
              refine Calls.mono C348_ ?_
              rintro e347_ w345_ ⟨vout341_, rfl, h342_, F346_, h344_⟩
              have d349_ : Dis (Own vout341_) (Old N) := Dis.fresh h344_ (ThingsAt.in h334_)
              have d350_ : Dis (Own vout341_) (wrS b16_ vwr69_) := Dis.fresh h344_ (WrAt.in h336_)
              have d351_ : Dis (Own vout341_) (Own v327_) := Dis.fresh h344_ (Row.in h340_)
              have d352_ : Dis (Own vout341_) (Ar x.ao (B x.b)) := Dis.fresh h344_ (Rd.in h338_)
              have T353_ := Fr.tr T332_ F346_
              have h354_ := ThingsAt.keep h334_ F346_ Dis.n0
              have h355_ := WrAt.keep h336_ F346_ Dis.n0
              have h356_ := Row.keep h340_ F346_ Dis.n0
              have h357_ := Rd.keep' h338_ F346_ Dis.n0
              have N359_ : New w N0 (Own vout341_) := New.later' h344_ (Fr.size T332_)
              obtain ⟨ao360_, cap361_, rfl, hc362_, hm363_, hR364_, ho365_⟩ := Row.read h342_
              refine ⟨_, rfl, ?_⟩
              refine at_pures 7 (by kernel_rfl) (by kernel_rfl) ?_
              refine at_do (by kernel_rfl) (op_call 12 #[(.tmp 74), (.tmp 75)] #[(.slice ao360_ (((writeT (ts.take k)) ++ x.w).length) cap361_), v327_] (by kernel_rfl) (by kernel_rfl) (by kernel_rfl) ?_)
              have C370_ := same_c (.slice ao360_ (((writeT (ts.take k)) ++ x.w).length) cap361_) ((writeT (ts.take k)) ++ x.w) v327_ ((writeT (ts.take k)) ++ x.h) w345_ (Row.sl h342_) (Row.sl h356_)  (by first | omega | with_reducible assumption | (simp only [List.length_append, List.length_cons, List.length_nil, putB_length]; omega) | decide) (by first | omega | with_reducible assumption | (simp only [List.length_append, List.length_cons, List.length_nil, putB_length]; omega) | decide)
              refine Calls.mono C370_ ?_
              rintro e369_ w367_ ⟨rfl, F368_⟩
              have T371_ := Fr.tr T353_ F368_
              have h372_ := ThingsAt.keep h354_ F368_ Dis.n0
              have h373_ := WrAt.keep h355_ F368_ Dis.n0
              have h374_ := Row.keep h356_ F368_ Dis.n0
              have h375_ := Rd.keep' h357_ F368_ Dis.n0
              have h376_ := Row.keep h342_ F368_ Dis.n0
              refine ⟨(.bool true), (by rw [decide_eq_true hE]), ?_⟩
              refine at_pures 10 (by kernel_rfl) (by kernel_rfl) ?_
              refine at_done (by kernel_rfl) ?_
              refine then_n ?_
              refine c_else (.tmp 78) [1, 1, 1, 1, 1, 0, 1, 0, 0, 1, 1, 0, 0, 1, 1, 1, 1, 0] [1, 1, 1, 1, 1, 0, 1, 0, 0, 1, 1, 0, 0, 1, 1, 1, 1, 1] (by kernel_rfl) (by kernel_rfl) ?_
              refine c_skip (by kernel_rfl) ?_
              refine blk_n ?_
              refine then_n ?_
              refine c_reg 26 wireWrites_c_R26 (by kernel_rfl) ?_
              refine at_int (kd := .i64) (IntKind.i64.wrap ((k : Int) + (1 : Int))) ((k : Int) + (1 : Int)) (by kernel_rfl) (by kernel_rfl) (wrapN_i64 (by omega) (by omega)) ?_
              refine at_pures 2 (by kernel_rfl) (by kernel_rfl) ?_
              refine at_done (by kernel_rfl) ?_
              refine then_n ?_
              exact ⟨⟨k + 1, vwr69_, v327_, is_mk (by kernel_rfl) (by kernel_rfl) (by kernel_rfl), ⟨(by omega), h372_, (by rw [writeT_snoc hx_x]; exact h373_), (by rw [writeT_snoc hx_x, hE]; exact h374_), (Dis.sym d78_), (Dis.sym d333_), (Dis.sym d335_), N86_, N339_, T371_⟩⟩, cnt_lt (k := (k : Int)) (k' := ((k : Int) + (1 : Int))) (by kernel_rfl) (by kernel_rfl) (by omega) (by omega)⟩
            · -- no
              replace c326_ : x.kind ≠ (3 : Int) := by simpa using c326_
              refine c_seq [1, 1, 1, 1, 1, 0, 1, 0, 0, 1, 1, 0, 0, 1, 1, 0, 1, 0, 1, 1, 1, 1, 1, 1, 1, 1, 0] [1, 1, 1, 1, 1, 0, 1, 0, 0, 1, 1, 0, 0, 1, 1, 0, 1, 0, 1, 1, 1, 1, 1, 1, 1, 1, 1] (by kernel_rfl) ?_
              refine c_reg 20 wireWrites_c_R20 (by kernel_rfl) ?_
              refine at_pures 2 (by kernel_rfl) (by kernel_rfl) ?_
              refine at_done (by kernel_rfl) ?_
              refine then_n ?_
              refine c_if (.tmp 58) (x.kind == (4 : Int)) [1, 1, 1, 1, 1, 0, 1, 0, 0, 1, 1, 0, 0, 1, 1, 0, 1, 0, 1, 1, 1, 1, 1, 1, 1, 1, 1, 0] [1, 1, 1, 1, 1, 0, 1, 0, 0, 1, 1, 0, 0, 1, 1, 0, 1, 0, 1, 1, 1, 1, 1, 1, 1, 1, 1, 1] (by kernel_rfl) (by kernel_rfl) (fun c377_ => ?_) (fun c377_ => ?_)
              · -- yes
                replace c377_ : x.kind = (4 : Int) := by simpa using c377_
                refine c_seq [1, 1, 1, 1, 1, 0, 1, 0, 0, 1, 1, 0, 0, 1, 1, 0, 1, 0, 1, 1, 1, 1, 1, 1, 1, 1, 1, 0, 0] [1, 1, 1, 1, 1, 0, 1, 0, 0, 1, 1, 0, 0, 1, 1, 0, 1, 0, 1, 1, 1, 1, 1, 1, 1, 1, 1, 0, 1] (by kernel_rfl) ?_
                refine c_reg 21 wireWrites_c_R21 (by kernel_rfl) ?_
                refine at_pures 1 (by kernel_rfl) (by kernel_rfl) ?_
                refine at_done (by kernel_rfl) ?_
                refine then_n ?_
                refine c_seq [1, 1, 1, 1, 1, 0, 1, 0, 0, 1, 1, 0, 0, 1, 1, 0, 1, 0, 1, 1, 1, 1, 1, 1, 1, 1, 1, 0, 1, 0] [1, 1, 1, 1, 1, 0, 1, 0, 0, 1, 1, 0, 0, 1, 1, 0, 1, 0, 1, 1, 1, 1, 1, 1, 1, 1, 1, 0, 1, 1] (by kernel_rfl) ?_
                refine c_reg 22 wireWrites_c_R22 (by kernel_rfl) ?_
                refine at_pures 1 (by kernel_rfl) (by kernel_rfl) ?_
                refine at_load1 26 (.tmp 61) b45_ 34 _ _ _ (.slice x.ao x.b.length x.cap) (by kernel_rfl) (by kernel_rfl) (by kernel_rfl) (by kernel_rfl) h85_ (by kernel_rfl) ?_
                refine at_do (by kernel_rfl) (op_call 11 #[(.tmp 62)] #[(.slice x.ao x.b.length x.cap)] (by kernel_rfl) (by kernel_rfl) (by kernel_rfl) ?_)
                have C385_ := rtx_c (.slice x.ao x.b.length x.cap) x.b w73_ ⟨_, _, rfl, h83_⟩  (by first | omega | with_reducible assumption | (simp only [List.length_append, List.length_cons, List.length_nil, putB_length]; omega) | decide)
                refine Calls.mono C385_ ?_
                rintro e384_ w382_ ⟨vout378_, rfl, h379_, F383_, h381_⟩
                have d386_ : Dis (Own vout378_) (Old N) := Dis.fresh h381_ (ThingsAt.in h79_)
                have d387_ : Dis (Own vout378_) (wrS b16_ vwr69_) := Dis.fresh h381_ (WrAt.in h70_)
                have d388_ : Dis (Own vout378_) (Own vo) := Dis.fresh h381_ (Row.in h81_)
                have d389_ : Dis (Own vout378_) (Ar x.ao (B x.b)) := Dis.fresh h381_ (Rd.in h83_)
                have d390_ : Dis (Own vout378_) (One b45_) := Dis.fresh h381_ (In.one h85_)
                have T391_ := Fr.tr T77_ F383_
                have h392_ := ThingsAt.keep h79_ F383_ Dis.n0
                have h393_ := WrAt.keep h70_ F383_ Dis.n0
                have h394_ := Row.keep h81_ F383_ Dis.n0
                have h395_ := Rd.keep' h83_ F383_ Dis.n0
                have h396_ := Fr.keep F383_ h85_ Dis.n0
                have N398_ : New w N0 (Own vout378_) := New.later' h381_ (Fr.size T77_)
                obtain ⟨ao399_, cap400_, rfl, hc401_, hm402_, hR403_, ho404_⟩ := Row.read h379_
                refine ⟨_, rfl, ?_⟩
                refine at_pures 8 (by kernel_rfl) (by kernel_rfl) ?_
                refine at_done (by kernel_rfl) ?_
                refine then_n ?_
                refine c_reg 23 wireWrites_c_R23 (by kernel_rfl) ?_
                refine at_pures 2 (by kernel_rfl) (by kernel_rfl) ?_
                refine at_do (by kernel_rfl) (op_append (.tmp 66) (.tmp 67) 26 26 5 1 1 (.int .u8 0) (by kernel_rfl) (by kernel_rfl) (by rfl) (v := vo) (by kernel_rfl) h394_ (xv := (.slice ao399_ ((textW x.b).length) cap400_)) (m := (textW x.b).length) (news := B (textW x.b)) (by kernel_rfl) (Row.src (e' := 5) (by kernel_rfl) h379_ (by decide) B_one) (by simp only [maxLen]; omega) (by omega) (fun v405_ w406_ h407_ F408_ s409_ => ?_))
                have T410_ := Fr.then T391_ F408_ n_2L38_
                have d411_ : Dis (Own v405_) (Old N) := Dis.step (Dis.sym d_0_2L38_) s409_ (ThingsAt.in h392_)
                have h412_ := ThingsAt.keep h392_ F408_ d_0_2L38_
                have d413_ : Dis (Own v405_) (wrS b16_ vwr69_) := Dis.step (Dis.sym d80_) s409_ (WrAt.in h393_)
                have h414_ := WrAt.keep h393_ F408_ d80_
                have d415_ : Dis (Own v405_) (Ar x.ao (B x.b)) := Dis.step (Dis.sym (Sub.dis hi_x d_0_2L38_)) s409_ (Rd.in h395_)
                have h416_ := Rd.keep' h395_ F408_ (Sub.dis hi_x d_0_2L38_)
                have d417_ : Dis (Own v405_) (One b45_) := Dis.step (Dis.sym d52_) s409_ (In.one h396_)
                have h418_ := Fr.keep F408_ h396_ d52_
                have N419_ : New w N0 (Own v405_) := New.trans n_2L38_ s409_ (Fr.size T391_)
                have h420_ : Row w406_ 5 1 v405_ ((writeT (ts.take k)) ++ (textW x.b)).length (B ((writeT (ts.take k)) ++ (textW x.b))) := Row.appB h407_ rfl
                refine at_pures 4 (by kernel_rfl) (by kernel_rfl) ?_
                refine at_done (by kernel_rfl) ?_
                refine blk_n ?_
                refine then_n ?_
                refine c_seq [1, 1, 1, 1, 1, 0, 1, 0, 0, 1, 1, 0, 0, 1, 1, 1, 0] [1, 1, 1, 1, 1, 0, 1, 0, 0, 1, 1, 0, 0, 1, 1, 1, 1] (by kernel_rfl) ?_
                refine c_reg 24 wireWrites_c_R24 (by kernel_rfl) ?_
                refine at_pures 2 (by kernel_rfl) (by kernel_rfl) ?_
                have hE : (writeT (ts.take k)) ++ x.w = (writeT (ts.take k)) ++ (textW x.b) := congrArg ((writeT (ts.take k)) ++ ·) (show x.w = (textW x.b) from by unfold Thing.w; first | (rw [if_pos (by omega), putB_one (by omega)]) | rw [if_neg (by omega), if_pos (by omega)] | rw [if_neg (by omega), if_neg (by omega), if_pos (by omega)] | rw [if_neg (by omega), if_neg (by omega), if_neg (by omega), if_pos (by omega)] | rw [if_neg (by omega), if_neg (by omega), if_neg (by omega), if_neg (by omega), if_pos (by omega)] | rw [if_neg (by omega), if_neg (by omega), if_neg (by omega), if_neg (by omega), if_neg (by omega)])
                refine at_as (.bool (x.okW != (decide (x.b.length ≤ 255)))) (.bool false) (by kernel_rfl) (by kernel_rfl) (by rw [show x.okW = (decide (x.b.length ≤ 255)) from (by unfold Thing.okW; first | rw [if_pos (by omega)] | rw [if_neg (by omega)])]; exact congrArg Value.bool (bne_self_eq_false _)) ?_
                refine at_pures 5 (by kernel_rfl) (by kernel_rfl) ?_
                refine at_do (by kernel_rfl) (op_call 13 #[(.tmp 73)] #[(.pointer (some ⟨b16_, 0, none⟩))] (by kernel_rfl) (by kernel_rfl) (by kernel_rfl) ?_)
                have C428_ := bytes_c b16_ vwr69_ ((writeT (ts.take k)) ++ x.w) w406_ h414_  (by first | omega | with_reducible assumption | (simp only [List.length_append, List.length_cons, List.length_nil, putB_length]; omega) | decide)
                refine Calls.mono C428_ ?_
                rintro e427_ w425_ ⟨vout421_, rfl, h422_, F426_, h424_⟩
                have d429_ : Dis (Own vout421_) (Old N) := Dis.fresh h424_ (ThingsAt.in h412_)
                have d430_ : Dis (Own vout421_) (wrS b16_ vwr69_) := Dis.fresh h424_ (WrAt.in h414_)
                have d431_ : Dis (Own vout421_) (Own v405_) := Dis.fresh h424_ (Row.in h420_)
                have d432_ : Dis (Own vout421_) (Ar x.ao (B x.b)) := Dis.fresh h424_ (Rd.in h416_)
                have d433_ : Dis (Own vout421_) (One b45_) := Dis.fresh h424_ (In.one h418_)
                have T434_ := Fr.tr T410_ F426_
                have h435_ := ThingsAt.keep h412_ F426_ Dis.n0
                have h436_ := WrAt.keep h414_ F426_ Dis.n0
                have h437_ := Row.keep h420_ F426_ Dis.n0
                have h438_ := Rd.keep' h416_ F426_ Dis.n0
                have h439_ := Fr.keep F426_ h418_ Dis.n0
                have N441_ : New w N0 (Own vout421_) := New.later' h424_ (Fr.size T410_)
                obtain ⟨ao442_, cap443_, rfl, hc444_, hm445_, hR446_, ho447_⟩ := Row.read h422_
                refine ⟨_, rfl, ?_⟩
                refine at_pures 7 (by kernel_rfl) (by kernel_rfl) ?_
                refine at_do (by kernel_rfl) (op_call 12 #[(.tmp 74), (.tmp 75)] #[(.slice ao442_ (((writeT (ts.take k)) ++ x.w).length) cap443_), v405_] (by kernel_rfl) (by kernel_rfl) (by kernel_rfl) ?_)
                have C452_ := same_c (.slice ao442_ (((writeT (ts.take k)) ++ x.w).length) cap443_) ((writeT (ts.take k)) ++ x.w) v405_ ((writeT (ts.take k)) ++ (textW x.b)) w425_ (Row.sl h422_) (Row.sl h437_)  (by first | omega | with_reducible assumption | (simp only [List.length_append, List.length_cons, List.length_nil, putB_length]; omega) | decide) (by first | omega | with_reducible assumption | (simp only [List.length_append, List.length_cons, List.length_nil, putB_length]; omega) | decide)
                refine Calls.mono C452_ ?_
                rintro e451_ w449_ ⟨rfl, F450_⟩
                have T453_ := Fr.tr T434_ F450_
                have h454_ := ThingsAt.keep h435_ F450_ Dis.n0
                have h455_ := WrAt.keep h436_ F450_ Dis.n0
                have h456_ := Row.keep h437_ F450_ Dis.n0
                have h457_ := Rd.keep' h438_ F450_ Dis.n0
                have h458_ := Fr.keep F450_ h439_ Dis.n0
                have h459_ := Row.keep h422_ F450_ Dis.n0
                refine ⟨(.bool true), (by rw [decide_eq_true hE]), ?_⟩
                refine at_pures 10 (by kernel_rfl) (by kernel_rfl) ?_
                refine at_done (by kernel_rfl) ?_
                refine then_n ?_
                refine c_else (.tmp 78) [1, 1, 1, 1, 1, 0, 1, 0, 0, 1, 1, 0, 0, 1, 1, 1, 1, 0] [1, 1, 1, 1, 1, 0, 1, 0, 0, 1, 1, 0, 0, 1, 1, 1, 1, 1] (by kernel_rfl) (by kernel_rfl) ?_
                refine c_skip (by kernel_rfl) ?_
                refine blk_n ?_
                refine then_n ?_
                refine c_reg 26 wireWrites_c_R26 (by kernel_rfl) ?_
                refine at_int (kd := .i64) (IntKind.i64.wrap ((k : Int) + (1 : Int))) ((k : Int) + (1 : Int)) (by kernel_rfl) (by kernel_rfl) (wrapN_i64 (by omega) (by omega)) ?_
                refine at_pures 2 (by kernel_rfl) (by kernel_rfl) ?_
                refine at_done (by kernel_rfl) ?_
                refine then_n ?_
                exact ⟨⟨k + 1, vwr69_, v405_, is_mk (by kernel_rfl) (by kernel_rfl) (by kernel_rfl), ⟨(by omega), h454_, (by rw [writeT_snoc hx_x]; exact h455_), (by rw [writeT_snoc hx_x, hE]; exact h456_), (Dis.sym d78_), (Dis.sym d411_), (Dis.sym d413_), N86_, N419_, T453_⟩⟩, cnt_lt (k := (k : Int)) (k' := ((k : Int) + (1 : Int))) (by kernel_rfl) (by kernel_rfl) (by omega) (by omega)⟩
              · -- no
                replace c377_ : x.kind ≠ (4 : Int) := by simpa using c377_
                refine c_skip (by kernel_rfl) ?_
                refine blk_n ?_
                refine then_n ?_
                refine c_seq [1, 1, 1, 1, 1, 0, 1, 0, 0, 1, 1, 0, 0, 1, 1, 1, 0] [1, 1, 1, 1, 1, 0, 1, 0, 0, 1, 1, 0, 0, 1, 1, 1, 1] (by kernel_rfl) ?_
                refine c_reg 24 wireWrites_c_R24 (by kernel_rfl) ?_
                refine at_pures 2 (by kernel_rfl) (by kernel_rfl) ?_
                have hE : (writeT (ts.take k)) ++ x.w = (writeT (ts.take k)) := by rw [show x.w = [] from (by unfold Thing.w; first | (rw [if_pos (by omega), putB_one (by omega)]) | rw [if_neg (by omega), if_pos (by omega)] | rw [if_neg (by omega), if_neg (by omega), if_pos (by omega)] | rw [if_neg (by omega), if_neg (by omega), if_neg (by omega), if_pos (by omega)] | rw [if_neg (by omega), if_neg (by omega), if_neg (by omega), if_neg (by omega), if_pos (by omega)] | rw [if_neg (by omega), if_neg (by omega), if_neg (by omega), if_neg (by omega), if_neg (by omega)]), List.append_nil]
                refine at_as (.bool (x.okW != true)) (.bool false) (by kernel_rfl) (by kernel_rfl) (by rw [show x.okW = true from (by unfold Thing.okW; first | rw [if_pos (by omega)] | rw [if_neg (by omega)])]; exact congrArg Value.bool (bne_self_eq_false _)) ?_
                refine at_pures 5 (by kernel_rfl) (by kernel_rfl) ?_
                refine at_do (by kernel_rfl) (op_call 13 #[(.tmp 73)] #[(.pointer (some ⟨b16_, 0, none⟩))] (by kernel_rfl) (by kernel_rfl) (by kernel_rfl) ?_)
                have C467_ := bytes_c b16_ vwr69_ ((writeT (ts.take k)) ++ x.w) w73_ h70_  (by first | omega | with_reducible assumption | (simp only [List.length_append, List.length_cons, List.length_nil, putB_length]; omega) | decide)
                refine Calls.mono C467_ ?_
                rintro e466_ w464_ ⟨vout460_, rfl, h461_, F465_, h463_⟩
                have d468_ : Dis (Own vout460_) (Old N) := Dis.fresh h463_ (ThingsAt.in h79_)
                have d469_ : Dis (Own vout460_) (wrS b16_ vwr69_) := Dis.fresh h463_ (WrAt.in h70_)
                have d470_ : Dis (Own vout460_) (Own vo) := Dis.fresh h463_ (Row.in h81_)
                have d471_ : Dis (Own vout460_) (Ar x.ao (B x.b)) := Dis.fresh h463_ (Rd.in h83_)
                have d472_ : Dis (Own vout460_) (One b45_) := Dis.fresh h463_ (In.one h85_)
                have T473_ := Fr.tr T77_ F465_
                have h474_ := ThingsAt.keep h79_ F465_ Dis.n0
                have h475_ := WrAt.keep h70_ F465_ Dis.n0
                have h476_ := Row.keep h81_ F465_ Dis.n0
                have h477_ := Rd.keep' h83_ F465_ Dis.n0
                have h478_ := Fr.keep F465_ h85_ Dis.n0
                have N480_ : New w N0 (Own vout460_) := New.later' h463_ (Fr.size T77_)
                obtain ⟨ao481_, cap482_, rfl, hc483_, hm484_, hR485_, ho486_⟩ := Row.read h461_
                refine ⟨_, rfl, ?_⟩
                refine at_pures 7 (by kernel_rfl) (by kernel_rfl) ?_
                refine at_do (by kernel_rfl) (op_call 12 #[(.tmp 74), (.tmp 75)] #[(.slice ao481_ (((writeT (ts.take k)) ++ x.w).length) cap482_), vo] (by kernel_rfl) (by kernel_rfl) (by kernel_rfl) ?_)
                have C491_ := same_c (.slice ao481_ (((writeT (ts.take k)) ++ x.w).length) cap482_) ((writeT (ts.take k)) ++ x.w) vo (writeT (ts.take k)) w464_ (Row.sl h461_) (Row.sl h476_)  (by first | omega | with_reducible assumption | (simp only [List.length_append, List.length_cons, List.length_nil, putB_length]; omega) | decide) (by first | omega | with_reducible assumption | (simp only [List.length_append, List.length_cons, List.length_nil, putB_length]; omega) | decide)
                refine Calls.mono C491_ ?_
                rintro e490_ w488_ ⟨rfl, F489_⟩
                have T492_ := Fr.tr T473_ F489_
                have h493_ := ThingsAt.keep h474_ F489_ Dis.n0
                have h494_ := WrAt.keep h475_ F489_ Dis.n0
                have h495_ := Row.keep h476_ F489_ Dis.n0
                have h496_ := Rd.keep' h477_ F489_ Dis.n0
                have h497_ := Fr.keep F489_ h478_ Dis.n0
                have h498_ := Row.keep h461_ F489_ Dis.n0
                refine ⟨(.bool true), (by rw [decide_eq_true hE]), ?_⟩
                refine at_pures 10 (by kernel_rfl) (by kernel_rfl) ?_
                refine at_done (by kernel_rfl) ?_
                refine then_n ?_
                refine c_else (.tmp 78) [1, 1, 1, 1, 1, 0, 1, 0, 0, 1, 1, 0, 0, 1, 1, 1, 1, 0] [1, 1, 1, 1, 1, 0, 1, 0, 0, 1, 1, 0, 0, 1, 1, 1, 1, 1] (by kernel_rfl) (by kernel_rfl) ?_
                refine c_skip (by kernel_rfl) ?_
                refine blk_n ?_
                refine then_n ?_
                refine c_reg 26 wireWrites_c_R26 (by kernel_rfl) ?_
                refine at_int (kd := .i64) (IntKind.i64.wrap ((k : Int) + (1 : Int))) ((k : Int) + (1 : Int)) (by kernel_rfl) (by kernel_rfl) (wrapN_i64 (by omega) (by omega)) ?_
                refine at_pures 2 (by kernel_rfl) (by kernel_rfl) ?_
                refine at_done (by kernel_rfl) ?_
                refine then_n ?_
                exact ⟨⟨k + 1, vwr69_, vo, is_mk (by kernel_rfl) (by kernel_rfl) (by kernel_rfl), ⟨(by omega), h493_, (by rw [writeT_snoc hx_x]; exact h494_), (by rw [writeT_snoc hx_x, hE]; exact h495_), (Dis.sym d78_), d_0_2L38_, d80_, N86_, n_2L38_, T492_⟩⟩, cnt_lt (k := (k : Int)) (k' := ((k : Int) + (1 : Int))) (by kernel_rfl) (by kernel_rfl) (by omega) (by omega)⟩
    · -- no
      replace c42_ : ¬ ((k : Int) < (ts.length : Int)) := of_decide_eq_false c42_
      refine c_exit 0 (by kernel_rfl) ?_
      refine then_e ?_
      refine then_e ?_
      refine blk_hit ?_
      refine then_n ?_
      refine c_seq [1, 1, 1, 1, 1, 1, 0] [1, 1, 1, 1, 1, 1, 1] (by kernel_rfl) ?_
      refine c_reg 27 wireWrites_c_R27 (by kernel_rfl) ?_
      refine at_pures 1 (by kernel_rfl) (by kernel_rfl) ?_
      refine at_done (by kernel_rfl) ?_
      refine then_n ?_
      refine c_ret (by kernel_rfl) ?_
      refine fin_ret (.bool true) (by kernel_rfl) (by kernel_rfl) ?_
      exact ⟨rfl, hFrL38_⟩
end Go.Proofs.Ytboggbknebepdaa
