/- The walks of the digest's other laws. -/
import Derived.Test.YtboggbknebepdaaDoorWV
import Derived.Test.YtboggbknebepdaaDoorBss
namespace Go.Proofs.YtboggbknebepdaaDoor
open Go Go.RowKit Go.Alm
noncomputable def shaParts_c_R0 : Array Oper := rAt Tryd.prog 4 [0]
noncomputable def shaParts_c_R1 : Array Oper := rAt Tryd.prog 4 [1, 0, 0]
noncomputable def shaParts_c_R3 : Array Oper := rAt Tryd.prog 4 [1, 1, 0, 0]
noncomputable def shaParts_c_R4 : Array Oper := rAt Tryd.prog 4 [1, 1, 0, 1, 0, 0]
noncomputable def shaParts_c_R5 : Array Oper := rAt Tryd.prog 4 [1, 1, 1, 0]
noncomputable def shaParts_c_R6 : Array Oper := rAt Tryd.prog 4 [1, 1, 1, 1, 0]
noncomputable def shaParts_c_R7 : Array Oper := rAt Tryd.prog 4 [1, 1, 1, 1, 1, 0, 0]
noncomputable def shaParts_c_R8 : Array Oper := rAt Tryd.prog 4 [1, 1, 1, 1, 1, 0, 1, 0, 0, 0]
noncomputable def shaParts_c_R9 : Array Oper := rAt Tryd.prog 4 [1, 1, 1, 1, 1, 0, 1, 0, 0, 1, 1, 0, 0, 0]
noncomputable def shaParts_c_R10 : Array Oper := rAt Tryd.prog 4 [1, 1, 1, 1, 1, 0, 1, 0, 0, 1, 1, 0, 0, 1, 0, 0]
noncomputable def shaParts_c_R11 : Array Oper := rAt Tryd.prog 4 [1, 1, 1, 1, 1, 0, 1, 0, 0, 1, 1, 0, 0, 1, 0, 1, 0, 0]
noncomputable def shaParts_c_R12 : Array Oper := rAt Tryd.prog 4 [1, 1, 1, 1, 1, 0, 1, 0, 0, 1, 1, 0, 0, 1, 1, 0]
noncomputable def shaParts_c_R13 : Array Oper := rAt Tryd.prog 4 [1, 1, 1, 1, 1, 0, 1, 0, 0, 1, 1, 0, 0, 1, 1, 1, 0]
noncomputable def shaParts_c_R14 : Array Oper := rAt Tryd.prog 4 [1, 1, 1, 1, 1, 0, 1, 0, 0, 1, 1, 0, 0, 1, 1, 1, 1, 0]
noncomputable def shaParts_c_R16 : Array Oper := rAt Tryd.prog 4 [1, 1, 1, 1, 1, 0, 1, 0, 0, 1, 1, 1]
noncomputable def shaParts_c_R17 : Array Oper := rAt Tryd.prog 4 [1, 1, 1, 1, 1, 1, 0]
set_option maxRecDepth 100000 in
theorem shaParts_c (fp : Nat → Prop) (ao : Option Addr) (cap : Nat) (ls : List BSl) (w : World) (h_ls : RowsAt fp w ao ls) (h_ks1 : Rd w (some ⟨1, 0, none⟩) ((hw KL).toList)) (hn : ls.length ≤ 9223372036854775807) :
    Calls Tryd.prog 4 #[(.slice ao ls.length cap)] w fun e w' => e = .returned (.bool true) ∧ Fr w w' N0 := by
  refine c_enter (mk 57 [(0, (.slice ao ls.length cap))] (fun _ => undef)) Tryd.func4 (by kernel_rfl) (by kernel_rfl) ?_
  refine c_seq [0] [1] (by kernel_rfl) ?_
  refine c_reg 0 shaParts_c_R0 (by kernel_rfl) ?_
  refine at_pures 1 (by kernel_rfl) (by kernel_rfl) ?_
  refine at_done (by kernel_rfl) ?_
  refine then_n ?_
  refine c_seq [1, 0] [1, 1] (by kernel_rfl) ?_
  refine c_seq [1, 0, 0] [1, 0, 1] (by kernel_rfl) ?_
  refine c_reg 1 shaParts_c_R1 (by kernel_rfl) ?_
  refine at_do (by kernel_rfl) (op_call 11 #[] #[] (by kernel_rfl) (by kernel_rfl) (by kernel_rfl) ?_)
  have C5_ := awake2_c  w h_ks1  
  refine Calls.mono C5_ ?_
  rintro e4_ w2_ ⟨rfl, F3_⟩
  refine ⟨_, rfl, ?_⟩
  have T6_ := Fr.tr (Fr.refl w N0) F3_
  have h7_ := RowsAt.keep h_ls F3_ Dis.n0
  have h8_ := Rd.keep' h_ks1 F3_ Dis.n0
  refine at_pures 2 (by kernel_rfl) (by kernel_rfl) ?_
  refine at_done (by kernel_rfl) ?_
  refine then_n ?_
  refine c_else (.tmp 8) [1, 0, 1, 0] [1, 0, 1, 1] (by kernel_rfl) (by kernel_rfl) ?_
  refine c_skip (by kernel_rfl) ?_
  refine then_n ?_
  refine c_seq [1, 1, 0] [1, 1, 1] (by kernel_rfl) ?_
  refine c_seq [1, 1, 0, 0] [1, 1, 0, 1] (by kernel_rfl) ?_
  refine c_reg 3 shaParts_c_R3 (by kernel_rfl) ?_
  refine at_pures 3 (by kernel_rfl) (by kernel_rfl) ?_
  refine at_done (by kernel_rfl) ?_
  refine then_n ?_
  refine c_if (.tmp 11) (decide ((ls.length : Int) > (50 : Int))) [1, 1, 0, 1, 0] [1, 1, 0, 1, 1] (by kernel_rfl) (by kernel_rfl) (fun c9_ => ?_) (fun c9_ => ?_)
  · -- yes
    replace c9_ : (ls.length : Int) > (50 : Int) := of_decide_eq_true c9_
    refine c_seq [1, 1, 0, 1, 0, 0] [1, 1, 0, 1, 0, 1] (by kernel_rfl) ?_
    refine c_reg 4 shaParts_c_R4 (by kernel_rfl) ?_
    refine at_pures 1 (by kernel_rfl) (by kernel_rfl) ?_
    refine at_done (by kernel_rfl) ?_
    refine then_n ?_
    refine c_ret (by kernel_rfl) ?_
    refine then_r ?_
    refine fin_ret (.bool true) (by kernel_rfl) (by kernel_rfl) ?_
    exact ⟨rfl, T6_⟩
  · -- no
    replace c9_ : ¬ ((ls.length : Int) > (50 : Int)) := of_decide_eq_false c9_
    refine c_skip (by kernel_rfl) ?_
    refine then_n ?_
    refine c_seq [1, 1, 1, 0] [1, 1, 1, 1] (by kernel_rfl) ?_
    refine c_reg 5 shaParts_c_R5 (by kernel_rfl) ?_
    refine at_do (by kernel_rfl) (op_call 14 #[] #[] (by kernel_rfl) (by kernel_rfl) (by kernel_rfl) ?_)
    have C18_ := hnew_c  w2_   
    refine Calls.mono C18_ ?_
    rintro e17_ w15_ ⟨b10_, qhs11_, rfl, h12_, F16_, h14_⟩
    refine ⟨_, rfl, ?_⟩
    have d19_ : Dis (One b10_) fp := Dis.fresh h14_ (RowsAt.in h7_)
    have d20_ : Dis (One b10_) (Ar (some ⟨1, 0, none⟩) ((hw KL).toList)) := Dis.fresh h14_ (Rd.in h8_)
    have T21_ := Fr.tr T6_ F16_
    have h22_ := RowsAt.keep h7_ F16_ Dis.n0
    have h23_ := Rd.keep' h8_ F16_ Dis.n0
    have N25_ : New w N0 (One b10_) := New.later' h14_ (Fr.size T6_)
    refine at_pures 2 (by kernel_rfl) (by kernel_rfl) ?_
    refine at_done (by kernel_rfl) ?_
    refine then_n ?_
    refine c_seq [1, 1, 1, 1, 0] [1, 1, 1, 1, 1] (by kernel_rfl) ?_
    refine c_reg 6 shaParts_c_R6 (by kernel_rfl) ?_
    refine at_pures 1 (by kernel_rfl) (by kernel_rfl) ?_
    refine at_done (by kernel_rfl) ?_
    refine then_n ?_
    refine c_seq [1, 1, 1, 1, 1, 0] [1, 1, 1, 1, 1, 1] (by kernel_rfl) ?_
    refine c_seq [1, 1, 1, 1, 1, 0, 0] [1, 1, 1, 1, 1, 0, 1] (by kernel_rfl) ?_
    refine c_reg 7 shaParts_c_R7 (by kernel_rfl) ?_
    refine at_pures 3 (by kernel_rfl) (by kernel_rfl) ?_
    refine at_done (by kernel_rfl) ?_
    refine then_n ?_
    refine c_block 0 [1, 1, 1, 1, 1, 0, 1, 0] (by kernel_rfl) ?_
    have h26_ : Row w15_ 5 1 (.slice none 0 0) 0 [] := Row.nil _ _ _
    refine c_loop (fun a w' => ∃ (k : Nat), ∃ (va : Value), ∃ (m : List Nat), ∃ (Q : List Nat), (∃ u, a = mk 57 [(0, (.slice ao ls.length cap)), (3, (.pointer (some ⟨b10_, 0, none⟩))), (4, va), (7, (.bool true)), (8, (.bool false)), (9, (.slice ao ls.length cap)), (10, (.int .i64 (ls.length : Int))), (11, (.bool (decide ((ls.length : Int) > (50 : Int))))), (12, (.pointer (some ⟨b10_, 0, none⟩))), (13, (.slice ao ls.length cap)), (14, (.int .i64 (ls.length : Int))), (15, (.int .i64 (k : Int)))] u) ∧ (k ≤ ls.length) ∧ (Byt m) ∧ (m.length ≤ 2000) ∧ (RowsAt fp w' ao ls) ∧ (Rd w' (some ⟨1, 0, none⟩) ((hw KL).toList)) ∧ (HsAt 79 w' b10_ m Q) ∧ (Row w' 5 1 va (m.length) (B m)) ∧ (Dis fp (Own va)) ∧ (Dis (Ar (some ⟨1, 0, none⟩) ((hw KL).toList)) (Own va)) ∧ (Dis (One b10_) (Own va)) ∧ (New w N0 (Own va)) ∧ (Fr w w' N0)) (fun a _ => cnt (ls.length) 15 a) [1, 1, 1, 1, 1, 0, 1, 0, 0] (by kernel_rfl) ⟨0, _, [], _, is_mk (by kernel_rfl) (by kernel_rfl) (by kernel_rfl), ⟨Nat.zero_le _, Byt.nil, Nat.zero_le _, h22_, h23_, h12_, (by exact h26_), (Dis.sym (by rw [Own_nil]; exact Dis.n0')), (Dis.sym (by rw [Own_nil]; exact Dis.n0')), (Dis.sym (by rw [Own_nil]; exact Dis.n0')), (by rw [Own_nil]; exact fun _ h => h.elim), T21_⟩⟩ ?_
    rintro a29_ w30_ ⟨k, va, m, Q, ⟨u31_, rfl⟩, ⟨hk, hmB, hml, q_0L28_, q_1L28_, q_2L28_, q_3L28_, d_0_3L28_, d_1_3L28_, d_2_3L28_, n_3L28_, hFrL28_⟩⟩
    obtain ⟨ao32_, cap33_, rfl, hc34_, hm35_, hR36_, ho37_⟩ := Row.read q_3L28_
    refine c_seq [1, 1, 1, 1, 1, 0, 1, 0, 0, 0] [1, 1, 1, 1, 1, 0, 1, 0, 0, 1] (by kernel_rfl) ?_
    refine c_reg 8 shaParts_c_R8 (by kernel_rfl) ?_
    refine at_pures 1 (by kernel_rfl) (by kernel_rfl) ?_
    refine at_done (by kernel_rfl) ?_
    refine then_n ?_
    refine c_seq [1, 1, 1, 1, 1, 0, 1, 0, 0, 1, 0] [1, 1, 1, 1, 1, 0, 1, 0, 0, 1, 1] (by kernel_rfl) ?_
    refine c_if (.tmp 16) (decide ((k : Int) < (ls.length : Int))) [1, 1, 1, 1, 1, 0, 1, 0, 0, 1, 0, 0] [1, 1, 1, 1, 1, 0, 1, 0, 0, 1, 0, 1] (by kernel_rfl) (by kernel_rfl) (fun c38_ => ?_) (fun c38_ => ?_)
    · -- yes
      replace c38_ : (k : Int) < (ls.length : Int) := of_decide_eq_true c38_
      refine c_skip (by kernel_rfl) ?_
      refine then_n ?_
      refine c_seq [1, 1, 1, 1, 1, 0, 1, 0, 0, 1, 1, 0] [1, 1, 1, 1, 1, 0, 1, 0, 0, 1, 1, 1] (by kernel_rfl) ?_
      refine c_block 1 [1, 1, 1, 1, 1, 0, 1, 0, 0, 1, 1, 0, 0] (by kernel_rfl) ?_
      refine c_seq [1, 1, 1, 1, 1, 0, 1, 0, 0, 1, 1, 0, 0, 0] [1, 1, 1, 1, 1, 0, 1, 0, 0, 1, 1, 0, 0, 1] (by kernel_rfl) ?_
      refine c_reg 9 shaParts_c_R9 (by kernel_rfl) ?_
      obtain ⟨x, hx_x⟩ : ∃ x, ls[k]? = some x := ⟨_, List.getElem?_eq_getElem (by omega)⟩
      have hm_x := List.mem_of_getElem? hx_x; have ho_x := RowsAt.ok q_0L28_ x hm_x; have hi_x := RowsAt.in2 q_0L28_ x hm_x; have hB_x := ho_x.b; have hc_x := ho_x.cap
      have hmx : Byt (m ++ x.b) := hmB.cat hB_x
      obtain ⟨ad39_, ha40_⟩ := (RowsAt.rd q_0L28_).has (k * 1) (by rw [cellsR_length]; omega)
      refine at_run (.pointer (some (ad39_.add (k * 1)))) _ (by kernel_rfl) (run_idx_o 29 (.tmp 13) (.tmp 15) 1 ao ad39_ ls.length cap .i64 k (by kernel_rfl) (by kernel_rfl) (by kernel_rfl) (by kernel_rfl) (by kernel_rfl) ha40_ (by omega)) ?_
      refine at_run (.slice x.ao x.b.length x.cap) _ (by kernel_rfl) (run_loadE1 22 (.tmp 17) ao ad39_ (k * 1) (cellsR ls) (.slice x.ao x.b.length x.cap) (by kernel_rfl) (by kernel_rfl) (by kernel_rfl) ha40_ (RowsAt.rd q_0L28_) (cellsR_get ls k x hx_x)) ?_
      refine at_pures 3 (by kernel_rfl) (by kernel_rfl) ?_
      refine at_done (by kernel_rfl) ?_
      refine then_n ?_
      refine c_seq [1, 1, 1, 1, 1, 0, 1, 0, 0, 1, 1, 0, 0, 1, 0] [1, 1, 1, 1, 1, 0, 1, 0, 0, 1, 1, 0, 0, 1, 1] (by kernel_rfl) ?_
      refine c_seq [1, 1, 1, 1, 1, 0, 1, 0, 0, 1, 1, 0, 0, 1, 0, 0] [1, 1, 1, 1, 1, 0, 1, 0, 0, 1, 1, 0, 0, 1, 0, 1] (by kernel_rfl) ?_
      refine c_reg 10 shaParts_c_R10 (by kernel_rfl) ?_
      refine at_pures 4 (by kernel_rfl) (by kernel_rfl) ?_
      refine at_int (kd := .i64) (IntKind.i64.wrap ((2000 : Int) - (m.length : Int))) ((2000 : Int) - (m.length : Int)) (by kernel_rfl) (by kernel_rfl) (wrapN_i64 (by omega) (by omega)) ?_
      refine at_pures 6 (by kernel_rfl) (by kernel_rfl) ?_
      refine at_done (by kernel_rfl) ?_
      refine then_n ?_
      refine c_if (.tmp 24) (decide ((x.b.length : Int) > ((2000 : Int) - (m.length : Int)))) [1, 1, 1, 1, 1, 0, 1, 0, 0, 1, 1, 0, 0, 1, 0, 1, 0] [1, 1, 1, 1, 1, 0, 1, 0, 0, 1, 1, 0, 0, 1, 0, 1, 1] (by kernel_rfl) (by kernel_rfl) (fun c41_ => ?_) (fun c41_ => ?_)
      · -- yes
        replace c41_ : (x.b.length : Int) > ((2000 : Int) - (m.length : Int)) := of_decide_eq_true c41_
        refine c_seq [1, 1, 1, 1, 1, 0, 1, 0, 0, 1, 1, 0, 0, 1, 0, 1, 0, 0] [1, 1, 1, 1, 1, 0, 1, 0, 0, 1, 1, 0, 0, 1, 0, 1, 0, 1] (by kernel_rfl) ?_
        refine c_reg 11 shaParts_c_R11 (by kernel_rfl) ?_
        refine at_pures 1 (by kernel_rfl) (by kernel_rfl) ?_
        refine at_done (by kernel_rfl) ?_
        refine then_n ?_
        refine c_ret (by kernel_rfl) ?_
        refine then_r ?_
        refine blk_r ?_
        refine then_r ?_
        refine then_r ?_
        refine blk_r ?_
        refine then_r ?_
        refine fin_ret (.bool true) (by kernel_rfl) (by kernel_rfl) ?_
        exact ⟨rfl, hFrL28_⟩
      · -- no
        replace c41_ : ¬ ((x.b.length : Int) > ((2000 : Int) - (m.length : Int))) := of_decide_eq_false c41_
        refine c_skip (by kernel_rfl) ?_
        refine then_n ?_
        refine c_seq [1, 1, 1, 1, 1, 0, 1, 0, 0, 1, 1, 0, 0, 1, 1, 0] [1, 1, 1, 1, 1, 0, 1, 0, 0, 1, 1, 0, 0, 1, 1, 1] (by kernel_rfl) ?_
        refine c_reg 12 shaParts_c_R12 (by kernel_rfl) ?_
        refine at_pures 2 (by kernel_rfl) (by kernel_rfl) ?_
        refine at_do (by kernel_rfl) (op_call 15 #[(.tmp 25), (.tmp 26)] #[(.pointer (some ⟨b10_, 0, none⟩)), (.slice x.ao x.b.length x.cap)] (by kernel_rfl) (by kernel_rfl) (by kernel_rfl) ?_)
        have C49_ := hwrite_c b10_ m Q (.slice x.ao x.b.length x.cap) x.b w30_ q_2L28_ ⟨_, _, rfl, (RowsAt.rdb q_0L28_ x hm_x)⟩ q_1L28_ (Sub.dis hi_x (Dis.sym d19_)) (Dis.sym d20_) (by first | omega | with_reducible assumption | (simp only [List.length_append, List.length_cons, List.length_nil, putB_length]; omega) | decide) (by first | omega | with_reducible assumption | (simp only [List.length_append, List.length_cons, List.length_nil, putB_length]; omega) | decide) (by first | assumption | exact Byt.nil | exact shaL_byt _ | exact padL_byt _ | exact Byt.all (by kernel_rfl)) (by first | exact Nat.le_refl _ | (show _ ≤ _; first | omega | assumption | decide))
        refine Calls.mono C49_ ?_
        rintro e48_ w46_ ⟨qhs42_, rfl, h43_, F47_, h45_⟩
        refine ⟨_, rfl, ?_⟩
        have T50_ := Fr.then hFrL28_ F47_ N25_
        have d51_ : Dis (One b10_) fp := Dis.step d19_ h45_ (RowsAt.in q_0L28_)
        have h52_ := RowsAt.keep q_0L28_ F47_ (Dis.sym d19_)
        have d53_ : Dis (One b10_) (Ar (some ⟨1, 0, none⟩) ((hw KL).toList)) := Dis.step d20_ h45_ (Rd.in q_1L28_)
        have h54_ := Rd.keep' q_1L28_ F47_ (Dis.sym d20_)
        have d55_ : Dis (One b10_) (Own (.slice ao32_ m.length cap33_)) := Dis.step d_2_3L28_ h45_ (Row.in q_3L28_)
        have h56_ := Row.keep q_3L28_ F47_ (Dis.sym d_2_3L28_)
        have d57_ : Dis (One b10_) (Ar x.ao (B x.b)) := Dis.step (Dis.sym (Sub.dis hi_x (Dis.sym d19_))) h45_ (Rd.in (RowsAt.rdb q_0L28_ x hm_x))
        have h58_ := Rd.keep' (RowsAt.rdb q_0L28_ x hm_x) F47_ (Sub.dis hi_x (Dis.sym d19_))
        have N59_ : New w N0 (One b10_) := New.trans N25_ h45_ (Fr.size hFrL28_)
        refine at_done (by kernel_rfl) ?_
        refine then_n ?_
        refine c_seq [1, 1, 1, 1, 1, 0, 1, 0, 0, 1, 1, 0, 0, 1, 1, 1, 0] [1, 1, 1, 1, 1, 0, 1, 0, 0, 1, 1, 0, 0, 1, 1, 1, 1] (by kernel_rfl) ?_
        refine c_reg 13 shaParts_c_R13 (by kernel_rfl) ?_
        refine at_pures 2 (by kernel_rfl) (by kernel_rfl) ?_
        refine at_do (by kernel_rfl) (op_append (.tmp 28) (.tmp 29) 22 22 5 1 1 (.int .u8 0) (by kernel_rfl) (by kernel_rfl) (by rfl) (v := (.slice ao32_ m.length cap33_)) (by kernel_rfl) h56_ (xv := (.slice x.ao x.b.length x.cap)) (m := x.b.length) (news := B x.b) (by kernel_rfl) (Rd.src (size := 1) (e := 5) (by kernel_rfl) h58_ (by simp only [B_length, List.length_take, List.length_drop, List.length_append]; omega) (by decide) B_one) (by first | (simp only [maxLen]; omega) | (simp only [maxLen, List.length_append, List.length_cons, List.length_nil, putB_length]; omega)) (by first | omega | (simp only [List.length_append, List.length_cons, List.length_nil, putB_length]; omega)) (fun v60_ w61_ h62_ F63_ s64_ => ?_))
        have T65_ := Fr.then T50_ F63_ n_3L28_
        have d66_ : Dis (Own v60_) fp := Dis.step (Dis.sym d_0_3L28_) s64_ (RowsAt.in h52_)
        have h67_ := RowsAt.keep h52_ F63_ d_0_3L28_
        have d68_ : Dis (Own v60_) (Ar (some ⟨1, 0, none⟩) ((hw KL).toList)) := Dis.step (Dis.sym d_1_3L28_) s64_ (Rd.in h54_)
        have h69_ := Rd.keep' h54_ F63_ d_1_3L28_
        have d70_ : Dis (Own v60_) (One b10_) := Dis.step (Dis.sym d55_) s64_ (HsAt.in h43_)
        have h71_ := HsAt.keep h43_ F63_ d55_
        have d72_ : Dis (Own v60_) (Ar x.ao (B x.b)) := Dis.step (Dis.sym (Sub.dis hi_x d_0_3L28_)) s64_ (Rd.in h58_)
        have h73_ := Rd.keep' h58_ F63_ (Sub.dis hi_x d_0_3L28_)
        have N74_ : New w N0 (Own v60_) := New.trans n_3L28_ s64_ (Fr.size T50_)
        have h75_ : Row w61_ 5 1 v60_ (m ++ x.b).length (B (m ++ x.b)) := Row.appB h62_ rfl
        obtain ⟨ao76_, cap77_, rfl, hc78_, hm79_, hR80_, ho81_⟩ := Row.read h75_
        refine at_pures 4 (by kernel_rfl) (by kernel_rfl) ?_
        refine at_done (by kernel_rfl) ?_
        refine then_n ?_
        refine c_seq [1, 1, 1, 1, 1, 0, 1, 0, 0, 1, 1, 0, 0, 1, 1, 1, 1, 0] [1, 1, 1, 1, 1, 0, 1, 0, 0, 1, 1, 0, 0, 1, 1, 1, 1, 1] (by kernel_rfl) ?_
        refine c_reg 14 shaParts_c_R14 (by kernel_rfl) ?_
        refine at_pures 1 (by kernel_rfl) (by kernel_rfl) ?_
        refine at_do (by kernel_rfl) (op_call 16 #[(.tmp 31)] #[(.pointer (some ⟨b10_, 0, none⟩))] (by kernel_rfl) (by kernel_rfl) (by kernel_rfl) ?_)
        have C86_ := hsum_c b10_ (m ++ x.b) qhs42_ w61_ h71_ h69_  (by first | omega | with_reducible assumption | (simp only [List.length_append, List.length_cons, List.length_nil, putB_length]; omega) | decide)
        refine Calls.mono C86_ ?_
        rintro e85_ w83_ ⟨rfl, F84_⟩
        refine ⟨_, rfl, ?_⟩
        have T87_ := Fr.tr T65_ F84_
        have h88_ := RowsAt.keep h67_ F84_ Dis.n0
        have h89_ := Rd.keep' h69_ F84_ Dis.n0
        have h90_ := HsAt.keep h71_ F84_ Dis.n0
        have h91_ := Row.keep h75_ F84_ Dis.n0
        have h92_ := Rd.keep' h73_ F84_ Dis.n0
        refine at_pures 3 (by kernel_rfl) (by kernel_rfl) ?_
        refine at_do (by kernel_rfl) (op_call 12 #[(.tmp 33)] #[(.slice ao76_ ((m ++ x.b).length) cap77_)] (by kernel_rfl) (by kernel_rfl) (by kernel_rfl) ?_)
        have C97_ := shaof_c (.slice ao76_ ((m ++ x.b).length) cap77_) (m ++ x.b) w83_ (Row.sl h91_) h89_  (by first | omega | with_reducible assumption | (simp only [List.length_append, List.length_cons, List.length_nil, putB_length]; omega) | decide) (by first | assumption | exact Byt.nil | exact shaL_byt _ | exact padL_byt _ | exact Byt.all (by kernel_rfl)) (by first | exact Nat.le_refl _ | (show _ ≤ _; first | omega | assumption | decide))
        refine Calls.mono C97_ ?_
        rintro e96_ w94_ ⟨rfl, F95_⟩
        refine ⟨_, rfl, ?_⟩
        have T98_ := Fr.tr T87_ F95_
        have h99_ := RowsAt.keep h88_ F95_ Dis.n0
        have h100_ := Rd.keep' h89_ F95_ Dis.n0
        have h101_ := HsAt.keep h90_ F95_ Dis.n0
        have h102_ := Row.keep h91_ F95_ Dis.n0
        have h103_ := Rd.keep' h92_ F95_ Dis.n0
        refine at_run (.bool false) _ (by kernel_rfl) (run_neq_hash_self 25 (.tmp 32) (.tmp 34) (shaL (m ++ x.b)) (by kernel_rfl) (by kernel_rfl) (by kernel_rfl) (by kernel_rfl) (by kernel_rfl) (by kernel_rfl) (shaL_length _) (shaL_byt _)) ?_
        refine at_pures 7 (by kernel_rfl) (by kernel_rfl) ?_
        refine at_do (by kernel_rfl) (op_call 16 #[(.tmp 37)] #[(.pointer (some ⟨b10_, 0, none⟩))] (by kernel_rfl) (by kernel_rfl) (by kernel_rfl) ?_)
        have C108_ := hsum_c b10_ (m ++ x.b) qhs42_ w94_ h101_ h100_  (by first | omega | with_reducible assumption | (simp only [List.length_append, List.length_cons, List.length_nil, putB_length]; omega) | decide)
        refine Calls.mono C108_ ?_
        rintro e107_ w105_ ⟨rfl, F106_⟩
        refine ⟨_, rfl, ?_⟩
        have T109_ := Fr.tr T98_ F106_
        have h110_ := RowsAt.keep h99_ F106_ Dis.n0
        have h111_ := Rd.keep' h100_ F106_ Dis.n0
        have h112_ := HsAt.keep h101_ F106_ Dis.n0
        have h113_ := Row.keep h102_ F106_ Dis.n0
        have h114_ := Rd.keep' h103_ F106_ Dis.n0
        refine at_pures 9 (by kernel_rfl) (by kernel_rfl) ?_
        refine at_do (by kernel_rfl) (op_call 12 #[(.tmp 39)] #[(.slice ao76_ ((m ++ x.b).length) cap77_)] (by kernel_rfl) (by kernel_rfl) (by kernel_rfl) ?_)
        have C119_ := shaof_c (.slice ao76_ ((m ++ x.b).length) cap77_) (m ++ x.b) w105_ (Row.sl h113_) h111_  (by first | omega | with_reducible assumption | (simp only [List.length_append, List.length_cons, List.length_nil, putB_length]; omega) | decide) (by first | assumption | exact Byt.nil | exact shaL_byt _ | exact padL_byt _ | exact Byt.all (by kernel_rfl)) (by first | exact Nat.le_refl _ | (show _ ≤ _; first | omega | assumption | decide))
        refine Calls.mono C119_ ?_
        rintro e118_ w116_ ⟨rfl, F117_⟩
        refine ⟨_, rfl, ?_⟩
        have T120_ := Fr.tr T109_ F117_
        have h121_ := RowsAt.keep h110_ F117_ Dis.n0
        have h122_ := Rd.keep' h111_ F117_ Dis.n0
        have h123_ := HsAt.keep h112_ F117_ Dis.n0
        have h124_ := Row.keep h113_ F117_ Dis.n0
        have h125_ := Rd.keep' h114_ F117_ Dis.n0
        refine at_run (.bool false) _ (by kernel_rfl) (run_neq_hash_self 25 (.tmp 38) (.tmp 40) (shaL (m ++ x.b)) (by kernel_rfl) (by kernel_rfl) (by kernel_rfl) (by kernel_rfl) (by kernel_rfl) (by kernel_rfl) (shaL_length _) (shaL_byt _)) ?_
        refine at_pures 14 (by kernel_rfl) (by kernel_rfl) ?_
        refine at_do (by kernel_rfl) (op_call 17 #[(.tmp 44)] #[(.pointer (some ⟨b10_, 0, none⟩))] (by kernel_rfl) (by kernel_rfl) (by kernel_rfl) ?_)
        have C130_ := hlen_c b10_ (m ++ x.b) qhs42_ w116_ h123_  
        refine Calls.mono C130_ ?_
        rintro e129_ w127_ ⟨rfl, F128_⟩
        refine ⟨_, rfl, ?_⟩
        have T131_ := Fr.tr T120_ F128_
        have h132_ := RowsAt.keep h121_ F128_ Dis.n0
        have h133_ := Rd.keep' h122_ F128_ Dis.n0
        have h134_ := HsAt.keep h123_ F128_ Dis.n0
        have h135_ := Row.keep h124_ F128_ Dis.n0
        have h136_ := Rd.keep' h125_ F128_ Dis.n0
        refine at_pures 17 (by kernel_rfl) (by kernel_rfl) ?_
        refine at_int (kd := .u64) (IntKind.u64.wrap (((m ++ x.b).length : Int))) (((m ++ x.b).length : Int)) (by kernel_rfl) (by kernel_rfl) (wrapN_u64 (by omega) (by rw [List.length_append]; omega)) ?_
        refine at_as (.bool (((m ++ x.b).length : Int) != ((m ++ x.b).length : Int))) (.bool false) (by kernel_rfl) (by kernel_rfl) (congrArg Value.bool (bne_self_eq_false _)) ?_
        refine at_pures 20 (by kernel_rfl) (by kernel_rfl) ?_
        refine at_done (by kernel_rfl) ?_
        refine then_n ?_
        refine c_else (.tmp 50) [1, 1, 1, 1, 1, 0, 1, 0, 0, 1, 1, 0, 0, 1, 1, 1, 1, 1, 0] [1, 1, 1, 1, 1, 0, 1, 0, 0, 1, 1, 0, 0, 1, 1, 1, 1, 1, 1] (by kernel_rfl) (by kernel_rfl) ?_
        refine c_skip (by kernel_rfl) ?_
        refine blk_n ?_
        refine then_n ?_
        refine c_reg 16 shaParts_c_R16 (by kernel_rfl) ?_
        refine at_int (kd := .i64) (IntKind.i64.wrap ((k : Int) + (1 : Int))) ((k : Int) + (1 : Int)) (by kernel_rfl) (by kernel_rfl) (wrapN_i64 (by omega) (by omega)) ?_
        refine at_pures 2 (by kernel_rfl) (by kernel_rfl) ?_
        refine at_done (by kernel_rfl) ?_
        refine then_n ?_
        exact ⟨⟨k + 1, (.slice ao76_ ((m ++ x.b).length) cap77_), m ++ x.b, qhs42_, is_mk (by kernel_rfl) (by kernel_rfl) (by kernel_rfl), ⟨(by omega), hmx, (by rw [List.length_append]; omega), h132_, h133_, h134_, h135_, (Dis.sym d66_), (Dis.sym d68_), (Dis.sym d70_), N74_, T131_⟩⟩, cnt_lt (k := (k : Int)) (k' := ((k : Int) + (1 : Int))) (by kernel_rfl) (by kernel_rfl) (by omega) (by omega)⟩
    · -- no
      replace c38_ : ¬ ((k : Int) < (ls.length : Int)) := of_decide_eq_false c38_
      refine c_exit 0 (by kernel_rfl) ?_
      refine then_e ?_
      refine then_e ?_
      refine blk_hit ?_
      refine then_n ?_
      refine c_seq [1, 1, 1, 1, 1, 1, 0] [1, 1, 1, 1, 1, 1, 1] (by kernel_rfl) ?_
      refine c_reg 17 shaParts_c_R17 (by kernel_rfl) ?_
      refine at_pures 1 (by kernel_rfl) (by kernel_rfl) ?_
      refine at_do (by kernel_rfl) (op_call 16 #[(.tmp 52)] #[(.pointer (some ⟨b10_, 0, none⟩))] (by kernel_rfl) (by kernel_rfl) (by kernel_rfl) ?_)
      have C141_ := hsum_c b10_ m Q w30_ q_2L28_ q_1L28_  (by first | omega | with_reducible assumption | (simp only [List.length_append, List.length_cons, List.length_nil, putB_length]; omega) | decide)
      refine Calls.mono C141_ ?_
      rintro e140_ w138_ ⟨rfl, F139_⟩
      refine ⟨_, rfl, ?_⟩
      have T142_ := Fr.tr hFrL28_ F139_
      have h143_ := RowsAt.keep q_0L28_ F139_ Dis.n0
      have h144_ := Rd.keep' q_1L28_ F139_ Dis.n0
      have h145_ := HsAt.keep q_2L28_ F139_ Dis.n0
      have h146_ := Row.keep q_3L28_ F139_ Dis.n0
      refine at_pures 3 (by kernel_rfl) (by kernel_rfl) ?_
      refine at_do (by kernel_rfl) (op_call 12 #[(.tmp 54)] #[(.slice ao32_ m.length cap33_)] (by kernel_rfl) (by kernel_rfl) (by kernel_rfl) ?_)
      have C151_ := shaof_c (.slice ao32_ m.length cap33_) m w138_ (Row.sl h146_) h144_  (by first | omega | with_reducible assumption | (simp only [List.length_append, List.length_cons, List.length_nil, putB_length]; omega) | decide) (by first | assumption | exact Byt.nil | exact shaL_byt _ | exact padL_byt _ | exact Byt.all (by kernel_rfl)) (by first | exact Nat.le_refl _ | (show _ ≤ _; first | omega | assumption | decide))
      refine Calls.mono C151_ ?_
      rintro e150_ w148_ ⟨rfl, F149_⟩
      refine ⟨_, rfl, ?_⟩
      have T152_ := Fr.tr T142_ F149_
      have h153_ := RowsAt.keep h143_ F149_ Dis.n0
      have h154_ := Rd.keep' h144_ F149_ Dis.n0
      have h155_ := HsAt.keep h145_ F149_ Dis.n0
      have h156_ := Row.keep h146_ F149_ Dis.n0
      refine at_run (.bool true) _ (by kernel_rfl) (run_eq_hash_self 25 (.tmp 53) (.tmp 55) (shaL m) (by kernel_rfl) (by kernel_rfl) (by kernel_rfl) (by kernel_rfl) (by kernel_rfl) (by kernel_rfl) (shaL_length _) (shaL_byt _)) ?_
      refine at_pures 6 (by kernel_rfl) (by kernel_rfl) ?_
      refine at_done (by kernel_rfl) ?_
      refine then_n ?_
      refine c_ret (by kernel_rfl) ?_
      refine fin_ret (.bool true) (by kernel_rfl) (by kernel_rfl) ?_
      exact ⟨rfl, T152_⟩

noncomputable def shaEnds_c_R0 : Array Oper := rAt Tryd.prog 5 [0]
noncomputable def shaEnds_c_R1 : Array Oper := rAt Tryd.prog 5 [1, 0, 0]
noncomputable def shaEnds_c_R3 : Array Oper := rAt Tryd.prog 5 [1, 1, 0]
noncomputable def shaEnds_c_R4 : Array Oper := rAt Tryd.prog 5 [1, 1, 1, 0, 0]
noncomputable def shaEnds_c_R5 : Array Oper := rAt Tryd.prog 5 [1, 1, 1, 0, 1, 0, 0, 0]
noncomputable def shaEnds_c_R6 : Array Oper := rAt Tryd.prog 5 [1, 1, 1, 0, 1, 0, 0, 1, 1, 0, 0, 0]
noncomputable def shaEnds_c_R7 : Array Oper := rAt Tryd.prog 5 [1, 1, 1, 0, 1, 0, 0, 1, 1, 0, 0, 1]
noncomputable def shaEnds_c_R8 : Array Oper := rAt Tryd.prog 5 [1, 1, 1, 0, 1, 0, 0, 1, 1, 1]
noncomputable def shaEnds_c_R9 : Array Oper := rAt Tryd.prog 5 [1, 1, 1, 1, 0]
noncomputable def shaEnds_c_R10 : Array Oper := rAt Tryd.prog 5 [1, 1, 1, 1, 1, 0]
set_option maxRecDepth 100000 in
theorem shaEnds_c (c : Nat) (many : Nat) (w : World) (h_ks0 : Rd w (some ⟨0, 0, none⟩) ((hw KL).toList)) (h_ks1 : Rd w (some ⟨1, 0, none⟩) ((hw KL).toList)) (hc : c < 256) (hm : many < 256) :
    Calls Tryd.prog 5 #[(.int .u8 (c : Int)), (.int .u8 (many : Int))] w fun e w' => e = .returned (.bool true) ∧ Fr w w' N0 := by
  refine c_enter (mk 44 [(0, (.int .u8 (c : Int))), (1, (.int .u8 (many : Int)))] (fun _ => undef)) Tryd.func5 (by kernel_rfl) (by kernel_rfl) ?_
  refine c_seq [0] [1] (by kernel_rfl) ?_
  refine c_reg 0 shaEnds_c_R0 (by kernel_rfl) ?_
  refine at_pures 1 (by kernel_rfl) (by kernel_rfl) ?_
  refine at_done (by kernel_rfl) ?_
  refine then_n ?_
  refine c_seq [1, 0] [1, 1] (by kernel_rfl) ?_
  refine c_seq [1, 0, 0] [1, 0, 1] (by kernel_rfl) ?_
  refine c_reg 1 shaEnds_c_R1 (by kernel_rfl) ?_
  refine at_do (by kernel_rfl) (op_call 11 #[] #[] (by kernel_rfl) (by kernel_rfl) (by kernel_rfl) ?_)
  have C5_ := awake2_c  w h_ks1  
  refine Calls.mono C5_ ?_
  rintro e4_ w2_ ⟨rfl, F3_⟩
  refine ⟨_, rfl, ?_⟩
  have T6_ := Fr.tr (Fr.refl w N0) F3_
  have h7_ := Rd.keep' h_ks0 F3_ Dis.n0
  have h8_ := Rd.keep' h_ks1 F3_ Dis.n0
  refine at_pures 2 (by kernel_rfl) (by kernel_rfl) ?_
  refine at_done (by kernel_rfl) ?_
  refine then_n ?_
  refine c_else (.tmp 9) [1, 0, 1, 0] [1, 0, 1, 1] (by kernel_rfl) (by kernel_rfl) ?_
  refine c_skip (by kernel_rfl) ?_
  refine then_n ?_
  refine c_seq [1, 1, 0] [1, 1, 1] (by kernel_rfl) ?_
  refine c_reg 3 shaEnds_c_R3 (by kernel_rfl) ?_
  refine at_pures 1 (by kernel_rfl) (by kernel_rfl) ?_
  refine at_int (kd := .i64) (IntKind.i64.wrap ((many : Int))) ((many : Int)) (by kernel_rfl) (by kernel_rfl) (wrapN_i64 (by omega) (by omega)) ?_
  refine at_int (kd := .i64) ((many : Int).tmod (201 : Int)) (((many % 201 : Nat) : Int)) (by kernel_rfl) (by kernel_rfl) (rem_nat _ _) ?_
  refine at_do (by kernel_rfl) (op_make 22 (.tmp 12) (.tmp 12) 5 (many % 201) (.int .u8 0) (by kernel_rfl) (by kernel_rfl) (by kernel_rfl) (by kernel_rfl) (by kernel_rfl) (by kernel_rfl) (by kernel_rfl) (by kernel_rfl) (by omega) (fun w10_ b9_ h11_ q12_ F13_ => ?_))
  rw [zeros_B (c := c)] at h11_
  have d14_ : Dis (One b9_) (Ar (some ⟨0, 0, none⟩) ((hw KL).toList)) := Dis.fresh (New.one q12_) (Rd.in h7_)
  have d15_ : Dis (One b9_) (Ar (some ⟨1, 0, none⟩) ((hw KL).toList)) := Dis.fresh (New.one q12_) (Rd.in h8_)
  have N16_ : New w N0 (One b9_) := New.made q12_ (Fr.size T6_)
  have T17_ := Fr.tr T6_ F13_
  refine at_pures 5 (by kernel_rfl) (by kernel_rfl) ?_
  refine at_done (by kernel_rfl) ?_
  refine then_n ?_
  refine c_seq [1, 1, 1, 0] [1, 1, 1, 1] (by kernel_rfl) ?_
  refine c_seq [1, 1, 1, 0, 0] [1, 1, 1, 0, 1] (by kernel_rfl) ?_
  refine c_reg 4 shaEnds_c_R4 (by kernel_rfl) ?_
  refine at_pures 3 (by kernel_rfl) (by kernel_rfl) ?_
  refine at_done (by kernel_rfl) ?_
  refine then_n ?_
  refine c_block 0 [1, 1, 1, 0, 1, 0] (by kernel_rfl) ?_
  have h18_ := Rd.keep' h7_ F13_ Dis.n0
  have h19_ := Rd.keep' h8_ F13_ Dis.n0
  refine c_loop (fun a w' => ∃ (i : Nat), (∃ u, a = mk 44 [(0, (.int .u8 (c : Int))), (1, (.int .u8 (many : Int))), (4, (.bool false)), (5, (.slice (some ⟨b9_, 0, none⟩) (many % 201) (many % 201))), (8, (.bool true)), (9, (.bool false)), (10, (.int .u8 (many : Int))), (11, (.int .i64 (many : Int))), (12, (.int .i64 ((many % 201 : Nat) : Int))), (13, (.slice (some ⟨b9_, 0, none⟩) (many % 201) (many % 201))), (14, (.slice (some ⟨b9_, 0, none⟩) (many % 201) (many % 201))), (15, (.int .i64 ((many % 201) : Int))), (16, (.int .i64 (i : Int)))] u) ∧ (i ≤ (many % 201)) ∧ (Rd w' (some ⟨0, 0, none⟩) ((hw KL).toList)) ∧ (Rd w' (some ⟨1, 0, none⟩) ((hw KL).toList)) ∧ (w'.heap[b9_]? = some (.cells (B (fillC c (many % 201) i)).toArray 5 (0, 0))) ∧ (Fr w w' N0)) (fun a _ => cnt ((many % 201)) 16 a) [1, 1, 1, 0, 1, 0, 0] (by kernel_rfl) ⟨0, is_mk (by kernel_rfl) (by kernel_rfl) (by kernel_rfl), ⟨Nat.zero_le _, h18_, h19_, h11_, T17_⟩⟩ ?_
  rintro a21_ w22_ ⟨i, ⟨u23_, rfl⟩, ⟨hi, q_0L20_, q_1L20_, q_2L20_, hFrL20_⟩⟩
  refine c_seq [1, 1, 1, 0, 1, 0, 0, 0] [1, 1, 1, 0, 1, 0, 0, 1] (by kernel_rfl) ?_
  refine c_reg 5 shaEnds_c_R5 (by kernel_rfl) ?_
  refine at_pures 1 (by kernel_rfl) (by kernel_rfl) ?_
  refine at_done (by kernel_rfl) ?_
  refine then_n ?_
  refine c_seq [1, 1, 1, 0, 1, 0, 0, 1, 0] [1, 1, 1, 0, 1, 0, 0, 1, 1] (by kernel_rfl) ?_
  refine c_if (.tmp 17) (decide ((i : Int) < ((many % 201) : Int))) [1, 1, 1, 0, 1, 0, 0, 1, 0, 0] [1, 1, 1, 0, 1, 0, 0, 1, 0, 1] (by kernel_rfl) (by kernel_rfl) (fun c24_ => ?_) (fun c24_ => ?_)
  · -- yes
    replace c24_ : (i : Int) < ((many % 201) : Int) := of_decide_eq_true c24_
    refine c_skip (by kernel_rfl) ?_
    refine then_n ?_
    refine c_seq [1, 1, 1, 0, 1, 0, 0, 1, 1, 0] [1, 1, 1, 0, 1, 0, 0, 1, 1, 1] (by kernel_rfl) ?_
    refine c_block 1 [1, 1, 1, 0, 1, 0, 0, 1, 1, 0, 0] (by kernel_rfl) ?_
    refine c_seq [1, 1, 1, 0, 1, 0, 0, 1, 1, 0, 0, 0] [1, 1, 1, 0, 1, 0, 0, 1, 1, 0, 0, 1] (by kernel_rfl) ?_
    refine c_reg 6 shaEnds_c_R6 (by kernel_rfl) ?_
    refine at_pures 2 (by kernel_rfl) (by kernel_rfl) ?_
    refine at_done (by kernel_rfl) ?_
    refine then_n ?_
    refine c_reg 7 shaEnds_c_R7 (by kernel_rfl) ?_
    refine at_pures 3 (by kernel_rfl) (by kernel_rfl) ?_
    refine at_run (.pointer (some ⟨b9_, 0 + i * 1, none⟩)) _ (by kernel_rfl) (run_idx_slb 22 (.tmp 19) (.tmp 20) 1 b9_ 0 (many % 201) (many % 201) .i64 i (by kernel_rfl) (by kernel_rfl) (by kernel_rfl) (by kernel_rfl) (by kernel_rfl) (by omega)) ?_
    refine at_do (by kernel_rfl) (op_store1 5 (.tmp 22) (.tmp 21) b9_ (0 + i * 1) (.int .u8 (c : Int)) _ _ ((B (fillC c (many % 201) (i + 1))).toArray) (by kernel_rfl) (by kernel_rfl) (by kernel_rfl) (by rfl) (by rfl) q_2L20_ (by kernel_rfl) (Nat.ble_eq_true_of_le (by rw [List.size_toArray, B_length, fillC_length (by omega)]; omega)) (by rw [B_set (by rw [fillC_length (by omega)]; omega), fillC_step (by omega)]) (fun w25_ h26_ z27_ F28_ => ?_))
    have T29_ := Fr.then hFrL20_ F28_ N16_
    have h30_ := Rd.keep' q_0L20_ F28_ (Dis.sym d14_)
    have h31_ := Rd.keep' q_1L20_ F28_ (Dis.sym d15_)
    refine at_done (by kernel_rfl) ?_
    refine blk_n ?_
    refine then_n ?_
    refine c_reg 8 shaEnds_c_R8 (by kernel_rfl) ?_
    refine at_int (kd := .i64) (IntKind.i64.wrap ((i : Int) + (1 : Int))) ((i : Int) + (1 : Int)) (by kernel_rfl) (by kernel_rfl) (wrapN_i64 (by omega) (by omega)) ?_
    refine at_pures 2 (by kernel_rfl) (by kernel_rfl) ?_
    refine at_done (by kernel_rfl) ?_
    refine then_n ?_
    exact ⟨⟨i + 1, is_mk (by kernel_rfl) (by kernel_rfl) (by kernel_rfl), ⟨(by omega), h30_, h31_, h26_, T29_⟩⟩, cnt_lt (k := (i : Int)) (k' := ((i : Int) + (1 : Int))) (by kernel_rfl) (by kernel_rfl) (by omega) (by omega)⟩
  · -- no
    replace c24_ : ¬ ((i : Int) < ((many % 201) : Int)) := of_decide_eq_false c24_
    refine c_exit 0 (by kernel_rfl) ?_
    refine then_e ?_
    refine then_e ?_
    refine blk_hit ?_
    refine then_n ?_
    refine c_seq [1, 1, 1, 1, 0] [1, 1, 1, 1, 1] (by kernel_rfl) ?_
    refine c_reg 9 shaEnds_c_R9 (by kernel_rfl) ?_
    refine at_pures 1 (by kernel_rfl) (by kernel_rfl) ?_
    obtain ⟨bl, hbl, hbn, hBl⟩ : ∃ bl, (fillC c (many % 201) i) = bl ∧ bl.length = (many % 201) ∧ Byt bl := ⟨_, rfl, fillC_length (by omega), by rw [show i = (many % 201) from by omega, fillC_all]; exact fun x hx => by have := List.eq_of_mem_replicate hx; omega⟩
    have hpl := padL_length bl.length; have hPl : (bl ++ padL bl.length).length = bl.length + (padL bl.length).length := List.length_append; have hBP : Byt (bl ++ padL bl.length) := hBl.cat (padL_byt _)
    have h33_ := q_2L20_; rw [hbl] at h33_
    have h32_ : Row w22_ 5 1 (.slice (some ⟨b9_, 0, none⟩) (many % 201) (many % 201)) bl.length (B bl) := Row.ofBlk h33_ hbn (by omega)
    refine at_do (by kernel_rfl) (op_call 18 #[(.tmp 24)] #[(.slice (some ⟨b9_, 0, none⟩) (many % 201) (many % 201))] (by kernel_rfl) (by kernel_rfl) (by kernel_rfl) ?_)
    have C41_ := padded_c (.slice (some ⟨b9_, 0, none⟩) (many % 201) (many % 201)) bl w22_ (Row.sl h32_)  (by first | omega | with_reducible assumption | (simp only [List.length_append, List.length_cons, List.length_nil, putB_length]; omega) | decide)
    refine Calls.mono C41_ ?_
    rintro e40_ w38_ ⟨vout34_, rfl, h35_, F39_, h37_⟩
    refine ⟨_, rfl, ?_⟩
    have d42_ : Dis (Own vout34_) (Ar (some ⟨0, 0, none⟩) ((hw KL).toList)) := Dis.fresh h37_ (Rd.in q_0L20_)
    have d43_ : Dis (Own vout34_) (Ar (some ⟨1, 0, none⟩) ((hw KL).toList)) := Dis.fresh h37_ (Rd.in q_1L20_)
    have d44_ : Dis (Own vout34_) (Own (.slice (some ⟨b9_, 0, none⟩) (many % 201) (many % 201))) := Dis.fresh h37_ (Row.in h32_)
    have T45_ := Fr.tr hFrL20_ F39_
    have h46_ := Rd.keep' q_0L20_ F39_ Dis.n0
    have h47_ := Rd.keep' q_1L20_ F39_ Dis.n0
    have h48_ := Row.keep h32_ F39_ Dis.n0
    have N50_ : New w N0 (Own vout34_) := New.later' h37_ (Fr.size hFrL20_)
    obtain ⟨ao51_, cap52_, rfl, hc53_, hm54_, hR55_, ho56_⟩ := Row.read h35_
    refine at_pures 3 (by kernel_rfl) (by kernel_rfl) ?_
    refine at_done (by kernel_rfl) ?_
    refine then_n ?_
    refine c_seq [1, 1, 1, 1, 1, 0] [1, 1, 1, 1, 1, 1] (by kernel_rfl) ?_
    refine c_reg 10 shaEnds_c_R10 (by kernel_rfl) ?_
    refine at_pures 1 (by kernel_rfl) (by kernel_rfl) ?_
    refine at_do (by kernel_rfl) (op_call 12 #[(.tmp 26)] #[(.slice (some ⟨b9_, 0, none⟩) (many % 201) (many % 201))] (by kernel_rfl) (by kernel_rfl) (by kernel_rfl) ?_)
    have C61_ := shaof_c (.slice (some ⟨b9_, 0, none⟩) (many % 201) (many % 201)) bl w38_ (Row.sl h48_) h47_  (by first | omega | with_reducible assumption | (simp only [List.length_append, List.length_cons, List.length_nil, putB_length]; omega) | decide) (by first | assumption | exact Byt.nil | exact shaL_byt _ | exact padL_byt _ | exact Byt.all (by kernel_rfl)) (by first | exact Nat.le_refl _ | (show _ ≤ _; first | omega | assumption | decide))
    refine Calls.mono C61_ ?_
    rintro e60_ w58_ ⟨rfl, F59_⟩
    refine ⟨_, rfl, ?_⟩
    have T62_ := Fr.tr T45_ F59_
    have h63_ := Rd.keep' h46_ F59_ Dis.n0
    have h64_ := Rd.keep' h47_ F59_ Dis.n0
    have h65_ := Row.keep h48_ F59_ Dis.n0
    have h66_ := Row.keep h35_ F59_ Dis.n0
    refine at_pures 3 (by kernel_rfl) (by kernel_rfl) ?_
    refine at_do (by kernel_rfl) (op_call 13 #[(.tmp 28)] #[(.slice (some ⟨b9_, 0, none⟩) (many % 201) (many % 201))] (by kernel_rfl) (by kernel_rfl) (by kernel_rfl) ?_)
    have C71_ := rof_c (.slice (some ⟨b9_, 0, none⟩) (many % 201) (many % 201)) bl w58_ (Row.sl h65_) h63_  (by first | omega | with_reducible assumption | (simp only [List.length_append, List.length_cons, List.length_nil, putB_length]; omega) | decide) (by first | assumption | exact Byt.nil | exact shaL_byt _ | exact padL_byt _ | exact Byt.all (by kernel_rfl))
    refine Calls.mono C71_ ?_
    rintro e70_ w68_ ⟨rfl, F69_⟩
    refine ⟨_, rfl, ?_⟩
    have T72_ := Fr.tr T62_ F69_
    have h73_ := Rd.keep' h63_ F69_ Dis.n0
    have h74_ := Rd.keep' h64_ F69_ Dis.n0
    have h75_ := Row.keep h65_ F69_ Dis.n0
    have h76_ := Row.keep h66_ F69_ Dis.n0
    refine at_run (.bool true) _ (by kernel_rfl) (run_eq_hash_self 25 (.tmp 27) (.tmp 29) (shaL bl) (by kernel_rfl) (by kernel_rfl) (by kernel_rfl) (by kernel_rfl) (by kernel_rfl) (by kernel_rfl) (shaL_length _) (shaL_byt _)) ?_
    refine at_pures 7 (by kernel_rfl) (by kernel_rfl) ?_
    refine at_do (by kernel_rfl) (op_call 12 #[(.tmp 32)] #[(.slice ao51_ ((bl ++ padL bl.length).length) cap52_)] (by kernel_rfl) (by kernel_rfl) (by kernel_rfl) ?_)
    have C81_ := shaof_c (.slice ao51_ ((bl ++ padL bl.length).length) cap52_) (bl ++ padL bl.length) w68_ (Row.sl h76_) h74_  (by first | omega | with_reducible assumption | (simp only [List.length_append, List.length_cons, List.length_nil, putB_length]; omega) | decide) (by first | assumption | exact Byt.nil | exact shaL_byt _ | exact padL_byt _ | exact Byt.all (by kernel_rfl)) (by first | exact Nat.le_refl _ | (show _ ≤ _; first | omega | assumption | decide))
    refine Calls.mono C81_ ?_
    rintro e80_ w78_ ⟨rfl, F79_⟩
    refine ⟨_, rfl, ?_⟩
    have T82_ := Fr.tr T72_ F79_
    have h83_ := Rd.keep' h73_ F79_ Dis.n0
    have h84_ := Rd.keep' h74_ F79_ Dis.n0
    have h85_ := Row.keep h75_ F79_ Dis.n0
    have h86_ := Row.keep h76_ F79_ Dis.n0
    refine at_pures 9 (by kernel_rfl) (by kernel_rfl) ?_
    refine at_do (by kernel_rfl) (op_call 13 #[(.tmp 34)] #[(.slice ao51_ ((bl ++ padL bl.length).length) cap52_)] (by kernel_rfl) (by kernel_rfl) (by kernel_rfl) ?_)
    have C91_ := rof_c (.slice ao51_ ((bl ++ padL bl.length).length) cap52_) (bl ++ padL bl.length) w78_ (Row.sl h86_) h83_  (by first | omega | with_reducible assumption | (simp only [List.length_append, List.length_cons, List.length_nil, putB_length]; omega) | decide) (by first | assumption | exact Byt.nil | exact shaL_byt _ | exact padL_byt _ | exact Byt.all (by kernel_rfl))
    refine Calls.mono C91_ ?_
    rintro e90_ w88_ ⟨rfl, F89_⟩
    refine ⟨_, rfl, ?_⟩
    have T92_ := Fr.tr T82_ F89_
    have h93_ := Rd.keep' h83_ F89_ Dis.n0
    have h94_ := Rd.keep' h84_ F89_ Dis.n0
    have h95_ := Row.keep h85_ F89_ Dis.n0
    have h96_ := Row.keep h86_ F89_ Dis.n0
    refine at_run (.bool true) _ (by kernel_rfl) (run_eq_hash_self 25 (.tmp 33) (.tmp 35) (shaL (bl ++ padL bl.length)) (by kernel_rfl) (by kernel_rfl) (by kernel_rfl) (by kernel_rfl) (by kernel_rfl) (by kernel_rfl) (shaL_length _) (shaL_byt _)) ?_
    refine at_pures 15 (by kernel_rfl) (by kernel_rfl) ?_
    refine at_int (kd := .i64) (((bl ++ padL bl.length).length : Int).tmod (64 : Int)) (((((bl ++ padL bl.length).length) % 64 : Nat) : Int)) (by kernel_rfl) (by kernel_rfl) (rem_nat2 (n := (bl ++ padL bl.length).length) (by omega)) ?_
    refine at_as (.bool (((((bl ++ padL bl.length).length % 64 : Nat) : Int)) == (0 : Int))) (.bool true) (by kernel_rfl) (by kernel_rfl) (by rw [padded_length]; rfl) ?_
    refine at_pures 19 (by kernel_rfl) (by kernel_rfl) ?_
    refine at_done (by kernel_rfl) ?_
    refine then_n ?_
    refine c_ret (by kernel_rfl) ?_
    refine fin_ret (.bool true) (by kernel_rfl) (by kernel_rfl) ?_
    exact ⟨rfl, T92_⟩
end Go.Proofs.YtboggbknebepdaaDoor
