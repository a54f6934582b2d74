/- The walk of TagKnows. -/
import Derived.Test.YtboggbknebepdaaDoorV3
import Derived.Test.YtboggbknebepdaaDoorAsks
import Derived.Test.YtboggbknebepdaaDoorFork
namespace Go.Proofs.YtboggbknebepdaaDoor
open Go Go.RowKit Go.Alm
theorem askKeyLaw : WideMaps.KeyLaw Tryd.prog 53 := deep_law_laid tagLaidOut (m := 3) (by omega) (of_decide_eq_true (by kernel_rfl)) (by kernel_rfl) (by kernel_rfl)
theorem askKeyOf (x : TKey) : ∃ l, keyOf Tryd.prog 53 (.agg x.cells) = some l := keyOf_deep (by kernel_rfl) (by kernel_rfl) (by kernel_rfl) (by kernel_rfl) x.wf
noncomputable def tagKnows_c_R0 : Array Oper := rAt Tryd.prog 8 [0]
noncomputable def tagKnows_c_R1 : Array Oper := rAt Tryd.prog 8 [1, 0, 0]
noncomputable def tagKnows_c_R3 : Array Oper := rAt Tryd.prog 8 [1, 1, 0, 0]
noncomputable def tagKnows_c_R4 : Array Oper := rAt Tryd.prog 8 [1, 1, 0, 1, 0, 0]
noncomputable def tagKnows_c_R5 : Array Oper := rAt Tryd.prog 8 [1, 1, 1, 0]
noncomputable def tagKnows_c_R6 : Array Oper := rAt Tryd.prog 8 [1, 1, 1, 1, 0]
noncomputable def tagKnows_c_R7 : Array Oper := rAt Tryd.prog 8 [1, 1, 1, 1, 1, 0, 0]
noncomputable def tagKnows_c_R8 : Array Oper := rAt Tryd.prog 8 [1, 1, 1, 1, 1, 0, 1, 0, 0, 0]
noncomputable def tagKnows_c_R9 : Array Oper := rAt Tryd.prog 8 [1, 1, 1, 1, 1, 0, 1, 0, 0, 1, 1, 0, 0, 0]
noncomputable def tagKnows_c_R10 : Array Oper := rAt Tryd.prog 8 [1, 1, 1, 1, 1, 0, 1, 0, 0, 1, 1, 0, 0, 1, 0, 0]
noncomputable def tagKnows_c_R11 : Array Oper := rAt Tryd.prog 8 [1, 1, 1, 1, 1, 0, 1, 0, 0, 1, 1, 0, 0, 1, 0, 1, 0, 0]
noncomputable def tagKnows_c_R12 : Array Oper := rAt Tryd.prog 8 [1, 1, 1, 1, 1, 0, 1, 0, 0, 1, 1, 0, 0, 1, 1, 0, 0]
def tagKnows_c_sk12 : Nat → Bool := fun i => decide (i ∈ [3, 4, 5, 6, 7, 8, 9, 10])
def tagKnows_c_pl12 : List (Nat × PK) := [(0, .q false), (1, .q false), (2, .q true), (3, .q false), (4, .q true), (6, .q false), (7, .q true), (8, .q false), (9, .q false)]
def tagKnows_c_pl12_0 : List (Nat × PK) := [(10, .e), (11, .e), (12, .q false)]
def tagKnows_c_pl12_1 : List (Nat × PK) := [(5, .e), (11, .e), (12, .q false)]
noncomputable def tagKnows_c_R14 : Array Oper := rAt Tryd.prog 8 [1, 1, 1, 1, 1, 0, 1, 0, 0, 1, 1, 0, 0, 1, 1, 1, 0, 0]
noncomputable def tagKnows_c_R15 : Array Oper := rAt Tryd.prog 8 [1, 1, 1, 1, 1, 0, 1, 0, 0, 1, 1, 0, 0, 1, 1, 1, 0, 1, 0]
noncomputable def tagKnows_c_R17 : Array Oper := rAt Tryd.prog 8 [1, 1, 1, 1, 1, 0, 1, 0, 0, 1, 1, 0, 0, 1, 1, 1, 1, 0]
noncomputable def tagKnows_c_R19 : Array Oper := rAt Tryd.prog 8 [1, 1, 1, 1, 1, 0, 1, 0, 0, 1, 1, 1]
noncomputable def tagKnows_c_R16 : Array Oper := rAt Tryd.prog 8 [1, 1, 1, 1, 1, 0, 1, 0, 0, 1, 1, 0, 0, 1, 1, 1, 0, 1, 1, 0]
noncomputable def tagKnows_c_R20 : Array Oper := rAt Tryd.prog 8 [1, 1, 1, 1, 1, 1, 0]
set_option maxRecDepth 100000 in
theorem tagKnows_c (rm : Int) (ao : Option Addr) (cap : Nat) (qs : List TKey) (w : World) (h_qs : Rd w ao (cellsK qs)) (h_ks0 : Rd w (some ⟨0, 0, none⟩) ((hw KL).toList)) (h_ks1 : Rd w (some ⟨1, 0, none⟩) ((hw KL).toList)) (hrm : rm ≤ 9223372036854775807) (hn : qs.length ≤ 9223372036854775807) :
    Calls Tryd.prog 8 #[(.int .i64 rm), (.slice ao qs.length cap)] w fun e w' => e = .returned (.bool true) ∧ Fr w w' N0 := by
  refine c_enter (mk 68 [(0, (.int .i64 rm)), (1, (.slice ao qs.length cap))] (fun _ => undef)) Tryd.func8 (by kernel_rfl) (by kernel_rfl) ?_
  refine c_seq [0] [1] (by kernel_rfl) ?_
  refine c_reg 0 tagKnows_c_R0 (by kernel_rfl) ?_
  refine at_pures 1 (by kernel_rfl) (by kernel_rfl) ?_
  refine at_done (by kernel_rfl) ?_
  refine then_n ?_
  refine c_seq [1, 0] [1, 1] (by kernel_rfl) ?_
  refine c_seq [1, 0, 0] [1, 0, 1] (by kernel_rfl) ?_
  refine c_reg 1 tagKnows_c_R1 (by kernel_rfl) ?_
  refine at_do (by kernel_rfl) (op_call 19 #[] #[] (by kernel_rfl) (by kernel_rfl) (by kernel_rfl) ?_)
  have C5_ := awake3_c  w h_ks0 h_ks1  
  refine Calls.mono C5_ ?_
  rintro e4_ w2_ ⟨rfl, F3_⟩
  refine ⟨_, rfl, ?_⟩
  have T6_ := Fr.tr (Fr.refl w N0) F3_
  have h7_ := Rd.keep' h_qs F3_ Dis.n0
  have h8_ := Rd.keep' h_ks0 F3_ Dis.n0
  have h9_ := Rd.keep' h_ks1 F3_ Dis.n0
  refine at_pures 2 (by kernel_rfl) (by kernel_rfl) ?_
  refine at_done (by kernel_rfl) ?_
  refine then_n ?_
  refine c_else (.tmp 12) [1, 0, 1, 0] [1, 0, 1, 1] (by kernel_rfl) (by kernel_rfl) ?_
  refine c_skip (by kernel_rfl) ?_
  refine then_n ?_
  refine c_seq [1, 1, 0] [1, 1, 1] (by kernel_rfl) ?_
  refine c_seq [1, 1, 0, 0] [1, 1, 0, 1] (by kernel_rfl) ?_
  refine c_reg 3 tagKnows_c_R3 (by kernel_rfl) ?_
  refine at_pures 2 (by kernel_rfl) (by kernel_rfl) ?_
  refine at_split (decide (rm < (0 : Int))) (by kernel_rfl) (by kernel_rfl) (fun c10_ => ?_) (fun c10_ => ?_)
  · -- yes
    replace c10_ : rm < (0 : Int) := of_decide_eq_true c10_
    refine at_pures 7 (by kernel_rfl) (by kernel_rfl) ?_
    refine at_done (by kernel_rfl) ?_
    refine then_n ?_
    refine c_then (.tmp 19) [1, 1, 0, 1, 0] [1, 1, 0, 1, 1] (by kernel_rfl) (by kernel_rfl) ?_
    refine c_seq [1, 1, 0, 1, 0, 0] [1, 1, 0, 1, 0, 1] (by kernel_rfl) ?_
    refine c_reg 4 tagKnows_c_R4 (by kernel_rfl) ?_
    refine at_pures 1 (by kernel_rfl) (by kernel_rfl) ?_
    refine at_done (by kernel_rfl) ?_
    refine then_n ?_
    refine c_ret (by kernel_rfl) ?_
    refine then_r ?_
    refine fin_ret (.bool true) (by kernel_rfl) (by kernel_rfl) ?_
    exact ⟨rfl, T6_⟩
  · -- no
    replace c10_ : ¬ (rm < (0 : Int)) := of_decide_eq_false c10_
    refine at_pures 7 (by kernel_rfl) (by kernel_rfl) ?_
    refine at_done (by kernel_rfl) ?_
    refine then_n ?_
    refine c_if (.tmp 19) (decide ((qs.length : Int) > (60 : Int))) [1, 1, 0, 1, 0] [1, 1, 0, 1, 1] (by kernel_rfl) (by kernel_rfl) (fun c11_ => ?_) (fun c11_ => ?_)
    · -- yes
      replace c11_ : (qs.length : Int) > (60 : Int) := of_decide_eq_true c11_
      refine c_seq [1, 1, 0, 1, 0, 0] [1, 1, 0, 1, 0, 1] (by kernel_rfl) ?_
      refine c_reg 4 tagKnows_c_R4 (by kernel_rfl) ?_
      refine at_pures 1 (by kernel_rfl) (by kernel_rfl) ?_
      refine at_done (by kernel_rfl) ?_
      refine then_n ?_
      refine c_ret (by kernel_rfl) ?_
      refine then_r ?_
      refine fin_ret (.bool true) (by kernel_rfl) (by kernel_rfl) ?_
      exact ⟨rfl, T6_⟩
    · -- no
      replace c11_ : ¬ ((qs.length : Int) > (60 : Int)) := of_decide_eq_false c11_
      refine c_skip (by kernel_rfl) ?_
      refine then_n ?_
      refine c_seq [1, 1, 1, 0] [1, 1, 1, 1] (by kernel_rfl) ?_
      refine c_reg 5 tagKnows_c_R5 (by kernel_rfl) ?_
      refine at_pures 1 (by kernel_rfl) (by kernel_rfl) ?_
      obtain ⟨room, rfl⟩ : ∃ room : Nat, rm = (room : Int) := Int.eq_ofNat_of_zero_le (by omega)
      refine at_do (by kernel_rfl) (op_call 26 #[(.tmp 20)] #[(.int .i64 (room : Int))] (by kernel_rfl) (by kernel_rfl) (by kernel_rfl) ?_)
      have C23_ := newmemo_c room w2_   
      refine Calls.mono C23_ ?_
      rintro e22_ w20_ ⟨bm12_, mb13_, lastmemo14_, foundmemo15_, askedmemo16_, rfl, h17_, F21_, h19_⟩
      refine ⟨_, rfl, ?_⟩
      have d24_ : Dis (Or2 (One bm12_) (One mb13_)) (Ar ao (cellsK qs)) := Dis.fresh h19_ (Rd.in h7_)
      have d25_ : Dis (Or2 (One bm12_) (One mb13_)) (Ar (some ⟨0, 0, none⟩) ((hw KL).toList)) := Dis.fresh h19_ (Rd.in h8_)
      have d26_ : Dis (Or2 (One bm12_) (One mb13_)) (Ar (some ⟨1, 0, none⟩) ((hw KL).toList)) := Dis.fresh h19_ (Rd.in h9_)
      have T27_ := Fr.tr T6_ F21_
      have h28_ := Rd.keep' h7_ F21_ Dis.n0
      have h29_ := Rd.keep' h8_ F21_ Dis.n0
      have h30_ := Rd.keep' h9_ F21_ Dis.n0
      have N32_ : New w N0 (Or2 (One bm12_) (One mb13_)) := New.later' h19_ (Fr.size T6_)
      refine at_pures 3 (by kernel_rfl) (by kernel_rfl) ?_
      refine at_done (by kernel_rfl) ?_
      refine then_n ?_
      refine c_seq [1, 1, 1, 1, 0] [1, 1, 1, 1, 1] (by kernel_rfl) ?_
      refine c_reg 6 tagKnows_c_R6 (by kernel_rfl) ?_
      refine at_do (by kernel_rfl) (op_new (.map #[] 0) (fun N => .map (some N)) (fun _ => by kernel_rfl) (fun w34_ b33_ h35_ q36_ F37_ => ?_))
      have d38_ : Dis (One b33_) (Ar ao (cellsK qs)) := Dis.fresh (New.one q36_) (Rd.in h28_)
      have d39_ : Dis (One b33_) (Ar (some ⟨0, 0, none⟩) ((hw KL).toList)) := Dis.fresh (New.one q36_) (Rd.in h29_)
      have d40_ : Dis (One b33_) (Ar (some ⟨1, 0, none⟩) ((hw KL).toList)) := Dis.fresh (New.one q36_) (Rd.in h30_)
      have d41_ : Dis (One b33_) (Or2 (One bm12_) (One mb13_)) := Dis.fresh (New.one q36_) (MemoAt.in h17_)
      have N42_ : New w N0 (One b33_) := New.made q36_ (Fr.size T27_)
      have T43_ := Fr.tr T27_ F37_
      have h44_ : MapAt Tryd.prog 53 w34_ b33_ [] := MapAt.nil h35_
      refine at_pures 2 (by kernel_rfl) (by kernel_rfl) ?_
      refine at_done (by kernel_rfl) ?_
      refine then_n ?_
      refine c_seq [1, 1, 1, 1, 1, 0] [1, 1, 1, 1, 1, 1] (by kernel_rfl) ?_
      refine c_seq [1, 1, 1, 1, 1, 0, 0] [1, 1, 1, 1, 1, 0, 1] (by kernel_rfl) ?_
      refine c_reg 7 tagKnows_c_R7 (by kernel_rfl) ?_
      refine at_pures 3 (by kernel_rfl) (by kernel_rfl) ?_
      refine at_done (by kernel_rfl) ?_
      refine then_n ?_
      refine c_block 0 [1, 1, 1, 1, 1, 0, 1, 0] (by kernel_rfl) ?_
      have h45_ := Rd.keep' h28_ F37_ Dis.n0
      have h46_ := Rd.keep' h29_ F37_ Dis.n0
      have h47_ := Rd.keep' h30_ F37_ Dis.n0
      have h48_ := MemoAt.keep h17_ F37_ Dis.n0
      refine c_loop (fun a w' => ∃ (k : Nat), ∃ (ks : List TKey), ∃ (last : TKey), ∃ (found : List Nat), ∃ (asked : Bool), (∃ u, a = mk 68 [(0, (.int .i64 (room : Int))), (1, (.slice ao qs.length cap)), (5, (.pointer (some ⟨bm12_, 0, none⟩))), (6, (.map (some b33_))), (11, (.bool true)), (12, (.bool false)), (13, (.int .i64 (room : Int))), (14, (.bool (decide ((room : Int) < (0 : Int))))), (15, (.bool false)), (16, (.slice ao qs.length cap)), (17, (.int .i64 (qs.length : Int))), (18, (.bool (decide ((qs.length : Int) > (60 : Int))))), (19, (.bool (decide ((qs.length : Int) > (60 : Int))))), (20, (.int .i64 (room : Int))), (21, (.pointer (some ⟨bm12_, 0, none⟩))), (22, (.map (some b33_))), (23, (.slice ao qs.length cap)), (24, (.int .i64 (qs.length : Int))), (25, (.int .i64 (k : Int)))] u) ∧ (k ≤ qs.length) ∧ (ks.length ≤ k) ∧ (Rd w' ao ((cellsK qs))) ∧ (Rd w' (some ⟨0, 0, none⟩) ((hw KL).toList)) ∧ (Rd w' (some ⟨1, 0, none⟩) ((hw KL).toList)) ∧ (MemoAt Tryd.prog 83 85 w' bm12_ mb13_ room ks last found asked) ∧ (MapAt Tryd.prog 53 w' b33_ (kvI ks)) ∧ (Fr w w' N0)) (fun a _ => cnt (qs.length) 25 a) [1, 1, 1, 1, 1, 0, 1, 0, 0] (by kernel_rfl) ⟨0, [], lastmemo14_, foundmemo15_, askedmemo16_, is_mk (by kernel_rfl) (by kernel_rfl) (by kernel_rfl), ⟨Nat.zero_le _, Nat.le_refl _, h45_, h46_, h47_, h48_, h44_, T43_⟩⟩ ?_
      rintro a50_ w51_ ⟨k, ks, last, found, asked, ⟨u52_, rfl⟩, ⟨hk, hks, q_0L49_, q_1L49_, q_2L49_, q_3L49_, q_4L49_, hFrL49_⟩⟩
      refine c_seq [1, 1, 1, 1, 1, 0, 1, 0, 0, 0] [1, 1, 1, 1, 1, 0, 1, 0, 0, 1] (by kernel_rfl) ?_
      refine c_reg 8 tagKnows_c_R8 (by kernel_rfl) ?_
      refine at_pures 1 (by kernel_rfl) (by kernel_rfl) ?_
      refine at_done (by kernel_rfl) ?_
      refine then_n ?_
      refine c_seq [1, 1, 1, 1, 1, 0, 1, 0, 0, 1, 0] [1, 1, 1, 1, 1, 0, 1, 0, 0, 1, 1] (by kernel_rfl) ?_
      refine c_if (.tmp 26) (decide ((k : Int) < (qs.length : Int))) [1, 1, 1, 1, 1, 0, 1, 0, 0, 1, 0, 0] [1, 1, 1, 1, 1, 0, 1, 0, 0, 1, 0, 1] (by kernel_rfl) (by kernel_rfl) (fun c53_ => ?_) (fun c53_ => ?_)
      · -- yes
        replace c53_ : (k : Int) < (qs.length : Int) := of_decide_eq_true c53_
        refine c_skip (by kernel_rfl) ?_
        refine then_n ?_
        refine c_seq [1, 1, 1, 1, 1, 0, 1, 0, 0, 1, 1, 0] [1, 1, 1, 1, 1, 0, 1, 0, 0, 1, 1, 1] (by kernel_rfl) ?_
        refine c_block 1 [1, 1, 1, 1, 1, 0, 1, 0, 0, 1, 1, 0, 0] (by kernel_rfl) ?_
        refine c_seq [1, 1, 1, 1, 1, 0, 1, 0, 0, 1, 1, 0, 0, 0] [1, 1, 1, 1, 1, 0, 1, 0, 0, 1, 1, 0, 0, 1] (by kernel_rfl) ?_
        refine c_reg 9 tagKnows_c_R9 (by kernel_rfl) ?_
        obtain ⟨x, hx_x⟩ : ∃ x, qs[k]? = some x := ⟨_, List.getElem?_eq_getElem (by omega)⟩
        have hxl := x.hl; have hxb := x.hb; have hxs := x.hs
        obtain ⟨ad54_, ha55_⟩ := q_0L49_.has (k * 33) (by rw [cellsK_length]; omega)
        refine at_run (.pointer (some (ad54_.add (k * 33)))) _ (by kernel_rfl) (run_idx_o 48 (.tmp 23) (.tmp 25) 33 ao ad54_ qs.length cap .i64 k (by kernel_rfl) (by kernel_rfl) (by kernel_rfl) (by kernel_rfl) (by kernel_rfl) ha55_ (by omega)) ?_
        refine at_run (.agg (TKey.cells x)) _ (by kernel_rfl) (run_loadEn 53 (.tmp 27) ao ad54_ (k * 33) 33 ((cellsK qs)) (TKey.cells x) (by kernel_rfl) (by kernel_rfl) (by kernel_rfl) (by kernel_rfl) ha55_ q_0L49_ (by kernel_rfl) (cellsK_get qs k x hx_x)) ?_
        refine at_do (by kernel_rfl) (op_new (.cells #[(.string (⟨#[]⟩ : ByteArray)), (.int .u8 0), (.int .u8 0), (.int .u8 0), (.int .u8 0), (.int .u8 0), (.int .u8 0), (.int .u8 0), (.int .u8 0), (.int .u8 0), (.int .u8 0), (.int .u8 0), (.int .u8 0), (.int .u8 0), (.int .u8 0), (.int .u8 0), (.int .u8 0), (.int .u8 0), (.int .u8 0), (.int .u8 0), (.int .u8 0), (.int .u8 0), (.int .u8 0), (.int .u8 0), (.int .u8 0), (.int .u8 0), (.int .u8 0), (.int .u8 0), (.int .u8 0), (.int .u8 0), (.int .u8 0), (.int .u8 0), (.int .u8 0)] 53) (fun N => (.pointer (some ⟨N, 0, none⟩))) (fun _ => by kernel_rfl) (fun w57_ b56_ h58_ q59_ F60_ => ?_))
        have d61_ : Dis (One b56_) (Ar ao (cellsK qs)) := Dis.fresh (New.one q59_) (Rd.in q_0L49_)
        have d62_ : Dis (One b56_) (Ar (some ⟨0, 0, none⟩) ((hw KL).toList)) := Dis.fresh (New.one q59_) (Rd.in q_1L49_)
        have d63_ : Dis (One b56_) (Ar (some ⟨1, 0, none⟩) ((hw KL).toList)) := Dis.fresh (New.one q59_) (Rd.in q_2L49_)
        have d64_ : Dis (One b56_) (Or2 (One bm12_) (One mb13_)) := Dis.fresh (New.one q59_) (MemoAt.in q_3L49_)
        have d65_ : Dis (One b56_) (One b33_) := Dis.fresh (New.one q59_) (MapAt.in q_4L49_)
        have N66_ : New w N0 (One b56_) := New.made q59_ (Fr.size hFrL49_)
        have T67_ := Fr.tr hFrL49_ F60_
        have h68_ := Rd.keep' q_0L49_ F60_ Dis.n0
        have h69_ := Rd.keep' q_1L49_ F60_ Dis.n0
        have h70_ := Rd.keep' q_2L49_ F60_ Dis.n0
        have h71_ := MemoAt.keep q_3L49_ F60_ Dis.n0
        have h72_ := MapAt.keep q_4L49_ F60_ Dis.n0
        refine at_do (by kernel_rfl) (op_store 53 (.tmp 8) (.tmp 28) b56_ 0 (.agg (TKey.cells x)) _ _ (TKey.cells x) (by kernel_rfl) (by kernel_rfl) (by kernel_rfl) h58_ (by kernel_rfl) (by kernel_rfl) (by kernel_rfl) (by kernel_rfl) (fun w73_ h74_ z75_ F76_ => ?_))
        have T77_ := Fr.then T67_ F76_ N66_
        have h78_ := Rd.keep' h68_ F76_ (Dis.sym d61_)
        have h79_ := Rd.keep' h69_ F76_ (Dis.sym d62_)
        have h80_ := Rd.keep' h70_ F76_ (Dis.sym d63_)
        have h81_ := MemoAt.keep h71_ F76_ (Dis.sym d64_)
        have h82_ := MapAt.keep h72_ F76_ (Dis.sym d65_)
        refine at_done (by kernel_rfl) ?_
        refine then_n ?_
        refine c_seq [1, 1, 1, 1, 1, 0, 1, 0, 0, 1, 1, 0, 0, 1, 0] [1, 1, 1, 1, 1, 0, 1, 0, 0, 1, 1, 0, 0, 1, 1] (by kernel_rfl) ?_
        refine c_seq [1, 1, 1, 1, 1, 0, 1, 0, 0, 1, 1, 0, 0, 1, 0, 0] [1, 1, 1, 1, 1, 0, 1, 0, 0, 1, 1, 0, 0, 1, 0, 1] (by kernel_rfl) ?_
        refine c_reg 10 tagKnows_c_R10 (by kernel_rfl) ?_
        refine at_pures 1 (by kernel_rfl) (by kernel_rfl) ?_
        refine at_load1 9 (.tmp 29) b56_ 0 _ _ _ (.string x.s) (by kernel_rfl) (by kernel_rfl) (by kernel_rfl) (by kernel_rfl) h74_ (by kernel_rfl) ?_
        refine at_pures 4 (by kernel_rfl) (by kernel_rfl) ?_
        refine at_done (by kernel_rfl) ?_
        refine then_n ?_
        refine c_if (.tmp 32) (decide ((x.s.size : Int) > (255 : Int))) [1, 1, 1, 1, 1, 0, 1, 0, 0, 1, 1, 0, 0, 1, 0, 1, 0] [1, 1, 1, 1, 1, 0, 1, 0, 0, 1, 1, 0, 0, 1, 0, 1, 1] (by kernel_rfl) (by kernel_rfl) (fun c83_ => ?_) (fun c83_ => ?_)
        · -- yes
          replace c83_ : (x.s.size : Int) > (255 : Int) := of_decide_eq_true c83_
          refine c_seq [1, 1, 1, 1, 1, 0, 1, 0, 0, 1, 1, 0, 0, 1, 0, 1, 0, 0] [1, 1, 1, 1, 1, 0, 1, 0, 0, 1, 1, 0, 0, 1, 0, 1, 0, 1] (by kernel_rfl) ?_
          refine c_reg 11 tagKnows_c_R11 (by kernel_rfl) ?_
          refine at_pures 1 (by kernel_rfl) (by kernel_rfl) ?_
          refine at_done (by kernel_rfl) ?_
          refine then_n ?_
          refine c_ret (by kernel_rfl) ?_
          refine then_r ?_
          refine blk_r ?_
          refine then_r ?_
          refine then_r ?_
          refine blk_r ?_
          refine then_r ?_
          refine fin_ret (.bool true) (by kernel_rfl) (by kernel_rfl) ?_
          exact ⟨rfl, T77_⟩
        · -- no
          replace c83_ : ¬ ((x.s.size : Int) > (255 : Int)) := of_decide_eq_false c83_
          refine c_skip (by kernel_rfl) ?_
          refine then_n ?_
          refine c_seq [1, 1, 1, 1, 1, 0, 1, 0, 0, 1, 1, 0, 0, 1, 1, 0] [1, 1, 1, 1, 1, 0, 1, 0, 0, 1, 1, 0, 0, 1, 1, 1] (by kernel_rfl) ?_
          refine c_seq [1, 1, 1, 1, 1, 0, 1, 0, 0, 1, 1, 0, 0, 1, 1, 0, 0] [1, 1, 1, 1, 1, 0, 1, 0, 0, 1, 1, 0, 0, 1, 1, 0, 1] (by kernel_rfl) ?_
          refine c_fork 12 tagKnows_c_R12 (fun w' => w'.heap[b56_]? = some (.cells (TKey.cells x) 53 (0, 0)) ∧ True) tagKnows_c_sk12 tagKnows_c_pl12 5 10 tagKnows_c_pl12_0 tagKnows_c_pl12_1 (by kernel_rfl) (by kernel_rfl) (by kernel_rfl) (by kernel_rfl) (by kernel_rfl) (by kernel_rfl) (fun w84_ F85_ => ?_)
          have T86_ := Fr.tr T77_ F85_
          have h88_ := Fr.keep F85_ h74_ Dis.n0
          have S87_ : w84_.heap[b56_]? = some (.cells (TKey.cells x) 53 (0, 0)) ∧ True := ⟨h88_, trivial⟩
          refine pl_pures 2 (by kernel_rfl) (by kernel_rfl) (off (by kernel_rfl)) ?_
          refine pl_read 2 (.string x.s) (by kernel_rfl) (by kernel_rfl) (fun w' hs => run_load1 9 (.tmp 34) b56_ 0 _ _ _ (.string x.s) (by kernel_rfl) (by kernel_rfl) (by kernel_rfl) hs.1 (by kernel_rfl)) S87_ ?_
          refine pl_pures 4 (by kernel_rfl) (by kernel_rfl) (fun _ => S87_) ?_
          refine pl_read 4 (.agg (hv x.h)) (by kernel_rfl) (by kernel_rfl) (fun w' hs => run_loadN 25 (.tmp 36) b56_ 1 32 _ _ _ (hv x.h) (by kernel_rfl) (by kernel_rfl) (by kernel_rfl) (by kernel_rfl) hs.1 (by kernel_rfl) (by kernel_rfl)) S87_ ?_
          refine pl_pures 6 (by kernel_rfl) (by kernel_rfl) (fun _ => S87_) ?_
          refine pl_read 7 (.string x.s) (by kernel_rfl) (by kernel_rfl) (fun w' hs => run_load1 9 (.tmp 39) b56_ 0 _ _ _ (.string x.s) (by kernel_rfl) (by kernel_rfl) (by kernel_rfl) hs.1 (by kernel_rfl)) S87_ ?_
          refine pl_pures 9 (by kernel_rfl) (by kernel_rfl) (fun _ => S87_) ?_
          refine pl_done (by kernel_rfl) ⟨?_, ?_⟩
          · -- first number 5
            have h89_ := Rd.keep' h78_ F85_ Dis.n0
            have h90_ := Rd.keep' h79_ F85_ Dis.n0
            have h91_ := Rd.keep' h80_ F85_ Dis.n0
            have h92_ := MemoAt.keep h81_ F85_ Dis.n0
            have h93_ := MapAt.keep h82_ F85_ Dis.n0
            refine pl_do 5 (by kernel_rfl) (by kernel_rfl) (op_call 27 #[(.tmp 33), (.tmp 35), (.tmp 37)] #[(.pointer (some ⟨bm12_, 0, none⟩)), (.string x.s), (.agg (hv x.h))] (by kernel_rfl) (by kernel_rfl) (by kernel_rfl) ?_)
            have C103_ := memoof_c bm12_ mb13_ room ks last found asked x w84_ h92_ h91_ (Dis.sym d26_) (by first | omega | with_reducible assumption | (simp only [List.length_append, List.length_cons, List.length_nil, putB_length]; omega) | decide) (by first | omega | with_reducible assumption | (simp only [List.length_append, List.length_cons, List.length_nil, putB_length]; omega) | decide)
            refine Calls.mono C103_ ?_
            rintro e102_ w100_ ⟨lastmemo94_, foundmemo95_, askedmemo96_, rfl, h97_, F101_, h99_⟩
            refine ⟨_, rfl, ?_⟩
            have T104_ := Fr.then T86_ F101_ N32_
            have d105_ : Dis (Or2 (One bm12_) (One mb13_)) (Ar ao (cellsK qs)) := Dis.step d24_ h99_ (Rd.in h89_)
            have h106_ := Rd.keep' h89_ F101_ (Dis.sym d24_)
            have d107_ : Dis (Or2 (One bm12_) (One mb13_)) (Ar (some ⟨0, 0, none⟩) ((hw KL).toList)) := Dis.step d25_ h99_ (Rd.in h90_)
            have h108_ := Rd.keep' h90_ F101_ (Dis.sym d25_)
            have d109_ : Dis (Or2 (One bm12_) (One mb13_)) (Ar (some ⟨1, 0, none⟩) ((hw KL).toList)) := Dis.step d26_ h99_ (Rd.in h91_)
            have h110_ := Rd.keep' h91_ F101_ (Dis.sym d26_)
            have d111_ : Dis (Or2 (One bm12_) (One mb13_)) (One b33_) := Dis.step (Dis.sym d41_) h99_ (MapAt.in h93_)
            have h112_ := MapAt.keep h93_ F101_ d41_
            have d113_ : Dis (Or2 (One bm12_) (One mb13_)) (One b56_) := Dis.step (Dis.sym d64_) h99_ (In.one h88_)
            have h114_ := Fr.keep F101_ h88_ d64_
            have N115_ : New w N0 (Or2 (One bm12_) (One mb13_)) := New.trans N32_ h99_ (Fr.size T86_)
            have S116_ : w100_.heap[b56_]? = some (.cells (TKey.cells x) 53 (0, 0)) ∧ True := ⟨h114_, trivial⟩
            refine ⟨fun _ => S116_, ?_⟩
            refine pl_do 10 (by kernel_rfl) (by kernel_rfl) (op_new (.cells #[(.slice (some ⟨b56_, 1, none⟩) 32 32)] 22) (fun N => (.slice (some ⟨N, 0, none⟩) 1 1)) (fun _ => by kernel_rfl) (fun w118_ b117_ h119_ q120_ F121_ => ?_))
            have d122_ : Dis (One b117_) (Ar ao (cellsK qs)) := Dis.fresh (New.one q120_) (Rd.in h106_)
            have d123_ : Dis (One b117_) (Ar (some ⟨0, 0, none⟩) ((hw KL).toList)) := Dis.fresh (New.one q120_) (Rd.in h108_)
            have d124_ : Dis (One b117_) (Ar (some ⟨1, 0, none⟩) ((hw KL).toList)) := Dis.fresh (New.one q120_) (Rd.in h110_)
            have d125_ : Dis (One b117_) (Or2 (One bm12_) (One mb13_)) := Dis.fresh (New.one q120_) (MemoAt.in h97_)
            have d126_ : Dis (One b117_) (One b33_) := Dis.fresh (New.one q120_) (MapAt.in h112_)
            have d127_ : Dis (One b117_) (One b56_) := Dis.fresh (New.one q120_) (In.one h114_)
            have N128_ : New w N0 (One b117_) := New.made q120_ (Fr.size T104_)
            have T129_ := Fr.tr T104_ F121_
            have h130_ := Fr.keep F121_ h114_ Dis.n0
            have S131_ : w118_.heap[b56_]? = some (.cells (TKey.cells x) 53 (0, 0)) ∧ True := ⟨h130_, trivial⟩
            refine ⟨fun _ => S131_, ?_⟩
            have h132_ := Rd.keep' h106_ F121_ Dis.n0
            have h133_ := Rd.keep' h108_ F121_ Dis.n0
            have h134_ := Rd.keep' h110_ F121_ Dis.n0
            have h135_ := MemoAt.keep h97_ F121_ Dis.n0
            have h136_ := MapAt.keep h112_ F121_ Dis.n0
            have h139_ : (((TKey.cells x)).toList.drop 1).take 32 = B x.h := Eq.trans (by kernel_rfl) (hv_B x.hl)
            have h137_ : RowsAt (Or2 (One b117_) (Ar (some ⟨b56_, 1, none⟩) (B x.h))) w118_ (some ⟨b117_, 0, none⟩) [⟨(some ⟨b56_, 1, none⟩), 32, x.h⟩] := RowsAt.one h119_ (by rw [x.hl]) (Rd.of_cut (xs := B x.h) h130_ 1 32 h139_) (Sub.refl _) (Rd.in (Rd.of_cut (xs := B x.h) h130_ 1 32 h139_)) (by first | assumption | exact Byt.nil | exact tagL_byt _ _ | exact tagK_byt _ | exact shaL_byt _ | exact Byt.all (by kernel_rfl)) (by first | assumption | omega | exact Nat.le_refl _ | exact Nat.le_of_eq x.hl| decide) (by first | assumption | (simp only [maxLen]; omega) | decide)
            refine pl_do 11 (by kernel_rfl) (by kernel_rfl) (op_call 24 #[(.tmp 40), (.tmp 43)] #[(.string x.s), (.slice (some ⟨b117_, 0, none⟩) 1 1)] (by kernel_rfl) (by kernel_rfl) (by kernel_rfl) ?_)
            have C144_ := tagof_c x.s (Or2 (One b117_) (Ar (some ⟨b56_, 1, none⟩) (B x.h))) (some ⟨b117_, 0, none⟩) 1 ([⟨(some ⟨b56_, 1, none⟩), 32, x.h⟩] : List BSl) w118_ h137_ h134_  (by first | omega | with_reducible assumption | (simp only [List.length_append, List.length_cons, List.length_nil, putB_length]; omega) | decide) (by exact parts1_le (by rw [x.hl]; decide))
            refine Calls.mono C144_ ?_
            rintro e143_ w141_ ⟨rfl, F142_⟩
            refine ⟨_, rfl, ?_⟩
            have T145_ := Fr.tr T129_ F142_
            have h146_ := Rd.keep' h132_ F142_ Dis.n0
            have h147_ := Rd.keep' h133_ F142_ Dis.n0
            have h148_ := Rd.keep' h134_ F142_ Dis.n0
            have h149_ := MemoAt.keep h135_ F142_ Dis.n0
            have h150_ := MapAt.keep h136_ F142_ Dis.n0
            have h151_ := Fr.keep F142_ h130_ Dis.n0
            have h152_ := Fr.keep F142_ h119_ Dis.n0
            have h153_ := RowsAt.keep h137_ F142_ Dis.n0
            refine ⟨off (by kernel_rfl), ?_⟩
            refine pl_quiet 12 (.bool false) (by kernel_rfl) (by kernel_rfl) (fun w' => run_neq_hash_self 25 (.tmp 38) (.tmp 44) (tagK x) (by kernel_rfl) (by kernel_rfl) (by kernel_rfl) (by kernel_rfl) (by kernel_rfl) (by kernel_rfl) (tagK_length _) (tagK_byt _)) (off (by kernel_rfl)) ?_
            refine pl_done (by kernel_rfl) ?_
            refine then_n ?_
            refine c_else (.tmp 45) [1, 1, 1, 1, 1, 0, 1, 0, 0, 1, 1, 0, 0, 1, 1, 0, 1, 0] [1, 1, 1, 1, 1, 0, 1, 0, 0, 1, 1, 0, 0, 1, 1, 0, 1, 1] (by kernel_rfl) (by kernel_rfl) ?_
            refine c_skip (by kernel_rfl) ?_
            refine then_n ?_
            refine c_seq [1, 1, 1, 1, 1, 0, 1, 0, 0, 1, 1, 0, 0, 1, 1, 1, 0] [1, 1, 1, 1, 1, 0, 1, 0, 0, 1, 1, 0, 0, 1, 1, 1, 1] (by kernel_rfl) ?_
            refine c_seq [1, 1, 1, 1, 1, 0, 1, 0, 0, 1, 1, 0, 0, 1, 1, 1, 0, 0] [1, 1, 1, 1, 1, 0, 1, 0, 0, 1, 1, 0, 0, 1, 1, 1, 0, 1] (by kernel_rfl) ?_
            refine c_reg 14 tagKnows_c_R14 (by kernel_rfl) ?_
            refine at_pures 1 (by kernel_rfl) (by kernel_rfl) ?_
            refine at_loadN 53 (.tmp 8) b56_ 0 33 _ _ _ (TKey.cells x) (by kernel_rfl) (by kernel_rfl) (by kernel_rfl) (by kernel_rfl) (by kernel_rfl) h151_ (by kernel_rfl) (by kernel_rfl) ?_
            by_cases hx : x ∈ ks
            · -- there
              refine at_run (.tuple #[(.int .i64 1), (.bool true)]) _ (by kernel_rfl) ((run_lookup (w := w141_) (t := 51) (e := 3) askKeyLaw (.tmp 47) (.tmp 48) (.agg x.cells) (.int .i64 0) (by kernel_rfl) (by kernel_rfl) (by kernel_rfl) (by kernel_rfl) (by kernel_rfl) h150_ (askKeyOf x)).2 _ (kvI_in hx).1 (kvI_in hx).2) ?_
              refine at_pures 8 (by kernel_rfl) (by kernel_rfl) ?_
              refine at_done (by kernel_rfl) ?_
              refine then_n ?_
              refine c_seq [1, 1, 1, 1, 1, 0, 1, 0, 0, 1, 1, 0, 0, 1, 1, 1, 0, 1, 0] [1, 1, 1, 1, 1, 0, 1, 0, 0, 1, 1, 0, 0, 1, 1, 1, 0, 1, 1] (by kernel_rfl) ?_
              refine c_reg 15 tagKnows_c_R15 (by kernel_rfl) ?_
              refine at_pures 8 (by kernel_rfl) (by kernel_rfl) ?_
              refine at_done (by kernel_rfl) ?_
              refine then_n ?_
              refine c_else (.tmp 59) [1, 1, 1, 1, 1, 0, 1, 0, 0, 1, 1, 0, 0, 1, 1, 1, 0, 1, 1, 0] [1, 1, 1, 1, 1, 0, 1, 0, 0, 1, 1, 0, 0, 1, 1, 1, 0, 1, 1, 1] (by kernel_rfl) (by kernel_rfl) ?_
              refine c_skip (by kernel_rfl) ?_
              refine then_n ?_
              refine c_seq [1, 1, 1, 1, 1, 0, 1, 0, 0, 1, 1, 0, 0, 1, 1, 1, 1, 0] [1, 1, 1, 1, 1, 0, 1, 0, 0, 1, 1, 0, 0, 1, 1, 1, 1, 1] (by kernel_rfl) ?_
              refine c_reg 17 tagKnows_c_R17 (by kernel_rfl) ?_
              refine at_pures 1 (by kernel_rfl) (by kernel_rfl) ?_
              have ek : addK ks x room = ks := if_pos (.inl hx)
              have h154_ : MapAt Tryd.prog 53 w141_ b33_ (kvI (addK ks x room)) := by rw [ek]; exact h150_
              refine at_do (by kernel_rfl) (op_call 28 #[(.tmp 62)] #[(.pointer (some ⟨bm12_, 0, none⟩))] (by kernel_rfl) (by kernel_rfl) (by kernel_rfl) ?_)
              have C159_ := known_c bm12_ mb13_ room (addK ks x room) lastmemo94_ foundmemo95_ askedmemo96_ w141_ h149_  
              refine Calls.mono C159_ ?_
              rintro e158_ w156_ ⟨rfl, F157_⟩
              refine ⟨_, rfl, ?_⟩
              have T160_ := Fr.tr T145_ F157_
              have h161_ := Rd.keep' h146_ F157_ Dis.n0
              have h162_ := Rd.keep' h147_ F157_ Dis.n0
              have h163_ := Rd.keep' h148_ F157_ Dis.n0
              have h164_ := MemoAt.keep h149_ F157_ Dis.n0
              have h165_ := MapAt.keep h154_ F157_ Dis.n0
              have h166_ := Fr.keep F157_ h151_ Dis.n0
              have h167_ := Fr.keep F157_ h152_ Dis.n0
              have h168_ := RowsAt.keep h153_ F157_ Dis.n0
              refine at_pures 3 (by kernel_rfl) (by kernel_rfl) ?_
              refine at_run (.int .i64 ((kvI (addK ks x room)).length : Int)) _ (by kernel_rfl) (run_lenMap (t := 51) (e := 3) (.tmp 64) (by kernel_rfl) (by kernel_rfl) (by kernel_rfl) h165_) ?_
              refine at_as (.bool (((addK ks x room).length : Int) != ((kvI (addK ks x room)).length : Int))) (.bool false) (by kernel_rfl) (by kernel_rfl) (by rw [kvI_length]; exact congrArg Value.bool (bne_self_eq_false _)) ?_
              refine at_done (by kernel_rfl) ?_
              refine then_n ?_
              refine c_else (.tmp 66) [1, 1, 1, 1, 1, 0, 1, 0, 0, 1, 1, 0, 0, 1, 1, 1, 1, 1, 0] [1, 1, 1, 1, 1, 0, 1, 0, 0, 1, 1, 0, 0, 1, 1, 1, 1, 1, 1] (by kernel_rfl) (by kernel_rfl) ?_
              refine c_skip (by kernel_rfl) ?_
              refine blk_n ?_
              refine then_n ?_
              refine c_reg 19 tagKnows_c_R19 (by kernel_rfl) ?_
              refine at_int (kd := .i64) (IntKind.i64.wrap ((k : Int) + (1 : Int))) ((k : Int) + (1 : Int)) (by kernel_rfl) (by kernel_rfl) (wrapN_i64 (by omega) (by omega)) ?_
              refine at_pures 2 (by kernel_rfl) (by kernel_rfl) ?_
              refine at_done (by kernel_rfl) ?_
              refine then_n ?_
              exact ⟨⟨k + 1, (addK ks x room), lastmemo94_, foundmemo95_, askedmemo96_, is_mk (by kernel_rfl) (by kernel_rfl) (by kernel_rfl), ⟨(by omega), (by have := addK_length ks x room; omega), h161_, h162_, h163_, h164_, h165_, T160_⟩⟩, cnt_lt (k := (k : Int)) (k' := ((k : Int) + (1 : Int))) (by kernel_rfl) (by kernel_rfl) (by omega) (by omega)⟩
            · -- not there
              refine at_run (.tuple #[(.int .i64 0), (.bool false)]) _ (by kernel_rfl) ((run_lookup (w := w141_) (t := 51) (e := 3) askKeyLaw (.tmp 47) (.tmp 48) (.agg x.cells) (.int .i64 0) (by kernel_rfl) (by kernel_rfl) (by kernel_rfl) (by kernel_rfl) (by kernel_rfl) h150_ (askKeyOf x)).1 (kvI_no hx)) ?_
              refine at_pures 8 (by kernel_rfl) (by kernel_rfl) ?_
              refine at_done (by kernel_rfl) ?_
              refine then_n ?_
              refine c_seq [1, 1, 1, 1, 1, 0, 1, 0, 0, 1, 1, 0, 0, 1, 1, 1, 0, 1, 0] [1, 1, 1, 1, 1, 0, 1, 0, 0, 1, 1, 0, 0, 1, 1, 1, 0, 1, 1] (by kernel_rfl) ?_
              refine c_reg 15 tagKnows_c_R15 (by kernel_rfl) ?_
              refine at_pures 4 (by kernel_rfl) (by kernel_rfl) ?_
              refine at_run (.int .i64 ((kvI ks).length : Int)) _ (by kernel_rfl) (run_lenMap (t := 51) (e := 3) (.tmp 55) (by kernel_rfl) (by kernel_rfl) (by kernel_rfl) h150_) ?_
              refine at_pures 8 (by kernel_rfl) (by kernel_rfl) ?_
              refine at_done (by kernel_rfl) ?_
              refine then_n ?_
              refine c_if (.tmp 59) (decide (((kvI ks).length : Int) < (room : Int))) [1, 1, 1, 1, 1, 0, 1, 0, 0, 1, 1, 0, 0, 1, 1, 1, 0, 1, 1, 0] [1, 1, 1, 1, 1, 0, 1, 0, 0, 1, 1, 0, 0, 1, 1, 1, 0, 1, 1, 1] (by kernel_rfl) (by kernel_rfl) (fun c169_ => ?_) (fun c169_ => ?_)
              · -- yes
                replace c169_ : ((kvI ks).length : Int) < (room : Int) := of_decide_eq_true c169_
                refine c_reg 16 tagKnows_c_R16 (by kernel_rfl) ?_
                refine at_pures 1 (by kernel_rfl) (by kernel_rfl) ?_
                refine at_loadN 53 (.tmp 8) b56_ 0 33 _ _ _ (TKey.cells x) (by kernel_rfl) (by kernel_rfl) (by kernel_rfl) (by kernel_rfl) (by kernel_rfl) h151_ (by kernel_rfl) (by kernel_rfl) ?_
                refine at_do (by kernel_rfl) (op_update (t := 51) (e := 3) askKeyLaw (.tmp 60) (.tmp 61) (.const (.int .i64 1)) (.agg x.cells) (.int .i64 1) (by kernel_rfl) (by kernel_rfl) (by kernel_rfl) (by kernel_rfl) (by kernel_rfl) h150_ (askKeyOf x) (kvI_no hx) (fun w170_ h171_ z172_ F173_ => ?_))
                rw [kvI_snoc] at h171_
                have T174_ := Fr.then T145_ F173_ N42_
                have h175_ := Rd.keep' h146_ F173_ (Dis.sym d38_)
                have h176_ := Rd.keep' h147_ F173_ (Dis.sym d39_)
                have h177_ := Rd.keep' h148_ F173_ (Dis.sym d40_)
                have h178_ := MemoAt.keep h149_ F173_ d111_
                have h179_ := Fr.keep F173_ h151_ d65_
                have h180_ := Fr.keep F173_ h152_ d126_
                have h181_ := RowsAt.keep h153_ F173_ (Dis.or d126_ (Sub.dis Sub.arOne d65_))
                refine at_done (by kernel_rfl) ?_
                refine then_n ?_
                refine c_seq [1, 1, 1, 1, 1, 0, 1, 0, 0, 1, 1, 0, 0, 1, 1, 1, 1, 0] [1, 1, 1, 1, 1, 0, 1, 0, 0, 1, 1, 0, 0, 1, 1, 1, 1, 1] (by kernel_rfl) ?_
                refine c_reg 17 tagKnows_c_R17 (by kernel_rfl) ?_
                refine at_pures 1 (by kernel_rfl) (by kernel_rfl) ?_
                have ek : addK ks x room = ks ++ [x] := if_neg (fun h => h.elim hx (by rw [kvI_length] at *; omega))
                have h182_ : MapAt Tryd.prog 53 w170_ b33_ (kvI (addK ks x room)) := by rw [ek]; exact h171_
                refine at_do (by kernel_rfl) (op_call 28 #[(.tmp 62)] #[(.pointer (some ⟨bm12_, 0, none⟩))] (by kernel_rfl) (by kernel_rfl) (by kernel_rfl) ?_)
                have C187_ := known_c bm12_ mb13_ room (addK ks x room) lastmemo94_ foundmemo95_ askedmemo96_ w170_ h178_  
                refine Calls.mono C187_ ?_
                rintro e186_ w184_ ⟨rfl, F185_⟩
                refine ⟨_, rfl, ?_⟩
                have T188_ := Fr.tr T174_ F185_
                have h189_ := Rd.keep' h175_ F185_ Dis.n0
                have h190_ := Rd.keep' h176_ F185_ Dis.n0
                have h191_ := Rd.keep' h177_ F185_ Dis.n0
                have h192_ := MemoAt.keep h178_ F185_ Dis.n0
                have h193_ := MapAt.keep h182_ F185_ Dis.n0
                have h194_ := Fr.keep F185_ h179_ Dis.n0
                have h195_ := Fr.keep F185_ h180_ Dis.n0
                have h196_ := RowsAt.keep h181_ F185_ Dis.n0
                refine at_pures 3 (by kernel_rfl) (by kernel_rfl) ?_
                refine at_run (.int .i64 ((kvI (addK ks x room)).length : Int)) _ (by kernel_rfl) (run_lenMap (t := 51) (e := 3) (.tmp 64) (by kernel_rfl) (by kernel_rfl) (by kernel_rfl) h193_) ?_
                refine at_as (.bool (((addK ks x room).length : Int) != ((kvI (addK ks x room)).length : Int))) (.bool false) (by kernel_rfl) (by kernel_rfl) (by rw [kvI_length]; exact congrArg Value.bool (bne_self_eq_false _)) ?_
                refine at_done (by kernel_rfl) ?_
                refine then_n ?_
                refine c_else (.tmp 66) [1, 1, 1, 1, 1, 0, 1, 0, 0, 1, 1, 0, 0, 1, 1, 1, 1, 1, 0] [1, 1, 1, 1, 1, 0, 1, 0, 0, 1, 1, 0, 0, 1, 1, 1, 1, 1, 1] (by kernel_rfl) (by kernel_rfl) ?_
                refine c_skip (by kernel_rfl) ?_
                refine blk_n ?_
                refine then_n ?_
                refine c_reg 19 tagKnows_c_R19 (by kernel_rfl) ?_
                refine at_int (kd := .i64) (IntKind.i64.wrap ((k : Int) + (1 : Int))) ((k : Int) + (1 : Int)) (by kernel_rfl) (by kernel_rfl) (wrapN_i64 (by omega) (by omega)) ?_
                refine at_pures 2 (by kernel_rfl) (by kernel_rfl) ?_
                refine at_done (by kernel_rfl) ?_
                refine then_n ?_
                exact ⟨⟨k + 1, (addK ks x room), lastmemo94_, foundmemo95_, askedmemo96_, is_mk (by kernel_rfl) (by kernel_rfl) (by kernel_rfl), ⟨(by omega), (by have := addK_length ks x room; omega), h189_, h190_, h191_, h192_, h193_, T188_⟩⟩, cnt_lt (k := (k : Int)) (k' := ((k : Int) + (1 : Int))) (by kernel_rfl) (by kernel_rfl) (by omega) (by omega)⟩
              · -- no
                replace c169_ : ¬ (((kvI ks).length : Int) < (room : Int)) := of_decide_eq_false c169_
                refine c_skip (by kernel_rfl) ?_
                refine then_n ?_
                refine c_seq [1, 1, 1, 1, 1, 0, 1, 0, 0, 1, 1, 0, 0, 1, 1, 1, 1, 0] [1, 1, 1, 1, 1, 0, 1, 0, 0, 1, 1, 0, 0, 1, 1, 1, 1, 1] (by kernel_rfl) ?_
                refine c_reg 17 tagKnows_c_R17 (by kernel_rfl) ?_
                refine at_pures 1 (by kernel_rfl) (by kernel_rfl) ?_
                have ek : addK ks x room = ks := if_pos (.inr (by rw [kvI_length] at *; omega))
                have h197_ : MapAt Tryd.prog 53 w141_ b33_ (kvI (addK ks x room)) := by rw [ek]; exact h150_
                refine at_do (by kernel_rfl) (op_call 28 #[(.tmp 62)] #[(.pointer (some ⟨bm12_, 0, none⟩))] (by kernel_rfl) (by kernel_rfl) (by kernel_rfl) ?_)
                have C202_ := known_c bm12_ mb13_ room (addK ks x room) lastmemo94_ foundmemo95_ askedmemo96_ w141_ h149_  
                refine Calls.mono C202_ ?_
                rintro e201_ w199_ ⟨rfl, F200_⟩
                refine ⟨_, rfl, ?_⟩
                have T203_ := Fr.tr T145_ F200_
                have h204_ := Rd.keep' h146_ F200_ Dis.n0
                have h205_ := Rd.keep' h147_ F200_ Dis.n0
                have h206_ := Rd.keep' h148_ F200_ Dis.n0
                have h207_ := MemoAt.keep h149_ F200_ Dis.n0
                have h208_ := MapAt.keep h197_ F200_ Dis.n0
                have h209_ := Fr.keep F200_ h151_ Dis.n0
                have h210_ := Fr.keep F200_ h152_ Dis.n0
                have h211_ := RowsAt.keep h153_ F200_ Dis.n0
                refine at_pures 3 (by kernel_rfl) (by kernel_rfl) ?_
                refine at_run (.int .i64 ((kvI (addK ks x room)).length : Int)) _ (by kernel_rfl) (run_lenMap (t := 51) (e := 3) (.tmp 64) (by kernel_rfl) (by kernel_rfl) (by kernel_rfl) h208_) ?_
                refine at_as (.bool (((addK ks x room).length : Int) != ((kvI (addK ks x room)).length : Int))) (.bool false) (by kernel_rfl) (by kernel_rfl) (by rw [kvI_length]; exact congrArg Value.bool (bne_self_eq_false _)) ?_
                refine at_done (by kernel_rfl) ?_
                refine then_n ?_
                refine c_else (.tmp 66) [1, 1, 1, 1, 1, 0, 1, 0, 0, 1, 1, 0, 0, 1, 1, 1, 1, 1, 0] [1, 1, 1, 1, 1, 0, 1, 0, 0, 1, 1, 0, 0, 1, 1, 1, 1, 1, 1] (by kernel_rfl) (by kernel_rfl) ?_
                refine c_skip (by kernel_rfl) ?_
                refine blk_n ?_
                refine then_n ?_
                refine c_reg 19 tagKnows_c_R19 (by kernel_rfl) ?_
                refine at_int (kd := .i64) (IntKind.i64.wrap ((k : Int) + (1 : Int))) ((k : Int) + (1 : Int)) (by kernel_rfl) (by kernel_rfl) (wrapN_i64 (by omega) (by omega)) ?_
                refine at_pures 2 (by kernel_rfl) (by kernel_rfl) ?_
                refine at_done (by kernel_rfl) ?_
                refine then_n ?_
                exact ⟨⟨k + 1, (addK ks x room), lastmemo94_, foundmemo95_, askedmemo96_, is_mk (by kernel_rfl) (by kernel_rfl) (by kernel_rfl), ⟨(by omega), (by have := addK_length ks x room; omega), h204_, h205_, h206_, h207_, h208_, T203_⟩⟩, cnt_lt (k := (k : Int)) (k' := ((k : Int) + (1 : Int))) (by kernel_rfl) (by kernel_rfl) (by omega) (by omega)⟩
          · -- first number 10
            refine pl_do 10 (by kernel_rfl) (by kernel_rfl) (op_new (.cells #[(.slice (some ⟨b56_, 1, none⟩) 32 32)] 22) (fun N => (.slice (some ⟨N, 0, none⟩) 1 1)) (fun _ => by kernel_rfl) (fun w213_ b212_ h214_ q215_ F216_ => ?_))
            have h217_ := Rd.keep' h78_ F85_ Dis.n0
            have d218_ : Dis (One b212_) (Ar ao (cellsK qs)) := Dis.fresh (New.one q215_) (Rd.in h217_)
            have h219_ := Rd.keep' h79_ F85_ Dis.n0
            have d220_ : Dis (One b212_) (Ar (some ⟨0, 0, none⟩) ((hw KL).toList)) := Dis.fresh (New.one q215_) (Rd.in h219_)
            have h221_ := Rd.keep' h80_ F85_ Dis.n0
            have d222_ : Dis (One b212_) (Ar (some ⟨1, 0, none⟩) ((hw KL).toList)) := Dis.fresh (New.one q215_) (Rd.in h221_)
            have h223_ := MemoAt.keep h81_ F85_ Dis.n0
            have d224_ : Dis (One b212_) (Or2 (One bm12_) (One mb13_)) := Dis.fresh (New.one q215_) (MemoAt.in h223_)
            have h225_ := MapAt.keep h82_ F85_ Dis.n0
            have d226_ : Dis (One b212_) (One b33_) := Dis.fresh (New.one q215_) (MapAt.in h225_)
            have d227_ : Dis (One b212_) (One b56_) := Dis.fresh (New.one q215_) (In.one h88_)
            have N228_ : New w N0 (One b212_) := New.made q215_ (Fr.size T86_)
            have T229_ := Fr.tr T86_ F216_
            have h230_ := Fr.keep F216_ h88_ Dis.n0
            have S231_ : w213_.heap[b56_]? = some (.cells (TKey.cells x) 53 (0, 0)) ∧ True := ⟨h230_, trivial⟩
            refine ⟨fun _ => S231_, ?_⟩
            have h232_ := Rd.keep' h217_ F216_ Dis.n0
            have h233_ := Rd.keep' h219_ F216_ Dis.n0
            have h234_ := Rd.keep' h221_ F216_ Dis.n0
            have h235_ := MemoAt.keep h223_ F216_ Dis.n0
            have h236_ := MapAt.keep h225_ F216_ Dis.n0
            refine pl_do 5 (by kernel_rfl) (by kernel_rfl) (op_call 27 #[(.tmp 33), (.tmp 35), (.tmp 37)] #[(.pointer (some ⟨bm12_, 0, none⟩)), (.string x.s), (.agg (hv x.h))] (by kernel_rfl) (by kernel_rfl) (by kernel_rfl) ?_)
            have C246_ := memoof_c bm12_ mb13_ room ks last found asked x w213_ h235_ h234_ (Dis.sym d26_) (by first | omega | with_reducible assumption | (simp only [List.length_append, List.length_cons, List.length_nil, putB_length]; omega) | decide) (by first | omega | with_reducible assumption | (simp only [List.length_append, List.length_cons, List.length_nil, putB_length]; omega) | decide)
            refine Calls.mono C246_ ?_
            rintro e245_ w243_ ⟨lastmemo237_, foundmemo238_, askedmemo239_, rfl, h240_, F244_, h242_⟩
            refine ⟨_, rfl, ?_⟩
            have T247_ := Fr.then T229_ F244_ N32_
            have d248_ : Dis (Or2 (One bm12_) (One mb13_)) (Ar ao (cellsK qs)) := Dis.step d24_ h242_ (Rd.in h232_)
            have h249_ := Rd.keep' h232_ F244_ (Dis.sym d24_)
            have d250_ : Dis (Or2 (One bm12_) (One mb13_)) (Ar (some ⟨0, 0, none⟩) ((hw KL).toList)) := Dis.step d25_ h242_ (Rd.in h233_)
            have h251_ := Rd.keep' h233_ F244_ (Dis.sym d25_)
            have d252_ : Dis (Or2 (One bm12_) (One mb13_)) (Ar (some ⟨1, 0, none⟩) ((hw KL).toList)) := Dis.step d26_ h242_ (Rd.in h234_)
            have h253_ := Rd.keep' h234_ F244_ (Dis.sym d26_)
            have d254_ : Dis (Or2 (One bm12_) (One mb13_)) (One b33_) := Dis.step (Dis.sym d41_) h242_ (MapAt.in h236_)
            have h255_ := MapAt.keep h236_ F244_ d41_
            have d256_ : Dis (Or2 (One bm12_) (One mb13_)) (One b56_) := Dis.step (Dis.sym d64_) h242_ (In.one h230_)
            have h257_ := Fr.keep F244_ h230_ d64_
            have d258_ : Dis (Or2 (One bm12_) (One mb13_)) (One b212_) := Dis.step (Dis.sym d224_) h242_ (In.one h214_)
            have h259_ := Fr.keep F244_ h214_ d224_
            have N260_ : New w N0 (Or2 (One bm12_) (One mb13_)) := New.trans N32_ h242_ (Fr.size T229_)
            have S261_ : w243_.heap[b56_]? = some (.cells (TKey.cells x) 53 (0, 0)) ∧ True := ⟨h257_, trivial⟩
            refine ⟨fun _ => S261_, ?_⟩
            have h264_ : (((TKey.cells x)).toList.drop 1).take 32 = B x.h := Eq.trans (by kernel_rfl) (hv_B x.hl)
            have h262_ : RowsAt (Or2 (One b212_) (Ar (some ⟨b56_, 1, none⟩) (B x.h))) w243_ (some ⟨b212_, 0, none⟩) [⟨(some ⟨b56_, 1, none⟩), 32, x.h⟩] := RowsAt.one h259_ (by rw [x.hl]) (Rd.of_cut (xs := B x.h) h257_ 1 32 h264_) (Sub.refl _) (Rd.in (Rd.of_cut (xs := B x.h) h257_ 1 32 h264_)) (by first | assumption | exact Byt.nil | exact tagL_byt _ _ | exact tagK_byt _ | exact shaL_byt _ | exact Byt.all (by kernel_rfl)) (by first | assumption | omega | exact Nat.le_refl _ | exact Nat.le_of_eq x.hl| decide) (by first | assumption | (simp only [maxLen]; omega) | decide)
            refine pl_do 11 (by kernel_rfl) (by kernel_rfl) (op_call 24 #[(.tmp 40), (.tmp 43)] #[(.string x.s), (.slice (some ⟨b212_, 0, none⟩) 1 1)] (by kernel_rfl) (by kernel_rfl) (by kernel_rfl) ?_)
            have C269_ := tagof_c x.s (Or2 (One b212_) (Ar (some ⟨b56_, 1, none⟩) (B x.h))) (some ⟨b212_, 0, none⟩) 1 ([⟨(some ⟨b56_, 1, none⟩), 32, x.h⟩] : List BSl) w243_ h262_ h253_  (by first | omega | with_reducible assumption | (simp only [List.length_append, List.length_cons, List.length_nil, putB_length]; omega) | decide) (by exact parts1_le (by rw [x.hl]; decide))
            refine Calls.mono C269_ ?_
            rintro e268_ w266_ ⟨rfl, F267_⟩
            refine ⟨_, rfl, ?_⟩
            have T270_ := Fr.tr T247_ F267_
            have h271_ := Rd.keep' h249_ F267_ Dis.n0
            have h272_ := Rd.keep' h251_ F267_ Dis.n0
            have h273_ := Rd.keep' h253_ F267_ Dis.n0
            have h274_ := MemoAt.keep h240_ F267_ Dis.n0
            have h275_ := MapAt.keep h255_ F267_ Dis.n0
            have h276_ := Fr.keep F267_ h257_ Dis.n0
            have h277_ := Fr.keep F267_ h259_ Dis.n0
            have h278_ := RowsAt.keep h262_ F267_ Dis.n0
            refine ⟨off (by kernel_rfl), ?_⟩
            refine pl_quiet 12 (.bool false) (by kernel_rfl) (by kernel_rfl) (fun w' => run_neq_hash_self 25 (.tmp 38) (.tmp 44) (tagK x) (by kernel_rfl) (by kernel_rfl) (by kernel_rfl) (by kernel_rfl) (by kernel_rfl) (by kernel_rfl) (tagK_length _) (tagK_byt _)) (off (by kernel_rfl)) ?_
            refine pl_done (by kernel_rfl) ?_
            refine then_n ?_
            refine c_else (.tmp 45) [1, 1, 1, 1, 1, 0, 1, 0, 0, 1, 1, 0, 0, 1, 1, 0, 1, 0] [1, 1, 1, 1, 1, 0, 1, 0, 0, 1, 1, 0, 0, 1, 1, 0, 1, 1] (by kernel_rfl) (by kernel_rfl) ?_
            refine c_skip (by kernel_rfl) ?_
            refine then_n ?_
            refine c_seq [1, 1, 1, 1, 1, 0, 1, 0, 0, 1, 1, 0, 0, 1, 1, 1, 0] [1, 1, 1, 1, 1, 0, 1, 0, 0, 1, 1, 0, 0, 1, 1, 1, 1] (by kernel_rfl) ?_
            refine c_seq [1, 1, 1, 1, 1, 0, 1, 0, 0, 1, 1, 0, 0, 1, 1, 1, 0, 0] [1, 1, 1, 1, 1, 0, 1, 0, 0, 1, 1, 0, 0, 1, 1, 1, 0, 1] (by kernel_rfl) ?_
            refine c_reg 14 tagKnows_c_R14 (by kernel_rfl) ?_
            refine at_pures 1 (by kernel_rfl) (by kernel_rfl) ?_
            refine at_loadN 53 (.tmp 8) b56_ 0 33 _ _ _ (TKey.cells x) (by kernel_rfl) (by kernel_rfl) (by kernel_rfl) (by kernel_rfl) (by kernel_rfl) h276_ (by kernel_rfl) (by kernel_rfl) ?_
            by_cases hx : x ∈ ks
            · -- there
              refine at_run (.tuple #[(.int .i64 1), (.bool true)]) _ (by kernel_rfl) ((run_lookup (w := w266_) (t := 51) (e := 3) askKeyLaw (.tmp 47) (.tmp 48) (.agg x.cells) (.int .i64 0) (by kernel_rfl) (by kernel_rfl) (by kernel_rfl) (by kernel_rfl) (by kernel_rfl) h275_ (askKeyOf x)).2 _ (kvI_in hx).1 (kvI_in hx).2) ?_
              refine at_pures 8 (by kernel_rfl) (by kernel_rfl) ?_
              refine at_done (by kernel_rfl) ?_
              refine then_n ?_
              refine c_seq [1, 1, 1, 1, 1, 0, 1, 0, 0, 1, 1, 0, 0, 1, 1, 1, 0, 1, 0] [1, 1, 1, 1, 1, 0, 1, 0, 0, 1, 1, 0, 0, 1, 1, 1, 0, 1, 1] (by kernel_rfl) ?_
              refine c_reg 15 tagKnows_c_R15 (by kernel_rfl) ?_
              refine at_pures 8 (by kernel_rfl) (by kernel_rfl) ?_
              refine at_done (by kernel_rfl) ?_
              refine then_n ?_
              refine c_else (.tmp 59) [1, 1, 1, 1, 1, 0, 1, 0, 0, 1, 1, 0, 0, 1, 1, 1, 0, 1, 1, 0] [1, 1, 1, 1, 1, 0, 1, 0, 0, 1, 1, 0, 0, 1, 1, 1, 0, 1, 1, 1] (by kernel_rfl) (by kernel_rfl) ?_
              refine c_skip (by kernel_rfl) ?_
              refine then_n ?_
              refine c_seq [1, 1, 1, 1, 1, 0, 1, 0, 0, 1, 1, 0, 0, 1, 1, 1, 1, 0] [1, 1, 1, 1, 1, 0, 1, 0, 0, 1, 1, 0, 0, 1, 1, 1, 1, 1] (by kernel_rfl) ?_
              refine c_reg 17 tagKnows_c_R17 (by kernel_rfl) ?_
              refine at_pures 1 (by kernel_rfl) (by kernel_rfl) ?_
              have ek : addK ks x room = ks := if_pos (.inl hx)
              have h279_ : MapAt Tryd.prog 53 w266_ b33_ (kvI (addK ks x room)) := by rw [ek]; exact h275_
              refine at_do (by kernel_rfl) (op_call 28 #[(.tmp 62)] #[(.pointer (some ⟨bm12_, 0, none⟩))] (by kernel_rfl) (by kernel_rfl) (by kernel_rfl) ?_)
              have C284_ := known_c bm12_ mb13_ room (addK ks x room) lastmemo237_ foundmemo238_ askedmemo239_ w266_ h274_  
              refine Calls.mono C284_ ?_
              rintro e283_ w281_ ⟨rfl, F282_⟩
              refine ⟨_, rfl, ?_⟩
              have T285_ := Fr.tr T270_ F282_
              have h286_ := Rd.keep' h271_ F282_ Dis.n0
              have h287_ := Rd.keep' h272_ F282_ Dis.n0
              have h288_ := Rd.keep' h273_ F282_ Dis.n0
              have h289_ := MemoAt.keep h274_ F282_ Dis.n0
              have h290_ := MapAt.keep h279_ F282_ Dis.n0
              have h291_ := Fr.keep F282_ h276_ Dis.n0
              have h292_ := Fr.keep F282_ h277_ Dis.n0
              have h293_ := RowsAt.keep h278_ F282_ Dis.n0
              refine at_pures 3 (by kernel_rfl) (by kernel_rfl) ?_
              refine at_run (.int .i64 ((kvI (addK ks x room)).length : Int)) _ (by kernel_rfl) (run_lenMap (t := 51) (e := 3) (.tmp 64) (by kernel_rfl) (by kernel_rfl) (by kernel_rfl) h290_) ?_
              refine at_as (.bool (((addK ks x room).length : Int) != ((kvI (addK ks x room)).length : Int))) (.bool false) (by kernel_rfl) (by kernel_rfl) (by rw [kvI_length]; exact congrArg Value.bool (bne_self_eq_false _)) ?_
              refine at_done (by kernel_rfl) ?_
              refine then_n ?_
              refine c_else (.tmp 66) [1, 1, 1, 1, 1, 0, 1, 0, 0, 1, 1, 0, 0, 1, 1, 1, 1, 1, 0] [1, 1, 1, 1, 1, 0, 1, 0, 0, 1, 1, 0, 0, 1, 1, 1, 1, 1, 1] (by kernel_rfl) (by kernel_rfl) ?_
              refine c_skip (by kernel_rfl) ?_
              refine blk_n ?_
              refine then_n ?_
              refine c_reg 19 tagKnows_c_R19 (by kernel_rfl) ?_
              refine at_int (kd := .i64) (IntKind.i64.wrap ((k : Int) + (1 : Int))) ((k : Int) + (1 : Int)) (by kernel_rfl) (by kernel_rfl) (wrapN_i64 (by omega) (by omega)) ?_
              refine at_pures 2 (by kernel_rfl) (by kernel_rfl) ?_
              refine at_done (by kernel_rfl) ?_
              refine then_n ?_
              exact ⟨⟨k + 1, (addK ks x room), lastmemo237_, foundmemo238_, askedmemo239_, is_mk (by kernel_rfl) (by kernel_rfl) (by kernel_rfl), ⟨(by omega), (by have := addK_length ks x room; omega), h286_, h287_, h288_, h289_, h290_, T285_⟩⟩, cnt_lt (k := (k : Int)) (k' := ((k : Int) + (1 : Int))) (by kernel_rfl) (by kernel_rfl) (by omega) (by omega)⟩
            · -- not there
              refine at_run (.tuple #[(.int .i64 0), (.bool false)]) _ (by kernel_rfl) ((run_lookup (w := w266_) (t := 51) (e := 3) askKeyLaw (.tmp 47) (.tmp 48) (.agg x.cells) (.int .i64 0) (by kernel_rfl) (by kernel_rfl) (by kernel_rfl) (by kernel_rfl) (by kernel_rfl) h275_ (askKeyOf x)).1 (kvI_no hx)) ?_
              refine at_pures 8 (by kernel_rfl) (by kernel_rfl) ?_
              refine at_done (by kernel_rfl) ?_
              refine then_n ?_
              refine c_seq [1, 1, 1, 1, 1, 0, 1, 0, 0, 1, 1, 0, 0, 1, 1, 1, 0, 1, 0] [1, 1, 1, 1, 1, 0, 1, 0, 0, 1, 1, 0, 0, 1, 1, 1, 0, 1, 1] (by kernel_rfl) ?_
              refine c_reg 15 tagKnows_c_R15 (by kernel_rfl) ?_
              refine at_pures 4 (by kernel_rfl) (by kernel_rfl) ?_
              refine at_run (.int .i64 ((kvI ks).length : Int)) _ (by kernel_rfl) (run_lenMap (t := 51) (e := 3) (.tmp 55) (by kernel_rfl) (by kernel_rfl) (by kernel_rfl) h275_) ?_
              refine at_pures 8 (by kernel_rfl) (by kernel_rfl) ?_
              refine at_done (by kernel_rfl) ?_
              refine then_n ?_
              refine c_if (.tmp 59) (decide (((kvI ks).length : Int) < (room : Int))) [1, 1, 1, 1, 1, 0, 1, 0, 0, 1, 1, 0, 0, 1, 1, 1, 0, 1, 1, 0] [1, 1, 1, 1, 1, 0, 1, 0, 0, 1, 1, 0, 0, 1, 1, 1, 0, 1, 1, 1] (by kernel_rfl) (by kernel_rfl) (fun c294_ => ?_) (fun c294_ => ?_)
              · -- yes
                replace c294_ : ((kvI ks).length : Int) < (room : Int) := of_decide_eq_true c294_
                refine c_reg 16 tagKnows_c_R16 (by kernel_rfl) ?_
                refine at_pures 1 (by kernel_rfl) (by kernel_rfl) ?_
                refine at_loadN 53 (.tmp 8) b56_ 0 33 _ _ _ (TKey.cells x) (by kernel_rfl) (by kernel_rfl) (by kernel_rfl) (by kernel_rfl) (by kernel_rfl) h276_ (by kernel_rfl) (by kernel_rfl) ?_
                refine at_do (by kernel_rfl) (op_update (t := 51) (e := 3) askKeyLaw (.tmp 60) (.tmp 61) (.const (.int .i64 1)) (.agg x.cells) (.int .i64 1) (by kernel_rfl) (by kernel_rfl) (by kernel_rfl) (by kernel_rfl) (by kernel_rfl) h275_ (askKeyOf x) (kvI_no hx) (fun w295_ h296_ z297_ F298_ => ?_))
                rw [kvI_snoc] at h296_
                have T299_ := Fr.then T270_ F298_ N42_
                have h300_ := Rd.keep' h271_ F298_ (Dis.sym d38_)
                have h301_ := Rd.keep' h272_ F298_ (Dis.sym d39_)
                have h302_ := Rd.keep' h273_ F298_ (Dis.sym d40_)
                have h303_ := MemoAt.keep h274_ F298_ d254_
                have h304_ := Fr.keep F298_ h276_ d65_
                have h305_ := Fr.keep F298_ h277_ d226_
                have h306_ := RowsAt.keep h278_ F298_ (Dis.or d226_ (Sub.dis Sub.arOne d65_))
                refine at_done (by kernel_rfl) ?_
                refine then_n ?_
                refine c_seq [1, 1, 1, 1, 1, 0, 1, 0, 0, 1, 1, 0, 0, 1, 1, 1, 1, 0] [1, 1, 1, 1, 1, 0, 1, 0, 0, 1, 1, 0, 0, 1, 1, 1, 1, 1] (by kernel_rfl) ?_
                refine c_reg 17 tagKnows_c_R17 (by kernel_rfl) ?_
                refine at_pures 1 (by kernel_rfl) (by kernel_rfl) ?_
                have ek : addK ks x room = ks ++ [x] := if_neg (fun h => h.elim hx (by rw [kvI_length] at *; omega))
                have h307_ : MapAt Tryd.prog 53 w295_ b33_ (kvI (addK ks x room)) := by rw [ek]; exact h296_
                refine at_do (by kernel_rfl) (op_call 28 #[(.tmp 62)] #[(.pointer (some ⟨bm12_, 0, none⟩))] (by kernel_rfl) (by kernel_rfl) (by kernel_rfl) ?_)
                have C312_ := known_c bm12_ mb13_ room (addK ks x room) lastmemo237_ foundmemo238_ askedmemo239_ w295_ h303_  
                refine Calls.mono C312_ ?_
                rintro e311_ w309_ ⟨rfl, F310_⟩
                refine ⟨_, rfl, ?_⟩
                have T313_ := Fr.tr T299_ F310_
                have h314_ := Rd.keep' h300_ F310_ Dis.n0
                have h315_ := Rd.keep' h301_ F310_ Dis.n0
                have h316_ := Rd.keep' h302_ F310_ Dis.n0
                have h317_ := MemoAt.keep h303_ F310_ Dis.n0
                have h318_ := MapAt.keep h307_ F310_ Dis.n0
                have h319_ := Fr.keep F310_ h304_ Dis.n0
                have h320_ := Fr.keep F310_ h305_ Dis.n0
                have h321_ := RowsAt.keep h306_ F310_ Dis.n0
                refine at_pures 3 (by kernel_rfl) (by kernel_rfl) ?_
                refine at_run (.int .i64 ((kvI (addK ks x room)).length : Int)) _ (by kernel_rfl) (run_lenMap (t := 51) (e := 3) (.tmp 64) (by kernel_rfl) (by kernel_rfl) (by kernel_rfl) h318_) ?_
                refine at_as (.bool (((addK ks x room).length : Int) != ((kvI (addK ks x room)).length : Int))) (.bool false) (by kernel_rfl) (by kernel_rfl) (by rw [kvI_length]; exact congrArg Value.bool (bne_self_eq_false _)) ?_
                refine at_done (by kernel_rfl) ?_
                refine then_n ?_
                refine c_else (.tmp 66) [1, 1, 1, 1, 1, 0, 1, 0, 0, 1, 1, 0, 0, 1, 1, 1, 1, 1, 0] [1, 1, 1, 1, 1, 0, 1, 0, 0, 1, 1, 0, 0, 1, 1, 1, 1, 1, 1] (by kernel_rfl) (by kernel_rfl) ?_
                refine c_skip (by kernel_rfl) ?_
                refine blk_n ?_
                refine then_n ?_
                refine c_reg 19 tagKnows_c_R19 (by kernel_rfl) ?_
                refine at_int (kd := .i64) (IntKind.i64.wrap ((k : Int) + (1 : Int))) ((k : Int) + (1 : Int)) (by kernel_rfl) (by kernel_rfl) (wrapN_i64 (by omega) (by omega)) ?_
                refine at_pures 2 (by kernel_rfl) (by kernel_rfl) ?_
                refine at_done (by kernel_rfl) ?_
                refine then_n ?_
                exact ⟨⟨k + 1, (addK ks x room), lastmemo237_, foundmemo238_, askedmemo239_, is_mk (by kernel_rfl) (by kernel_rfl) (by kernel_rfl), ⟨(by omega), (by have := addK_length ks x room; omega), h314_, h315_, h316_, h317_, h318_, T313_⟩⟩, cnt_lt (k := (k : Int)) (k' := ((k : Int) + (1 : Int))) (by kernel_rfl) (by kernel_rfl) (by omega) (by omega)⟩
              · -- no
                replace c294_ : ¬ (((kvI ks).length : Int) < (room : Int)) := of_decide_eq_false c294_
                refine c_skip (by kernel_rfl) ?_
                refine then_n ?_
                refine c_seq [1, 1, 1, 1, 1, 0, 1, 0, 0, 1, 1, 0, 0, 1, 1, 1, 1, 0] [1, 1, 1, 1, 1, 0, 1, 0, 0, 1, 1, 0, 0, 1, 1, 1, 1, 1] (by kernel_rfl) ?_
                refine c_reg 17 tagKnows_c_R17 (by kernel_rfl) ?_
                refine at_pures 1 (by kernel_rfl) (by kernel_rfl) ?_
                have ek : addK ks x room = ks := if_pos (.inr (by rw [kvI_length] at *; omega))
                have h322_ : MapAt Tryd.prog 53 w266_ b33_ (kvI (addK ks x room)) := by rw [ek]; exact h275_
                refine at_do (by kernel_rfl) (op_call 28 #[(.tmp 62)] #[(.pointer (some ⟨bm12_, 0, none⟩))] (by kernel_rfl) (by kernel_rfl) (by kernel_rfl) ?_)
                have C327_ := known_c bm12_ mb13_ room (addK ks x room) lastmemo237_ foundmemo238_ askedmemo239_ w266_ h274_  
                refine Calls.mono C327_ ?_
                rintro e326_ w324_ ⟨rfl, F325_⟩
                refine ⟨_, rfl, ?_⟩
                have T328_ := Fr.tr T270_ F325_
                have h329_ := Rd.keep' h271_ F325_ Dis.n0
                have h330_ := Rd.keep' h272_ F325_ Dis.n0
                have h331_ := Rd.keep' h273_ F325_ Dis.n0
                have h332_ := MemoAt.keep h274_ F325_ Dis.n0
                have h333_ := MapAt.keep h322_ F325_ Dis.n0
                have h334_ := Fr.keep F325_ h276_ Dis.n0
                have h335_ := Fr.keep F325_ h277_ Dis.n0
                have h336_ := RowsAt.keep h278_ F325_ Dis.n0
                refine at_pures 3 (by kernel_rfl) (by kernel_rfl) ?_
                refine at_run (.int .i64 ((kvI (addK ks x room)).length : Int)) _ (by kernel_rfl) (run_lenMap (t := 51) (e := 3) (.tmp 64) (by kernel_rfl) (by kernel_rfl) (by kernel_rfl) h333_) ?_
                refine at_as (.bool (((addK ks x room).length : Int) != ((kvI (addK ks x room)).length : Int))) (.bool false) (by kernel_rfl) (by kernel_rfl) (by rw [kvI_length]; exact congrArg Value.bool (bne_self_eq_false _)) ?_
                refine at_done (by kernel_rfl) ?_
                refine then_n ?_
                refine c_else (.tmp 66) [1, 1, 1, 1, 1, 0, 1, 0, 0, 1, 1, 0, 0, 1, 1, 1, 1, 1, 0] [1, 1, 1, 1, 1, 0, 1, 0, 0, 1, 1, 0, 0, 1, 1, 1, 1, 1, 1] (by kernel_rfl) (by kernel_rfl) ?_
                refine c_skip (by kernel_rfl) ?_
                refine blk_n ?_
                refine then_n ?_
                refine c_reg 19 tagKnows_c_R19 (by kernel_rfl) ?_
                refine at_int (kd := .i64) (IntKind.i64.wrap ((k : Int) + (1 : Int))) ((k : Int) + (1 : Int)) (by kernel_rfl) (by kernel_rfl) (wrapN_i64 (by omega) (by omega)) ?_
                refine at_pures 2 (by kernel_rfl) (by kernel_rfl) ?_
                refine at_done (by kernel_rfl) ?_
                refine then_n ?_
                exact ⟨⟨k + 1, (addK ks x room), lastmemo237_, foundmemo238_, askedmemo239_, is_mk (by kernel_rfl) (by kernel_rfl) (by kernel_rfl), ⟨(by omega), (by have := addK_length ks x room; omega), h329_, h330_, h331_, h332_, h333_, T328_⟩⟩, cnt_lt (k := (k : Int)) (k' := ((k : Int) + (1 : Int))) (by kernel_rfl) (by kernel_rfl) (by omega) (by omega)⟩
      · -- no
        replace c53_ : ¬ ((k : Int) < (qs.length : Int)) := of_decide_eq_false c53_
        refine c_exit 0 (by kernel_rfl) ?_
        refine then_e ?_
        refine then_e ?_
        refine blk_hit ?_
        refine then_n ?_
        refine c_seq [1, 1, 1, 1, 1, 1, 0] [1, 1, 1, 1, 1, 1, 1] (by kernel_rfl) ?_
        refine c_reg 20 tagKnows_c_R20 (by kernel_rfl) ?_
        refine at_pures 1 (by kernel_rfl) (by kernel_rfl) ?_
        refine at_done (by kernel_rfl) ?_
        refine then_n ?_
        refine c_ret (by kernel_rfl) ?_
        refine fin_ret (.bool true) (by kernel_rfl) (by kernel_rfl) ?_
        exact ⟨rfl, hFrL49_⟩
end Go.Proofs.YtboggbknebepdaaDoor
