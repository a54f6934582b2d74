/- The walks of layer 3 and of its reference. -/
import Derived.Test.YtokdfjelilhekaaDoorWU
import Derived.Test.YtokdfjelilhekaaDoorLib3
namespace Go.Proofs.YtokdfjelilhekaaDoor
open Go Go.RowKit Go.Alm
noncomputable def image_c_R0 : Array Oper := rAt Tryd.prog 66 [0]
noncomputable def image_c_R1 : Array Oper := rAt Tryd.prog 66 [1, 0, 0]
noncomputable def image_c_R2 : Array Oper := rAt Tryd.prog 66 [1, 0, 1, 0, 0]
noncomputable def image_c_R3 : Array Oper := rAt Tryd.prog 66 [1, 1, 0]
noncomputable def image_c_R4 : Array Oper := rAt Tryd.prog 66 [1, 1, 1, 0]
noncomputable def image_c_R5 : Array Oper := rAt Tryd.prog 66 [1, 1, 1, 1, 0, 0]
noncomputable def image_c_R6 : Array Oper := rAt Tryd.prog 66 [1, 1, 1, 1, 0, 1, 0, 0, 0]
noncomputable def image_c_R7 : Array Oper := rAt Tryd.prog 66 [1, 1, 1, 1, 0, 1, 0, 0, 1, 1, 0, 0, 0]
noncomputable def image_c_R8 : Array Oper := rAt Tryd.prog 66 [1, 1, 1, 1, 0, 1, 0, 0, 1, 1, 0, 0, 1, 0, 0]
noncomputable def image_c_R9 : Array Oper := rAt Tryd.prog 66 [1, 1, 1, 1, 0, 1, 0, 0, 1, 1, 0, 0, 1, 0, 1, 0, 0, 0]
noncomputable def image_c_R10 : Array Oper := rAt Tryd.prog 66 [1, 1, 1, 1, 0, 1, 0, 0, 1, 1, 0, 0, 1, 0, 1, 0, 0, 1, 1, 0, 0, 0]
noncomputable def image_c_R11 : Array Oper := rAt Tryd.prog 66 [1, 1, 1, 1, 0, 1, 0, 0, 1, 1, 0, 0, 1, 0, 1, 0, 0, 1, 1, 0, 0, 1]
noncomputable def image_c_R12 : Array Oper := rAt Tryd.prog 66 [1, 1, 1, 1, 0, 1, 0, 0, 1, 1, 0, 0, 1, 0, 1, 0, 0, 1, 1, 1]
noncomputable def image_c_R13 : Array Oper := rAt Tryd.prog 66 [1, 1, 1, 1, 0, 1, 0, 0, 1, 1, 0, 0, 1, 1]
noncomputable def image_c_R14 : Array Oper := rAt Tryd.prog 66 [1, 1, 1, 1, 0, 1, 0, 0, 1, 1, 1]
noncomputable def image_c_R15 : Array Oper := rAt Tryd.prog 66 [1, 1, 1, 1, 1, 0]
set_option maxRecDepth 100000 in
theorem image_c (s : ByteArray) (fp : Nat → Prop) (ao : Option Addr) (cap : Nat) (ls : List BSl) (w : World) (h_ls : RowsAt fp w ao ls) (hn : ls.length ≤ 9223372036854775807) (hls : (partsL ls).length ≤ 800000) :
    Calls Tryd.prog 66 #[(.string s), (.slice ao ls.length cap)] w fun e w' => ∃ (v_out' : Value), e = .returned (.tuple #[v_out', (.int .i64 ((imgE s.size ls.length : Nat) : Int))]) ∧ Row w' 5 1 v_out' ((imgL (sB s) ls).length) (B (imgL (sB s) ls)) ∧ Fr w w' N0 ∧ New w N0 (Own v_out') := by
  refine c_enter (mk 55 [(0, (.string s)), (1, (.slice ao ls.length cap))] (fun _ => undef)) Tryd.func66 (by kernel_rfl) (by kernel_rfl) ?_
  refine c_seq [0] [1] (by kernel_rfl) ?_
  refine c_reg 0 image_c_R0 (by kernel_rfl) ?_
  refine at_pures 2 (by kernel_rfl) (by kernel_rfl) ?_
  refine at_done (by kernel_rfl) ?_
  refine then_n ?_
  refine c_seq [1, 0] [1, 1] (by kernel_rfl) ?_
  refine c_seq [1, 0, 0] [1, 0, 1] (by kernel_rfl) ?_
  refine c_reg 1 image_c_R1 (by kernel_rfl) ?_
  refine at_pures 3 (by kernel_rfl) (by kernel_rfl) ?_
  refine at_split (decide ((s.size : Int) > (255 : Int))) (by kernel_rfl) (by kernel_rfl) (fun c1_ => ?_) (fun c1_ => ?_)
  · -- yes
    replace c1_ : (s.size : Int) > (255 : Int) := of_decide_eq_true c1_
    refine at_pures 8 (by kernel_rfl) (by kernel_rfl) ?_
    refine at_done (by kernel_rfl) ?_
    refine then_n ?_
    refine c_then (.tmp 17) [1, 0, 1, 0] [1, 0, 1, 1] (by kernel_rfl) (by kernel_rfl) ?_
    refine c_seq [1, 0, 1, 0, 0] [1, 0, 1, 0, 1] (by kernel_rfl) ?_
    refine c_reg 2 image_c_R2 (by kernel_rfl) ?_
    refine at_pures 2 (by kernel_rfl) (by kernel_rfl) ?_
    refine at_done (by kernel_rfl) ?_
    refine then_n ?_
    refine c_ret (by kernel_rfl) ?_
    refine then_r ?_
    refine fin_ret (.tuple #[(.slice none 0 0), (.int .i64 4)]) (by kernel_rfl) (by kernel_rfl) ?_
    rw [show (imgL (sB s) ls) = [] from if_pos (by unfold imgBad; first | omega | (rw [sB_length]; omega))]
    have h2_ : Row w 5 1 (.slice none 0 0) 0 [] := Row.nil _ _ _
    exact ⟨(.slice none 0 0), (by rw [show imgE s.size ls.length = 4 from if_pos (by unfold imgBad; first | omega | (rw [sB_length]; omega))]; rfl), h2_, (Fr.refl w N0), (by rw [Own_nil]; exact fun _ h => h.elim)⟩
  · -- no
    replace c1_ : ¬ ((s.size : Int) > (255 : Int)) := of_decide_eq_false c1_
    refine at_pures 8 (by kernel_rfl) (by kernel_rfl) ?_
    refine at_done (by kernel_rfl) ?_
    refine then_n ?_
    refine c_if (.tmp 17) (decide ((ls.length : Int) > (255 : Int))) [1, 0, 1, 0] [1, 0, 1, 1] (by kernel_rfl) (by kernel_rfl) (fun c4_ => ?_) (fun c4_ => ?_)
    · -- yes
      replace c4_ : (ls.length : Int) > (255 : Int) := of_decide_eq_true c4_
      refine c_seq [1, 0, 1, 0, 0] [1, 0, 1, 0, 1] (by kernel_rfl) ?_
      refine c_reg 2 image_c_R2 (by kernel_rfl) ?_
      refine at_pures 2 (by kernel_rfl) (by kernel_rfl) ?_
      refine at_done (by kernel_rfl) ?_
      refine then_n ?_
      refine c_ret (by kernel_rfl) ?_
      refine then_r ?_
      refine fin_ret (.tuple #[(.slice none 0 0), (.int .i64 4)]) (by kernel_rfl) (by kernel_rfl) ?_
      rw [show (imgL (sB s) ls) = [] from if_pos (by unfold imgBad; first | omega | (rw [sB_length]; omega))]
      have h5_ : Row w 5 1 (.slice none 0 0) 0 [] := Row.nil _ _ _
      exact ⟨(.slice none 0 0), (by rw [show imgE s.size ls.length = 4 from if_pos (by unfold imgBad; first | omega | (rw [sB_length]; omega))]; rfl), h5_, (Fr.refl w N0), (by rw [Own_nil]; exact fun _ h => h.elim)⟩
    · -- no
      replace c4_ : ¬ ((ls.length : Int) > (255 : Int)) := of_decide_eq_false c4_
      refine c_skip (by kernel_rfl) ?_
      refine then_n ?_
      refine c_seq [1, 1, 0] [1, 1, 1] (by kernel_rfl) ?_
      refine c_reg 3 image_c_R3 (by kernel_rfl) ?_
      refine at_pures 2 (by kernel_rfl) (by kernel_rfl) ?_
      refine at_int (kd := .u8) (IntKind.u8.wrap ((s.size : Int))) ((s.size : Int)) (by kernel_rfl) (by kernel_rfl) (wrapN_u8 (by omega) (by omega)) ?_
      refine at_do (by kernel_rfl) (op_new (.cells #[(.int .u8 (s.size : Int))] 5) (fun N => (.slice (some ⟨N, 0, none⟩) 1 1)) (fun _ => by kernel_rfl) (fun w8_ b7_ h9_ q10_ F11_ => ?_))
      have d12_ : Dis (One b7_) fp := Dis.fresh (New.one q10_) (RowsAt.in h_ls)
      have N13_ : New w N0 (One b7_) := New.made q10_ (Fr.size (Fr.refl w N0))
      have T14_ := Fr.tr (Fr.refl w N0) F11_
      refine at_pures 5 (by kernel_rfl) (by kernel_rfl) ?_
      have h15_ := RowsAt.keep h_ls F11_ Dis.n0
      have h16_ : Row w8_ 5 1 (.slice (some ⟨b7_, 0, none⟩) 1 1) 1 ((#[(.int .u8 (s.size : Int))]).toList) := Row.made' h9_ (by rfl) (by decide) (by decide) (by rfl)
      refine at_do (by kernel_rfl) (op_append (.tmp 21) (.tmp 22) 64 9 5 1 1 (.int .u8 0) (by kernel_rfl) (by kernel_rfl) (by rfl) (v := (.slice (some ⟨b7_, 0, none⟩) 1 1)) (by kernel_rfl) h16_ (xv := (.string s)) (m := s.size) (news := byteCells s) (by kernel_rfl) (Src.ofString _ (by kernel_rfl) s) (by first | (simp only [maxLen]; omega) | (simp only [maxLen, List.length_append, List.length_cons, List.length_nil, List.length_take, putB_length, headL_length, sB_length]; omega)) (by first | omega | (simp only [List.length_append, List.length_cons, List.length_nil, List.length_take, putB_length, headL_length, sB_length]; omega)) (fun v17_ w18_ h19_ F20_ s21_ => ?_))
      have T22_ := Fr.then T14_ F20_ (New.own N13_)
      have d23_ : Dis (Own v17_) fp := Dis.step (Dis.own d12_) s21_ (RowsAt.in h15_)
      have h24_ := RowsAt.keep h15_ F20_ (Dis.sym (Dis.own d12_))
      have N25_ : New w N0 (Own v17_) := New.trans (New.own N13_) s21_ (Fr.size T14_)
      refine at_pures 7 (by kernel_rfl) (by kernel_rfl) ?_
      refine at_done (by kernel_rfl) ?_
      refine then_n ?_
      refine c_seq [1, 1, 1, 0] [1, 1, 1, 1] (by kernel_rfl) ?_
      refine c_reg 4 image_c_R4 (by kernel_rfl) ?_
      refine at_pures 3 (by kernel_rfl) (by kernel_rfl) ?_
      refine at_int (kd := .u8) (IntKind.u8.wrap ((ls.length : Int))) ((ls.length : Int)) (by kernel_rfl) (by kernel_rfl) (wrapN_u8 (by omega) (by omega)) ?_
      refine at_do (by kernel_rfl) (op_new (.cells #[(.int .u8 (ls.length : Int))] 5) (fun N => (.slice (some ⟨N, 0, none⟩) 1 1)) (fun _ => by kernel_rfl) (fun w27_ b26_ h28_ q29_ F30_ => ?_))
      have d31_ : Dis (One b26_) fp := Dis.fresh (New.one q29_) (RowsAt.in h24_)
      have d32_ : Dis (One b26_) (Own v17_) := Dis.fresh (New.one q29_) (Row.in h19_)
      have N33_ : New w N0 (One b26_) := New.made q29_ (Fr.size T22_)
      have T34_ := Fr.tr T22_ F30_
      have h35_ := RowsAt.keep h24_ F30_ Dis.n0
      have h36_ := Row.keep h19_ F30_ Dis.n0
      refine at_do (by kernel_rfl) (op_append (.tmp 24) (.tmp 28) 64 64 5 1 1 (.int .u8 0) (by kernel_rfl) (by kernel_rfl) (by rfl) (v := v17_) (by kernel_rfl) h36_ (xv := (.slice (some ⟨b26_, 0, none⟩) 1 1)) (m := 1) (news := (#[(.int .u8 (ls.length : Int))]).toList) (by kernel_rfl) (Rd.src (xs := (#[(.int .u8 (ls.length : Int))]).toList) (size := 1) (e := 5) (by kernel_rfl) (Rd.of_cut h28_ 0 1 (by kernel_rfl)) (by kernel_rfl) (by decide) (ones (by kernel_rfl))) (by first | (simp only [maxLen]; omega) | (simp only [maxLen, List.length_append, List.length_cons, List.length_nil, List.length_take, putB_length, headL_length, sB_length]; omega)) (by first | omega | (simp only [List.length_append, List.length_cons, List.length_nil, List.length_take, putB_length, headL_length, sB_length]; omega)) (fun v37_ w38_ h39_ F40_ s41_ => ?_))
      have T42_ := Fr.then T34_ F40_ N25_
      have d43_ : Dis (Own v37_) fp := Dis.step d23_ s41_ (RowsAt.in h35_)
      have h44_ := RowsAt.keep h35_ F40_ (Dis.sym d23_)
      have N45_ : New w N0 (Own v37_) := New.trans N25_ s41_ (Fr.size T34_)
      refine at_pures 7 (by kernel_rfl) (by kernel_rfl) ?_
      refine at_done (by kernel_rfl) ?_
      refine then_n ?_
      refine c_seq [1, 1, 1, 1, 0] [1, 1, 1, 1, 1] (by kernel_rfl) ?_
      refine c_seq [1, 1, 1, 1, 0, 0] [1, 1, 1, 1, 0, 1] (by kernel_rfl) ?_
      refine c_reg 5 image_c_R5 (by kernel_rfl) ?_
      refine at_pures 3 (by kernel_rfl) (by kernel_rfl) ?_
      refine at_done (by kernel_rfl) ?_
      refine then_n ?_
      refine c_block 0 [1, 1, 1, 1, 0, 1, 0] (by kernel_rfl) ?_
      refine c_loop (fun a w' => ∃ (k : Nat), ∃ (vi : Value), (∃ u, a = mk 55 [(0, (.string s)), (1, (.slice ao ls.length cap)), (4, (.slice none 0 0)), (5, (.int .i64 0)), (6, vi), (10, (.string s)), (11, (.int .i64 (s.size : Int))), (12, (.bool (decide ((s.size : Int) > (255 : Int))))), (13, (.bool false)), (14, (.slice ao ls.length cap)), (15, (.int .i64 (ls.length : Int))), (16, (.bool (decide ((ls.length : Int) > (255 : Int))))), (17, (.bool (decide ((ls.length : Int) > (255 : Int))))), (18, (.string s)), (19, (.int .i64 (s.size : Int))), (20, (.int .u8 (s.size : Int))), (21, (.slice (some ⟨b7_, 0, none⟩) 1 1)), (22, (.string s)), (23, v17_), (24, v17_), (25, (.slice ao ls.length cap)), (26, (.int .i64 (ls.length : Int))), (27, (.int .u8 (ls.length : Int))), (28, (.slice (some ⟨b26_, 0, none⟩) 1 1)), (29, v37_), (30, (.slice ao ls.length cap)), (31, (.int .i64 (ls.length : Int))), (32, (.int .i64 (k : Int)))] u) ∧ (k ≤ ls.length) ∧ (RowsAt fp w' ao ls) ∧ (Row w' 5 1 vi ((headL (sB s) ls.length ++ partsL (ls.take k)).length) (B (headL (sB s) ls.length ++ partsL (ls.take k)))) ∧ (Dis fp (Own vi)) ∧ (New w N0 (Own vi)) ∧ (Fr w w' N0)) (fun a _ => cnt (ls.length) 32 a) [1, 1, 1, 1, 0, 1, 0, 0] (by kernel_rfl) ⟨0, _, is_mk (by kernel_rfl) (by kernel_rfl) (by kernel_rfl), ⟨Nat.zero_le _, h44_, (by have h := h39_; rw [img_start s ls] at h; rw [show 1 + s.size + 1 = (headL (sB s) ls.length ++ partsL (ls.take 0)).length from by rw [List.length_append, headL_length, sB_length]; simp [partsL]; omega] at h; exact h), (Dis.sym d43_), N45_, T42_⟩⟩ ?_
      rintro a47_ w48_ ⟨k, vi, ⟨u49_, rfl⟩, ⟨hk, q_0L46_, q_1L46_, d_0_1L46_, n_1L46_, hFrL46_⟩⟩
      have hPL := partsL_le ls k
      refine c_seq [1, 1, 1, 1, 0, 1, 0, 0, 0] [1, 1, 1, 1, 0, 1, 0, 0, 1] (by kernel_rfl) ?_
      refine c_reg 6 image_c_R6 (by kernel_rfl) ?_
      refine at_pures 1 (by kernel_rfl) (by kernel_rfl) ?_
      refine at_done (by kernel_rfl) ?_
      refine then_n ?_
      refine c_seq [1, 1, 1, 1, 0, 1, 0, 0, 1, 0] [1, 1, 1, 1, 0, 1, 0, 0, 1, 1] (by kernel_rfl) ?_
      refine c_if (.tmp 33) (decide ((k : Int) < (ls.length : Int))) [1, 1, 1, 1, 0, 1, 0, 0, 1, 0, 0] [1, 1, 1, 1, 0, 1, 0, 0, 1, 0, 1] (by kernel_rfl) (by kernel_rfl) (fun c50_ => ?_) (fun c50_ => ?_)
      · -- yes
        replace c50_ : (k : Int) < (ls.length : Int) := of_decide_eq_true c50_
        refine c_skip (by kernel_rfl) ?_
        refine then_n ?_
        refine c_seq [1, 1, 1, 1, 0, 1, 0, 0, 1, 1, 0] [1, 1, 1, 1, 0, 1, 0, 0, 1, 1, 1] (by kernel_rfl) ?_
        refine c_block 1 [1, 1, 1, 1, 0, 1, 0, 0, 1, 1, 0, 0] (by kernel_rfl) ?_
        refine c_seq [1, 1, 1, 1, 0, 1, 0, 0, 1, 1, 0, 0, 0] [1, 1, 1, 1, 0, 1, 0, 0, 1, 1, 0, 0, 1] (by kernel_rfl) ?_
        refine c_reg 7 image_c_R7 (by kernel_rfl) ?_
        obtain ⟨x, hx_x⟩ : ∃ x, ls[k]? = some x := ⟨_, List.getElem?_eq_getElem (by omega)⟩
        have hm_x := List.mem_of_getElem? hx_x; have ho_x := RowsAt.ok q_0L46_ x hm_x; have hi_x := RowsAt.in2 q_0L46_ x hm_x; have hB_x := ho_x.b; have hc_x := ho_x.cap
        have hPX := partsL_le ls (k + 1); rw [partsL_snoc hx_x, List.length_append, partL_length] at hPX
        obtain ⟨ad51_, ha52_⟩ := (RowsAt.rd q_0L46_).has (k * 1) (by rw [cellsR_length]; omega)
        refine at_run (.pointer (some (ad51_.add (k * 1)))) _ (by kernel_rfl) (run_idx_o 108 (.tmp 30) (.tmp 32) 1 ao ad51_ ls.length cap .i64 k (by kernel_rfl) (by kernel_rfl) (by kernel_rfl) (by kernel_rfl) (by kernel_rfl) ha52_ (by omega)) ?_
        refine at_run (.slice x.ao x.b.length x.cap) _ (by kernel_rfl) (run_loadE1 64 (.tmp 34) ao ad51_ (k * 1) (cellsR ls) (.slice x.ao x.b.length x.cap) (by kernel_rfl) (by kernel_rfl) (by kernel_rfl) ha52_ (RowsAt.rd q_0L46_) (cellsR_get ls k x hx_x)) ?_
        refine at_pures 3 (by kernel_rfl) (by kernel_rfl) ?_
        refine at_done (by kernel_rfl) ?_
        refine then_n ?_
        refine c_seq [1, 1, 1, 1, 0, 1, 0, 0, 1, 1, 0, 0, 1, 0] [1, 1, 1, 1, 0, 1, 0, 0, 1, 1, 0, 0, 1, 1] (by kernel_rfl) ?_
        refine c_seq [1, 1, 1, 1, 0, 1, 0, 0, 1, 1, 0, 0, 1, 0, 0] [1, 1, 1, 1, 0, 1, 0, 0, 1, 1, 0, 0, 1, 0, 1] (by kernel_rfl) ?_
        refine c_reg 8 image_c_R8 (by kernel_rfl) ?_
        refine at_pures 1 (by kernel_rfl) (by kernel_rfl) ?_
        refine at_done (by kernel_rfl) ?_
        refine then_n ?_
        refine c_block 2 [1, 1, 1, 1, 0, 1, 0, 0, 1, 1, 0, 0, 1, 0, 1, 0] (by kernel_rfl) ?_
        refine c_loop (fun a w' => ∃ (i : Nat), ∃ (vj : Value), (∃ u, a = mk 55 [(0, (.string s)), (1, (.slice ao ls.length cap)), (4, (.slice none 0 0)), (5, (.int .i64 0)), (6, vj), (8, (.slice x.ao x.b.length x.cap)), (10, (.string s)), (11, (.int .i64 (s.size : Int))), (12, (.bool (decide ((s.size : Int) > (255 : Int))))), (13, (.bool false)), (14, (.slice ao ls.length cap)), (15, (.int .i64 (ls.length : Int))), (16, (.bool (decide ((ls.length : Int) > (255 : Int))))), (17, (.bool (decide ((ls.length : Int) > (255 : Int))))), (18, (.string s)), (19, (.int .i64 (s.size : Int))), (20, (.int .u8 (s.size : Int))), (21, (.slice (some ⟨b7_, 0, none⟩) 1 1)), (22, (.string s)), (23, v17_), (24, v17_), (25, (.slice ao ls.length cap)), (26, (.int .i64 (ls.length : Int))), (27, (.int .u8 (ls.length : Int))), (28, (.slice (some ⟨b26_, 0, none⟩) 1 1)), (29, v37_), (30, (.slice ao ls.length cap)), (31, (.int .i64 (ls.length : Int))), (32, (.int .i64 (k : Int))), (33, (.bool (decide ((k : Int) < (ls.length : Int))))), (34, (.pointer (some (ad51_.add (k * 1))))), (35, (.slice x.ao x.b.length x.cap)), (36, (.int .i64 (i : Int)))] u) ∧ (i ≤ 4) ∧ (RowsAt fp w' ao ls) ∧ (Row w' 5 1 vj (((headL (sB s) ls.length ++ partsL (ls.take k)) ++ putB x.b.length 4 i).length) (B ((headL (sB s) ls.length ++ partsL (ls.take k)) ++ putB x.b.length 4 i))) ∧ (Rd w' x.ao (B x.b)) ∧ (Dis fp (Own vj)) ∧ (Dis (Own vj) (Ar x.ao (B x.b))) ∧ (New w N0 (Own vj)) ∧ (Fr w w' N0)) (fun a _ => cnt (4) 36 a) [1, 1, 1, 1, 0, 1, 0, 0, 1, 1, 0, 0, 1, 0, 1, 0, 0] (by kernel_rfl) ⟨0, _, is_mk (by kernel_rfl) (by kernel_rfl) (by kernel_rfl), ⟨Nat.zero_le _, q_0L46_, (by rw [show putB x.b.length 4 0 = [] from rfl, List.append_nil]; exact q_1L46_), (RowsAt.rdb q_0L46_ x hm_x), d_0_1L46_, (Dis.sym (Sub.dis hi_x d_0_1L46_)), n_1L46_, hFrL46_⟩⟩ ?_
        rintro a54_ w55_ ⟨i, vj, ⟨u56_, rfl⟩, ⟨hi, q_0L53_, q_1L53_, q_2L53_, d_0_1L53_, d_1_2L53_, n_1L53_, hFrL53_⟩⟩
        refine c_seq [1, 1, 1, 1, 0, 1, 0, 0, 1, 1, 0, 0, 1, 0, 1, 0, 0, 0] [1, 1, 1, 1, 0, 1, 0, 0, 1, 1, 0, 0, 1, 0, 1, 0, 0, 1] (by kernel_rfl) ?_
        refine c_reg 9 image_c_R9 (by kernel_rfl) ?_
        refine at_pures 1 (by kernel_rfl) (by kernel_rfl) ?_
        refine at_done (by kernel_rfl) ?_
        refine then_n ?_
        refine c_seq [1, 1, 1, 1, 0, 1, 0, 0, 1, 1, 0, 0, 1, 0, 1, 0, 0, 1, 0] [1, 1, 1, 1, 0, 1, 0, 0, 1, 1, 0, 0, 1, 0, 1, 0, 0, 1, 1] (by kernel_rfl) ?_
        refine c_if (.tmp 37) (decide ((i : Int) < (4 : Int))) [1, 1, 1, 1, 0, 1, 0, 0, 1, 1, 0, 0, 1, 0, 1, 0, 0, 1, 0, 0] [1, 1, 1, 1, 0, 1, 0, 0, 1, 1, 0, 0, 1, 0, 1, 0, 0, 1, 0, 1] (by kernel_rfl) (by kernel_rfl) (fun c57_ => ?_) (fun c57_ => ?_)
        · -- yes
          replace c57_ : (i : Int) < (4 : Int) := of_decide_eq_true c57_
          refine c_skip (by kernel_rfl) ?_
          refine then_n ?_
          refine c_seq [1, 1, 1, 1, 0, 1, 0, 0, 1, 1, 0, 0, 1, 0, 1, 0, 0, 1, 1, 0] [1, 1, 1, 1, 0, 1, 0, 0, 1, 1, 0, 0, 1, 0, 1, 0, 0, 1, 1, 1] (by kernel_rfl) ?_
          refine c_block 3 [1, 1, 1, 1, 0, 1, 0, 0, 1, 1, 0, 0, 1, 0, 1, 0, 0, 1, 1, 0, 0] (by kernel_rfl) ?_
          refine c_seq [1, 1, 1, 1, 0, 1, 0, 0, 1, 1, 0, 0, 1, 0, 1, 0, 0, 1, 1, 0, 0, 0] [1, 1, 1, 1, 0, 1, 0, 0, 1, 1, 0, 0, 1, 0, 1, 0, 0, 1, 1, 0, 0, 1] (by kernel_rfl) ?_
          refine c_reg 10 image_c_R10 (by kernel_rfl) ?_
          refine at_pures 2 (by kernel_rfl) (by kernel_rfl) ?_
          refine at_done (by kernel_rfl) ?_
          refine then_n ?_
          refine c_reg 11 image_c_R11 (by kernel_rfl) ?_
          refine at_pures 4 (by kernel_rfl) (by kernel_rfl) ?_
          refine at_int (kd := .i64) (IntKind.i64.wrap ((3 : Int) - (i : Int))) (((3 - i : Nat) : Int)) (by kernel_rfl) (by kernel_rfl) (by rw [wrapN_i64 (by omega) (by omega)]; omega) ?_
          refine at_int (kd := .i64) (IntKind.i64.wrap ((8 : Int) * ((3 - i : Nat) : Int))) ((8 : Int) * ((3 - i : Nat) : Int)) (by kernel_rfl) (by kernel_rfl) (wrapN_i64 (by omega) (by omega)) ?_
          refine at_run (.int .i64 (Int.fdiv (x.b.length : Int) (2 ^ (min ((8 : Int) * ((3 - i : Nat) : Int)).toNat 64)))) _ (by kernel_rfl) (run_shr (k' := .i64) (.tmp 41) (.tmp 44) (x.b.length : Int) ((8 : Int) * ((3 - i : Nat) : Int)) (by kernel_rfl) (by kernel_rfl) (by kernel_rfl) (by omega)) ?_
          refine at_int (kd := .u8) (IntKind.u8.wrap (Int.fdiv (x.b.length : Int) (2 ^ (min ((8 : Int) * ((3 - i : Nat) : Int)).toNat 64)))) (((x.b.length / 2 ^ (8 * (4 - 1 - i)) % 256 : Nat) : Int)) (by kernel_rfl) (by kernel_rfl) (put_step4 (by omega)) ?_
          refine at_do (by kernel_rfl) (op_new (.cells #[(.int .u8 ((x.b.length / 2 ^ (8 * (4 - 1 - i)) % 256 : Nat) : Int))] 5) (fun N => (.slice (some ⟨N, 0, none⟩) 1 1)) (fun _ => by kernel_rfl) (fun w59_ b58_ h60_ q61_ F62_ => ?_))
          have d63_ : Dis (One b58_) fp := Dis.fresh (New.one q61_) (RowsAt.in q_0L53_)
          have d64_ : Dis (One b58_) (Own vj) := Dis.fresh (New.one q61_) (Row.in q_1L53_)
          have d65_ : Dis (One b58_) (Ar x.ao (B x.b)) := Dis.fresh (New.one q61_) (Rd.in q_2L53_)
          have N66_ : New w N0 (One b58_) := New.made q61_ (Fr.size hFrL53_)
          have T67_ := Fr.tr hFrL53_ F62_
          have h68_ := RowsAt.keep q_0L53_ F62_ Dis.n0
          have h69_ := Row.keep q_1L53_ F62_ Dis.n0
          have h70_ := Rd.keep' q_2L53_ F62_ Dis.n0
          refine at_do (by kernel_rfl) (op_append (.tmp 39) (.tmp 47) 64 64 5 1 1 (.int .u8 0) (by kernel_rfl) (by kernel_rfl) (by rfl) (v := vj) (by kernel_rfl) h69_ (xv := (.slice (some ⟨b58_, 0, none⟩) 1 1)) (m := 1) (news := (#[(.int .u8 ((x.b.length / 2 ^ (8 * (4 - 1 - i)) % 256 : Nat) : Int))]).toList) (by kernel_rfl) (Rd.src (xs := (#[(.int .u8 ((x.b.length / 2 ^ (8 * (4 - 1 - i)) % 256 : Nat) : Int))]).toList) (size := 1) (e := 5) (by kernel_rfl) (Rd.of_cut h60_ 0 1 (by kernel_rfl)) (by kernel_rfl) (by decide) (ones (by kernel_rfl))) (by first | (simp only [maxLen]; omega) | (simp only [maxLen, List.length_append, putB_length, headL_length, sB_length]; omega)) (by first | omega | (simp only [List.length_append, putB_length, headL_length, sB_length]; omega)) (fun v71_ w72_ h73_ F74_ s75_ => ?_))
          have T76_ := Fr.then T67_ F74_ n_1L53_
          have d77_ : Dis (Own v71_) fp := Dis.step (Dis.sym d_0_1L53_) s75_ (RowsAt.in h68_)
          have h78_ := RowsAt.keep h68_ F74_ d_0_1L53_
          have d79_ : Dis (Own v71_) (Ar x.ao (B x.b)) := Dis.step d_1_2L53_ s75_ (Rd.in h70_)
          have h80_ := Rd.keep' h70_ F74_ (Dis.sym d_1_2L53_)
          have N81_ : New w N0 (Own v71_) := New.trans n_1L53_ s75_ (Fr.size T67_)
          have h82_ : Row w72_ 5 1 v71_ (((headL (sB s) ls.length ++ partsL (ls.take k)) ++ putB x.b.length 4 i) ++ [(x.b.length / 2 ^ (8 * (4 - 1 - i)) % 256 : Nat)]).length (B (((headL (sB s) ls.length ++ partsL (ls.take k)) ++ putB x.b.length 4 i) ++ [(x.b.length / 2 ^ (8 * (4 - 1 - i)) % 256 : Nat)])) := Row.appB h73_ (by rfl)
          refine at_pures 11 (by kernel_rfl) (by kernel_rfl) ?_
          refine at_done (by kernel_rfl) ?_
          refine blk_n ?_
          refine then_n ?_
          refine c_reg 12 image_c_R12 (by kernel_rfl) ?_
          refine at_int (kd := .i64) (IntKind.i64.wrap ((i : Int) + (1 : Int))) ((i : Int) + (1 : Int)) (by kernel_rfl) (by kernel_rfl) (wrapN_i64 (by omega) (by omega)) ?_
          refine at_pures 2 (by kernel_rfl) (by kernel_rfl) ?_
          refine at_done (by kernel_rfl) ?_
          refine then_n ?_
          exact ⟨⟨i + 1, v71_, is_mk (by kernel_rfl) (by kernel_rfl) (by kernel_rfl), ⟨(by omega), h78_, (by rw [putB_succ, ← List.append_assoc]; exact h82_), h80_, (Dis.sym d77_), d79_, N81_, T76_⟩⟩, cnt_lt (k := (i : Int)) (k' := ((i : Int) + (1 : Int))) (by kernel_rfl) (by kernel_rfl) (by omega) (by omega)⟩
        · -- no
          replace c57_ : ¬ ((i : Int) < (4 : Int)) := of_decide_eq_false c57_
          refine c_exit 2 (by kernel_rfl) ?_
          refine then_e ?_
          refine then_e ?_
          refine blk_hit ?_
          refine then_n ?_
          refine c_reg 13 image_c_R13 (by kernel_rfl) ?_
          refine at_pures 2 (by kernel_rfl) (by kernel_rfl) ?_
          refine at_do (by kernel_rfl) (op_append (.tmp 50) (.tmp 51) 64 64 5 1 1 (.int .u8 0) (by kernel_rfl) (by kernel_rfl) (by rfl) (v := vj) (by kernel_rfl) q_1L53_ (xv := (.slice x.ao x.b.length x.cap)) (m := x.b.length) (news := B x.b) (by kernel_rfl) (Rd.src (size := 1) (e := 5) (by kernel_rfl) q_2L53_ (by simp only [B_length]; omega) (by decide) B_one) (by first | (simp only [maxLen]; omega) | (simp only [maxLen, List.length_append, putB_length, headL_length, sB_length]; omega)) (by first | omega | (simp only [List.length_append, putB_length, headL_length, sB_length]; omega)) (fun v83_ w84_ h85_ F86_ s87_ => ?_))
          have T88_ := Fr.then hFrL53_ F86_ n_1L53_
          have d89_ : Dis (Own v83_) fp := Dis.step (Dis.sym d_0_1L53_) s87_ (RowsAt.in q_0L53_)
          have h90_ := RowsAt.keep q_0L53_ F86_ d_0_1L53_
          have d91_ : Dis (Own v83_) (Ar x.ao (B x.b)) := Dis.step d_1_2L53_ s87_ (Rd.in q_2L53_)
          have h92_ := Rd.keep' q_2L53_ F86_ (Dis.sym d_1_2L53_)
          have N93_ : New w N0 (Own v83_) := New.trans n_1L53_ s87_ (Fr.size hFrL53_)
          have h94_ : Row w84_ 5 1 v83_ (((headL (sB s) ls.length ++ partsL (ls.take k)) ++ putB x.b.length 4 i) ++ x.b).length (B (((headL (sB s) ls.length ++ partsL (ls.take k)) ++ putB x.b.length 4 i) ++ x.b)) := Row.appB h85_ rfl
          refine at_pures 4 (by kernel_rfl) (by kernel_rfl) ?_
          refine at_done (by kernel_rfl) ?_
          refine blk_n ?_
          refine then_n ?_
          refine c_reg 14 image_c_R14 (by kernel_rfl) ?_
          refine at_int (kd := .i64) (IntKind.i64.wrap ((k : Int) + (1 : Int))) ((k : Int) + (1 : Int)) (by kernel_rfl) (by kernel_rfl) (wrapN_i64 (by omega) (by omega)) ?_
          refine at_pures 2 (by kernel_rfl) (by kernel_rfl) ?_
          refine at_done (by kernel_rfl) ?_
          refine then_n ?_
          exact ⟨⟨k + 1, v83_, is_mk (by kernel_rfl) (by kernel_rfl) (by kernel_rfl), ⟨(by omega), h90_, (by have e : i = 4 := (by omega); subst e; rw [partsL_snoc hx_x, partL, ← List.append_assoc, ← List.append_assoc]; exact h94_), (Dis.sym d89_), N93_, T88_⟩⟩, cnt_lt (k := (k : Int)) (k' := ((k : Int) + (1 : Int))) (by kernel_rfl) (by kernel_rfl) (by omega) (by omega)⟩
      · -- no
        replace c50_ : ¬ ((k : Int) < (ls.length : Int)) := of_decide_eq_false c50_
        refine c_exit 0 (by kernel_rfl) ?_
        refine then_e ?_
        refine then_e ?_
        refine blk_hit ?_
        refine then_n ?_
        refine c_seq [1, 1, 1, 1, 1, 0] [1, 1, 1, 1, 1, 1] (by kernel_rfl) ?_
        refine c_reg 15 image_c_R15 (by kernel_rfl) ?_
        refine at_pures 3 (by kernel_rfl) (by kernel_rfl) ?_
        refine at_done (by kernel_rfl) ?_
        refine then_n ?_
        refine c_ret (by kernel_rfl) ?_
        refine fin_ret (.tuple #[vi, (.int .i64 0)]) (by kernel_rfl) (by kernel_rfl) ?_
        have hI : (imgL (sB s) ls) = (headL (sB s) ls.length ++ partsL (ls.take k)) := by rw [imgL_ok (by unfold imgBad; first | omega | (rw [sB_length]; omega)), List.take_of_length_le (by omega)]
        rw [hI]
        exact ⟨vi, (by rw [show imgE s.size ls.length = 0 from if_neg (by unfold imgBad; first | omega | (rw [sB_length]; omega))]; rfl), q_1L46_, hFrL46_, n_1L46_⟩

noncomputable def tagof_c_R0 : Array Oper := rAt Tryd.prog 48 [0]
noncomputable def tagof_c_R1 : Array Oper := rAt Tryd.prog 48 [1, 0]
noncomputable def tagof_c_R2 : Array Oper := rAt Tryd.prog 48 [1, 1, 0, 0]
noncomputable def tagof_c_R3 : Array Oper := rAt Tryd.prog 48 [1, 1, 0, 1, 0, 0]
noncomputable def tagof_c_R4 : Array Oper := rAt Tryd.prog 48 [1, 1, 1, 0]
set_option maxRecDepth 100000 in
theorem tagof_c (s : ByteArray) (fp : Nat → Prop) (ao : Option Addr) (cap : Nat) (ls : List BSl) (w : World) (h_ls : RowsAt fp w ao ls) (h_ks1 : Rd w (some ⟨1, 0, none⟩) ((hw KL).toList)) (hn : ls.length ≤ 9223372036854775807) (hls : (partsL ls).length ≤ 800000) :
    Calls Tryd.prog 48 #[(.string s), (.slice ao ls.length cap)] w fun e w' => e = .returned (.agg (hv (tagL (sB s) ls))) ∧ Fr w w' N0 := by
  have hil := imgL_le (sB s) ls; have hiB := imgL_byt (s := s) h_ls.ok
  refine c_enter (mk 18 [(0, (.string s)), (1, (.slice ao ls.length cap))] (fun _ => undef)) Tryd.func48 (by kernel_rfl) (by kernel_rfl) ?_
  refine c_seq [0] [1] (by kernel_rfl) ?_
  refine c_reg 0 tagof_c_R0 (by kernel_rfl) ?_
  refine at_do (by kernel_rfl) (op_new (.cells #[(.int .u8 0), (.int .u8 0), (.int .u8 0), (.int .u8 0), (.int .u8 0), (.int .u8 0), (.int .u8 0), (.int .u8 0), (.int .u8 0), (.int .u8 0), (.int .u8 0), (.int .u8 0), (.int .u8 0), (.int .u8 0), (.int .u8 0), (.int .u8 0), (.int .u8 0), (.int .u8 0), (.int .u8 0), (.int .u8 0), (.int .u8 0), (.int .u8 0), (.int .u8 0), (.int .u8 0), (.int .u8 0), (.int .u8 0), (.int .u8 0), (.int .u8 0), (.int .u8 0), (.int .u8 0), (.int .u8 0), (.int .u8 0)] 50) (fun N => (.pointer (some ⟨N, 0, none⟩))) (fun _ => by kernel_rfl) (fun w2_ b1_ h3_ q4_ F5_ => ?_))
  have d6_ : Dis (One b1_) fp := Dis.fresh (New.one q4_) (RowsAt.in h_ls)
  have d7_ : Dis (One b1_) (Ar (some ⟨1, 0, none⟩) ((hw KL).toList)) := Dis.fresh (New.one q4_) (Rd.in h_ks1)
  have N8_ : New w N0 (One b1_) := New.made q4_ (Fr.size (Fr.refl w N0))
  have T9_ := Fr.tr (Fr.refl w N0) F5_
  refine at_done (by kernel_rfl) ?_
  refine then_n ?_
  refine c_seq [1, 0] [1, 1] (by kernel_rfl) ?_
  refine c_reg 1 tagof_c_R1 (by kernel_rfl) ?_
  refine at_pures 2 (by kernel_rfl) (by kernel_rfl) ?_
  have h10_ := RowsAt.keep h_ls F5_ Dis.n0
  have h11_ := Rd.keep' h_ks1 F5_ Dis.n0
  refine at_do (by kernel_rfl) (op_call 66 #[(.tmp 8), (.tmp 9)] #[(.string s), (.slice ao ls.length cap)] (by kernel_rfl) (by kernel_rfl) (by kernel_rfl) ?_)
  have C19_ := image_c s fp ao cap ls w2_ h10_  (by first | omega | with_reducible assumption | (simp only [List.length_append, List.length_cons, List.length_nil, putB_length]; omega) | decide) (by first | omega | with_reducible assumption)
  refine Calls.mono C19_ ?_
  rintro e18_ w16_ ⟨vout12_, rfl, h13_, F17_, h15_⟩
  refine ⟨_, rfl, ?_⟩
  have d20_ : Dis (Own vout12_) fp := Dis.fresh h15_ (RowsAt.in h10_)
  have d21_ : Dis (Own vout12_) (Ar (some ⟨1, 0, none⟩) ((hw KL).toList)) := Dis.fresh h15_ (Rd.in h11_)
  have d22_ : Dis (Own vout12_) (One b1_) := Dis.fresh h15_ (In.one h3_)
  have T23_ := Fr.tr T9_ F17_
  have h24_ := RowsAt.keep h10_ F17_ Dis.n0
  have h25_ := Rd.keep' h11_ F17_ Dis.n0
  have h26_ := Fr.keep F17_ h3_ Dis.n0
  have N28_ : New w N0 (Own vout12_) := New.later' h15_ (Fr.size T9_)
  obtain ⟨ao29_, cap30_, rfl, hc31_, hm32_, hR33_, ho34_⟩ := Row.read h13_
  refine at_pures 8 (by kernel_rfl) (by kernel_rfl) ?_
  refine at_done (by kernel_rfl) ?_
  refine then_n ?_
  refine c_seq [1, 1, 0] [1, 1, 1] (by kernel_rfl) ?_
  refine c_seq [1, 1, 0, 0] [1, 1, 0, 1] (by kernel_rfl) ?_
  refine c_reg 2 tagof_c_R2 (by kernel_rfl) ?_
  refine at_pures 2 (by kernel_rfl) (by kernel_rfl) ?_
  refine at_done (by kernel_rfl) ?_
  refine then_n ?_
  refine c_if (.tmp 14) (((imgE s.size ls.length : Nat) : Int) != (0 : Int)) [1, 1, 0, 1, 0] [1, 1, 0, 1, 1] (by kernel_rfl) (by kernel_rfl) (fun c35_ => ?_) (fun c35_ => ?_)
  · -- yes
    replace c35_ : ((imgE s.size ls.length : Nat) : Int) ≠ (0 : Int) := by simpa using c35_
    refine c_seq [1, 1, 0, 1, 0, 0] [1, 1, 0, 1, 0, 1] (by kernel_rfl) ?_
    refine c_reg 3 tagof_c_R3 (by kernel_rfl) ?_
    refine at_pures 1 (by kernel_rfl) (by kernel_rfl) ?_
    refine at_do (by kernel_rfl) (op_store 50 (.tmp 4) (.tmp 15) b1_ 0 (.agg #[(.int .u8 0), (.int .u8 0), (.int .u8 0), (.int .u8 0), (.int .u8 0), (.int .u8 0), (.int .u8 0), (.int .u8 0), (.int .u8 0), (.int .u8 0), (.int .u8 0), (.int .u8 0), (.int .u8 0), (.int .u8 0), (.int .u8 0), (.int .u8 0), (.int .u8 0), (.int .u8 0), (.int .u8 0), (.int .u8 0), (.int .u8 0), (.int .u8 0), (.int .u8 0), (.int .u8 0), (.int .u8 0), (.int .u8 0), (.int .u8 0), (.int .u8 0), (.int .u8 0), (.int .u8 0), (.int .u8 0), (.int .u8 0)]) _ _ #[(.int .u8 0), (.int .u8 0), (.int .u8 0), (.int .u8 0), (.int .u8 0), (.int .u8 0), (.int .u8 0), (.int .u8 0), (.int .u8 0), (.int .u8 0), (.int .u8 0), (.int .u8 0), (.int .u8 0), (.int .u8 0), (.int .u8 0), (.int .u8 0), (.int .u8 0), (.int .u8 0), (.int .u8 0), (.int .u8 0), (.int .u8 0), (.int .u8 0), (.int .u8 0), (.int .u8 0), (.int .u8 0), (.int .u8 0), (.int .u8 0), (.int .u8 0), (.int .u8 0), (.int .u8 0), (.int .u8 0), (.int .u8 0)] (by kernel_rfl) (by kernel_rfl) (by kernel_rfl) h26_ (by kernel_rfl) (by kernel_rfl) (by kernel_rfl) (by kernel_rfl) (fun w36_ h37_ z38_ F39_ => ?_))
    have T40_ := Fr.then T23_ F39_ N8_
    have h41_ := RowsAt.keep h24_ F39_ (Dis.sym d6_)
    have h42_ := Rd.keep' h25_ F39_ (Dis.sym d7_)
    have h43_ := Row.keep h13_ F39_ d22_
    refine at_done (by kernel_rfl) ?_
    refine then_n ?_
    refine c_ret (by kernel_rfl) ?_
    refine then_r ?_
    refine fin_retL [.cell 4 50] [(.agg #[(.int .u8 0), (.int .u8 0), (.int .u8 0), (.int .u8 0), (.int .u8 0), (.int .u8 0), (.int .u8 0), (.int .u8 0), (.int .u8 0), (.int .u8 0), (.int .u8 0), (.int .u8 0), (.int .u8 0), (.int .u8 0), (.int .u8 0), (.int .u8 0), (.int .u8 0), (.int .u8 0), (.int .u8 0), (.int .u8 0), (.int .u8 0), (.int .u8 0), (.int .u8 0), (.int .u8 0), (.int .u8 0), (.int .u8 0), (.int .u8 0), (.int .u8 0), (.int .u8 0), (.int .u8 0), (.int .u8 0), (.int .u8 0)])] (.agg #[(.int .u8 0), (.int .u8 0), (.int .u8 0), (.int .u8 0), (.int .u8 0), (.int .u8 0), (.int .u8 0), (.int .u8 0), (.int .u8 0), (.int .u8 0), (.int .u8 0), (.int .u8 0), (.int .u8 0), (.int .u8 0), (.int .u8 0), (.int .u8 0), (.int .u8 0), (.int .u8 0), (.int .u8 0), (.int .u8 0), (.int .u8 0), (.int .u8 0), (.int .u8 0), (.int .u8 0), (.int .u8 0), (.int .u8 0), (.int .u8 0), (.int .u8 0), (.int .u8 0), (.int .u8 0), (.int .u8 0), (.int .u8 0)]) (by kernel_rfl) (by rfl) ⟨ResOne.cellN (off := 0) (n := 32) (vs := #[(.int .u8 0), (.int .u8 0), (.int .u8 0), (.int .u8 0), (.int .u8 0), (.int .u8 0), (.int .u8 0), (.int .u8 0), (.int .u8 0), (.int .u8 0), (.int .u8 0), (.int .u8 0), (.int .u8 0), (.int .u8 0), (.int .u8 0), (.int .u8 0), (.int .u8 0), (.int .u8 0), (.int .u8 0), (.int .u8 0), (.int .u8 0), (.int .u8 0), (.int .u8 0), (.int .u8 0), (.int .u8 0), (.int .u8 0), (.int .u8 0), (.int .u8 0), (.int .u8 0), (.int .u8 0), (.int .u8 0), (.int .u8 0)]) (by kernel_rfl) (by kernel_rfl) (by kernel_rfl) h37_ (by kernel_rfl) (by kernel_rfl), trivial⟩ (by rfl) ?_
    exact ⟨(by rw [show (tagL (sB s) ls) = List.replicate 32 0 from if_pos (by rw [sB_length]; exact imgE_ne (by assumption))]; kernel_rfl), T40_⟩
  · -- no
    replace c35_ : ((imgE s.size ls.length : Nat) : Int) = (0 : Int) := by simpa using c35_
    refine c_skip (by kernel_rfl) ?_
    refine then_n ?_
    refine c_seq [1, 1, 1, 0] [1, 1, 1, 1] (by kernel_rfl) ?_
    refine c_reg 4 tagof_c_R4 (by kernel_rfl) ?_
    refine at_pures 1 (by kernel_rfl) (by kernel_rfl) ?_
    refine at_do (by kernel_rfl) (op_call 42 #[(.tmp 16)] #[(.slice ao29_ ((imgL (sB s) ls).length) cap30_)] (by kernel_rfl) (by kernel_rfl) (by kernel_rfl) ?_)
    have C48_ := shaof_c (.slice ao29_ ((imgL (sB s) ls).length) cap30_) (imgL (sB s) ls) w16_ (Row.sl h13_) h25_  (by first | omega | with_reducible assumption | (simp only [List.length_append, List.length_cons, List.length_nil, putB_length]; omega) | decide) (by first | assumption | exact Byt.nil | exact shaL_byt _ | exact padL_byt _ | exact Byt.all (by kernel_rfl)) (by first | exact Nat.le_refl _ | (show _ ≤ _; first | omega | assumption | decide))
    refine Calls.mono C48_ ?_
    rintro e47_ w45_ ⟨rfl, F46_⟩
    refine ⟨_, rfl, ?_⟩
    have T49_ := Fr.tr T23_ F46_
    have h50_ := RowsAt.keep h24_ F46_ Dis.n0
    have h51_ := Rd.keep' h25_ F46_ Dis.n0
    have h52_ := Fr.keep F46_ h26_ Dis.n0
    have h53_ := Row.keep h13_ F46_ Dis.n0
    refine at_do (by kernel_rfl) (op_store 50 (.tmp 4) (.tmp 17) b1_ 0 (.agg (hv (shaL (imgL (sB s) ls)))) _ _ (hv (shaL (imgL (sB s) ls))) (by kernel_rfl) (by kernel_rfl) (by kernel_rfl) h52_ (by kernel_rfl) (by kernel_rfl) (by kernel_rfl) (by kernel_rfl) (fun w54_ h55_ z56_ F57_ => ?_))
    have T58_ := Fr.then T49_ F57_ N8_
    have h59_ := RowsAt.keep h50_ F57_ (Dis.sym d6_)
    have h60_ := Rd.keep' h51_ F57_ (Dis.sym d7_)
    have h61_ := Row.keep h53_ F57_ d22_
    refine at_done (by kernel_rfl) ?_
    refine then_n ?_
    refine c_ret (by kernel_rfl) ?_
    refine fin_retL [.cell 4 50] [(.agg (hv (shaL (imgL (sB s) ls))))] (.agg (hv (shaL (imgL (sB s) ls)))) (by kernel_rfl) (by rfl) ⟨ResOne.cellN (off := 0) (n := 32) (vs := (hv (shaL (imgL (sB s) ls)))) (by kernel_rfl) (by kernel_rfl) (by kernel_rfl) h55_ (by kernel_rfl) (by kernel_rfl), trivial⟩ (by rfl) ?_
    exact ⟨(by rw [show (tagL (sB s) ls) = shaL (imgL (sB s) ls) from if_neg (by rw [sB_length]; exact imgE_eq (by assumption))]), T58_⟩

noncomputable def four_c_R0 : Array Oper := rAt Tryd.prog 83 [0]
noncomputable def four_c_R1 : Array Oper := rAt Tryd.prog 83 [1, 0]
set_option maxRecDepth 100000 in
theorem four_c (n : Nat) (w : World) (hn : n ≤ 1000000000) :
    Calls Tryd.prog 83 #[(.int .i64 (n : Int))] w fun e w' => ∃ (v_out' : Value), e = .returned v_out' ∧ Row w' 5 1 v_out' ((putB n 4 4).length) (B (putB n 4 4)) ∧ Fr w w' N0 ∧ New w N0 (Own v_out') := by
  refine c_enter (mk 19 [(0, (.int .i64 (n : Int)))] (fun _ => undef)) Tryd.func83 (by kernel_rfl) (by kernel_rfl) ?_
  refine c_seq [0] [1] (by kernel_rfl) ?_
  refine c_reg 0 four_c_R0 (by kernel_rfl) ?_
  refine at_pures 1 (by kernel_rfl) (by kernel_rfl) ?_
  refine at_done (by kernel_rfl) ?_
  refine then_n ?_
  refine c_seq [1, 0] [1, 1] (by kernel_rfl) ?_
  refine c_reg 1 four_c_R1 (by kernel_rfl) ?_
  refine at_pures 1 (by kernel_rfl) (by kernel_rfl) ?_
  refine at_int (kd := .i64) (IntKind.i64.wrap ((n : Int).tdiv (16777216 : Int))) (((n / 16777216 : Nat) : Int)) (by kernel_rfl) (by kernel_rfl) (quo_i64 (by omega)) ?_
  refine at_int (kd := .i64) (((n / 16777216 : Nat) : Int).tmod (256 : Int)) ((((n / 16777216 : Nat) % 256 : Nat) : Int)) (by kernel_rfl) (by kernel_rfl) (rem_nat2 (n := (n / 16777216 : Nat)) (by omega)) ?_
  refine at_int (kd := .u8) (IntKind.u8.wrap ((((n / 16777216 : Nat) % 256 : Nat) : Int))) ((((n / 16777216 : Nat) % 256 : Nat) : Int)) (by kernel_rfl) (by kernel_rfl) (wrapN_u8 (by omega) (by omega)) ?_
  refine at_pures 5 (by kernel_rfl) (by kernel_rfl) ?_
  refine at_int (kd := .i64) (IntKind.i64.wrap ((n : Int).tdiv (65536 : Int))) (((n / 65536 : Nat) : Int)) (by kernel_rfl) (by kernel_rfl) (quo_i64 (by omega)) ?_
  refine at_int (kd := .i64) (((n / 65536 : Nat) : Int).tmod (256 : Int)) ((((n / 65536 : Nat) % 256 : Nat) : Int)) (by kernel_rfl) (by kernel_rfl) (rem_nat2 (n := (n / 65536 : Nat)) (by omega)) ?_
  refine at_int (kd := .u8) (IntKind.u8.wrap ((((n / 65536 : Nat) % 256 : Nat) : Int))) ((((n / 65536 : Nat) % 256 : Nat) : Int)) (by kernel_rfl) (by kernel_rfl) (wrapN_u8 (by omega) (by omega)) ?_
  refine at_pures 9 (by kernel_rfl) (by kernel_rfl) ?_
  refine at_int (kd := .i64) (IntKind.i64.wrap ((n : Int).tdiv (256 : Int))) (((n / 256 : Nat) : Int)) (by kernel_rfl) (by kernel_rfl) (quo_i64 (by omega)) ?_
  refine at_int (kd := .i64) (((n / 256 : Nat) : Int).tmod (256 : Int)) ((((n / 256 : Nat) % 256 : Nat) : Int)) (by kernel_rfl) (by kernel_rfl) (rem_nat2 (n := (n / 256 : Nat)) (by omega)) ?_
  refine at_int (kd := .u8) (IntKind.u8.wrap ((((n / 256 : Nat) % 256 : Nat) : Int))) ((((n / 256 : Nat) % 256 : Nat) : Int)) (by kernel_rfl) (by kernel_rfl) (wrapN_u8 (by omega) (by omega)) ?_
  refine at_pures 13 (by kernel_rfl) (by kernel_rfl) ?_
  refine at_int (kd := .i64) ((n : Int).tmod (256 : Int)) (((n % 256 : Nat) : Int)) (by kernel_rfl) (by kernel_rfl) (rem_nat _ _) ?_
  refine at_int (kd := .u8) (IntKind.u8.wrap (((n % 256 : Nat) : Int))) (((n % 256 : Nat) : Int)) (by kernel_rfl) (by kernel_rfl) (wrapN_u8 (by omega) (by omega)) ?_
  refine at_do (by kernel_rfl) (op_new (.cells #[(.int .u8 (((n / 16777216 : Nat) % 256 : Nat) : Int)), (.int .u8 (((n / 65536 : Nat) % 256 : Nat) : Int)), (.int .u8 (((n / 256 : Nat) % 256 : Nat) : Int)), (.int .u8 ((n % 256 : Nat) : Int))] 5) (fun N => (.slice (some ⟨N, 0, none⟩) 4 4)) (fun _ => by kernel_rfl) (fun w2_ b1_ h3_ q4_ F5_ => ?_))
  have N6_ : New w N0 (One b1_) := New.made q4_ (Fr.size (Fr.refl w N0))
  have T7_ := Fr.tr (Fr.refl w N0) F5_
  refine at_pures 17 (by kernel_rfl) (by kernel_rfl) ?_
  refine at_done (by kernel_rfl) ?_
  refine then_n ?_
  refine c_ret (by kernel_rfl) ?_
  refine fin_ret (.slice (some ⟨b1_, 0, none⟩) 4 4) (by kernel_rfl) (by kernel_rfl) ?_
  have h8_ : Row w2_ 5 1 (.slice (some ⟨b1_, 0, none⟩) 4 4) 4 ((#[(.int .u8 (((n / 16777216 : Nat) % 256 : Nat) : Int)), (.int .u8 (((n / 65536 : Nat) % 256 : Nat) : Int)), (.int .u8 (((n / 256 : Nat) % 256 : Nat) : Int)), (.int .u8 ((n % 256 : Nat) : Int))]).toList) := Row.made' h3_ (by rfl) (by decide) (by decide) (by rfl)
  exact ⟨(.slice (some ⟨b1_, 0, none⟩) 4 4), rfl, (by rw [← four_L]; exact h8_), T7_, (New.own N6_)⟩

noncomputable def rimage_c_R0 : Array Oper := rAt Tryd.prog 75 [0]
noncomputable def rimage_c_R1 : Array Oper := rAt Tryd.prog 75 [1, 0, 0]
noncomputable def rimage_c_R2 : Array Oper := rAt Tryd.prog 75 [1, 0, 1, 0, 0]
noncomputable def rimage_c_R3 : Array Oper := rAt Tryd.prog 75 [1, 1, 0]
noncomputable def rimage_c_R4 : Array Oper := rAt Tryd.prog 75 [1, 1, 1, 0, 0]
noncomputable def rimage_c_R5 : Array Oper := rAt Tryd.prog 75 [1, 1, 1, 0, 1, 0, 0, 0, 0]
noncomputable def rimage_c_R7 : Array Oper := rAt Tryd.prog 75 [1, 1, 1, 0, 1, 0, 0, 1, 0, 0]
noncomputable def rimage_c_R6 : Array Oper := rAt Tryd.prog 75 [1, 1, 1, 0, 1, 0, 0, 1, 1]
noncomputable def rimage_c_R8 : Array Oper := rAt Tryd.prog 75 [1, 1, 1, 1, 0]
noncomputable def rimage_c_R9 : Array Oper := rAt Tryd.prog 75 [1, 1, 1, 1, 1, 0, 0]
noncomputable def rimage_c_R10 : Array Oper := rAt Tryd.prog 75 [1, 1, 1, 1, 1, 0, 1, 0, 0, 0, 0]
noncomputable def rimage_c_R12 : Array Oper := rAt Tryd.prog 75 [1, 1, 1, 1, 1, 0, 1, 0, 0, 1, 0, 0, 0]
noncomputable def rimage_c_R13 : Array Oper := rAt Tryd.prog 75 [1, 1, 1, 1, 1, 0, 1, 0, 0, 1, 0, 0, 1]
noncomputable def rimage_c_R11 : Array Oper := rAt Tryd.prog 75 [1, 1, 1, 1, 1, 0, 1, 0, 0, 1, 1]
noncomputable def rimage_c_R14 : Array Oper := rAt Tryd.prog 75 [1, 1, 1, 1, 1, 1, 0]
set_option maxRecDepth 100000 in
theorem rimage_c (s : ByteArray) (fp : Nat → Prop) (ao : Option Addr) (cap : Nat) (ls : List BSl) (w : World) (h_ls : RowsAt fp w ao ls) (hn : ls.length ≤ 9223372036854775807) (hls : (partsL ls).length ≤ 800000) :
    Calls Tryd.prog 75 #[(.string s), (.slice ao ls.length cap)] w fun e w' => ∃ (v_out' : Value), e = .returned (.tuple #[v_out', (.int .i64 ((imgE s.size ls.length : Nat) : Int))]) ∧ Row w' 5 1 v_out' ((imgL (sB s) ls).length) (B (imgL (sB s) ls)) ∧ Fr w w' N0 ∧ New w N0 (Own v_out') := by
  refine c_enter (mk 60 [(0, (.string s)), (1, (.slice ao ls.length cap))] (fun _ => undef)) Tryd.func75 (by kernel_rfl) (by kernel_rfl) ?_
  refine c_seq [0] [1] (by kernel_rfl) ?_
  refine c_reg 0 rimage_c_R0 (by kernel_rfl) ?_
  refine at_pures 2 (by kernel_rfl) (by kernel_rfl) ?_
  refine at_done (by kernel_rfl) ?_
  refine then_n ?_
  refine c_seq [1, 0] [1, 1] (by kernel_rfl) ?_
  refine c_seq [1, 0, 0] [1, 0, 1] (by kernel_rfl) ?_
  refine c_reg 1 rimage_c_R1 (by kernel_rfl) ?_
  refine at_pures 3 (by kernel_rfl) (by kernel_rfl) ?_
  refine at_split (decide ((s.size : Int) > (255 : Int))) (by kernel_rfl) (by kernel_rfl) (fun c1_ => ?_) (fun c1_ => ?_)
  · -- yes
    replace c1_ : (s.size : Int) > (255 : Int) := of_decide_eq_true c1_
    refine at_pures 8 (by kernel_rfl) (by kernel_rfl) ?_
    refine at_done (by kernel_rfl) ?_
    refine then_n ?_
    refine c_then (.tmp 16) [1, 0, 1, 0] [1, 0, 1, 1] (by kernel_rfl) (by kernel_rfl) ?_
    refine c_seq [1, 0, 1, 0, 0] [1, 0, 1, 0, 1] (by kernel_rfl) ?_
    refine c_reg 2 rimage_c_R2 (by kernel_rfl) ?_
    refine at_pures 2 (by kernel_rfl) (by kernel_rfl) ?_
    refine at_done (by kernel_rfl) ?_
    refine then_n ?_
    refine c_ret (by kernel_rfl) ?_
    refine then_r ?_
    refine fin_ret (.tuple #[(.slice none 0 0), (.int .i64 4)]) (by kernel_rfl) (by kernel_rfl) ?_
    rw [show (imgL (sB s) ls) = [] from if_pos (by unfold imgBad; first | omega | (rw [sB_length]; omega))]
    have h2_ : Row w 5 1 (.slice none 0 0) 0 [] := Row.nil _ _ _
    exact ⟨(.slice none 0 0), (by rw [show imgE s.size ls.length = 4 from if_pos (by unfold imgBad; first | omega | (rw [sB_length]; omega))]; rfl), h2_, (Fr.refl w N0), (by rw [Own_nil]; exact fun _ h => h.elim)⟩
  · -- no
    replace c1_ : ¬ ((s.size : Int) > (255 : Int)) := of_decide_eq_false c1_
    refine at_pures 8 (by kernel_rfl) (by kernel_rfl) ?_
    refine at_done (by kernel_rfl) ?_
    refine then_n ?_
    refine c_if (.tmp 16) (decide ((ls.length : Int) > (255 : Int))) [1, 0, 1, 0] [1, 0, 1, 1] (by kernel_rfl) (by kernel_rfl) (fun c4_ => ?_) (fun c4_ => ?_)
    · -- yes
      replace c4_ : (ls.length : Int) > (255 : Int) := of_decide_eq_true c4_
      refine c_seq [1, 0, 1, 0, 0] [1, 0, 1, 0, 1] (by kernel_rfl) ?_
      refine c_reg 2 rimage_c_R2 (by kernel_rfl) ?_
      refine at_pures 2 (by kernel_rfl) (by kernel_rfl) ?_
      refine at_done (by kernel_rfl) ?_
      refine then_n ?_
      refine c_ret (by kernel_rfl) ?_
      refine then_r ?_
      refine fin_ret (.tuple #[(.slice none 0 0), (.int .i64 4)]) (by kernel_rfl) (by kernel_rfl) ?_
      rw [show (imgL (sB s) ls) = [] from if_pos (by unfold imgBad; first | omega | (rw [sB_length]; omega))]
      have h5_ : Row w 5 1 (.slice none 0 0) 0 [] := Row.nil _ _ _
      exact ⟨(.slice none 0 0), (by rw [show imgE s.size ls.length = 4 from if_pos (by unfold imgBad; first | omega | (rw [sB_length]; omega))]; rfl), h5_, (Fr.refl w N0), (by rw [Own_nil]; exact fun _ h => h.elim)⟩
    · -- no
      replace c4_ : ¬ ((ls.length : Int) > (255 : Int)) := of_decide_eq_false c4_
      refine c_skip (by kernel_rfl) ?_
      refine then_n ?_
      refine c_seq [1, 1, 0] [1, 1, 1] (by kernel_rfl) ?_
      refine c_reg 3 rimage_c_R3 (by kernel_rfl) ?_
      refine at_pures 2 (by kernel_rfl) (by kernel_rfl) ?_
      refine at_int (kd := .u8) (IntKind.u8.wrap ((s.size : Int))) ((s.size : Int)) (by kernel_rfl) (by kernel_rfl) (wrapN_u8 (by omega) (by omega)) ?_
      refine at_do (by kernel_rfl) (op_new (.cells #[(.int .u8 (s.size : Int))] 5) (fun N => (.slice (some ⟨N, 0, none⟩) 1 1)) (fun _ => by kernel_rfl) (fun w8_ b7_ h9_ q10_ F11_ => ?_))
      have d12_ : Dis (One b7_) fp := Dis.fresh (New.one q10_) (RowsAt.in h_ls)
      have N13_ : New w N0 (One b7_) := New.made q10_ (Fr.size (Fr.refl w N0))
      have T14_ := Fr.tr (Fr.refl w N0) F11_
      refine at_pures 5 (by kernel_rfl) (by kernel_rfl) ?_
      refine at_done (by kernel_rfl) ?_
      refine then_n ?_
      refine c_seq [1, 1, 1, 0] [1, 1, 1, 1] (by kernel_rfl) ?_
      refine c_seq [1, 1, 1, 0, 0] [1, 1, 1, 0, 1] (by kernel_rfl) ?_
      refine c_reg 4 rimage_c_R4 (by kernel_rfl) ?_
      refine at_pures 1 (by kernel_rfl) (by kernel_rfl) ?_
      refine at_done (by kernel_rfl) ?_
      refine then_n ?_
      refine c_block 0 [1, 1, 1, 0, 1, 0] (by kernel_rfl) ?_
      have h15_ := RowsAt.keep h_ls F11_ Dis.n0
      have h16_ : Row w8_ 5 1 (.slice (some ⟨b7_, 0, none⟩) 1 1) 1 ((#[(.int .u8 (s.size : Int))]).toList) := Row.made' h9_ (by rfl) (by decide) (by decide) (by rfl)
      refine c_loop (fun a w' => ∃ (i : Nat), ∃ (vi : Value), (∃ u, a = mk 60 [(0, (.string s)), (1, (.slice ao ls.length cap)), (4, (.slice none 0 0)), (5, (.int .i64 0)), (6, vi), (7, (.int .i64 (i : Int))), (9, (.string s)), (10, (.int .i64 (s.size : Int))), (11, (.bool (decide ((s.size : Int) > (255 : Int))))), (12, (.bool false)), (13, (.slice ao ls.length cap)), (14, (.int .i64 (ls.length : Int))), (15, (.bool (decide ((ls.length : Int) > (255 : Int))))), (16, (.bool (decide ((ls.length : Int) > (255 : Int))))), (17, (.string s)), (18, (.int .i64 (s.size : Int))), (19, (.int .u8 (s.size : Int))), (20, (.slice (some ⟨b7_, 0, none⟩) 1 1))] u) ∧ (i ≤ s.size) ∧ (RowsAt fp w' ao ls) ∧ (Row w' 5 1 vi (([s.size] ++ (sB s).take i).length) (B ([s.size] ++ (sB s).take i))) ∧ (Dis fp (Own vi)) ∧ (New w N0 (Own vi)) ∧ (Fr w w' N0)) (fun a _ => cnt (s.size) 7 a) [1, 1, 1, 0, 1, 0, 0] (by kernel_rfl) ⟨0, _, is_mk (by kernel_rfl) (by kernel_rfl) (by kernel_rfl), ⟨Nat.zero_le _, h15_, (by exact h16_), (Dis.sym (Dis.own d12_)), (New.own N13_), T14_⟩⟩ ?_
      rintro a18_ w19_ ⟨i, vi, ⟨u20_, rfl⟩, ⟨hi, q_0L17_, q_1L17_, d_0_1L17_, n_1L17_, hFrL17_⟩⟩
      refine c_seq [1, 1, 1, 0, 1, 0, 0, 0] [1, 1, 1, 0, 1, 0, 0, 1] (by kernel_rfl) ?_
      refine c_seq [1, 1, 1, 0, 1, 0, 0, 0, 0] [1, 1, 1, 0, 1, 0, 0, 0, 1] (by kernel_rfl) ?_
      refine c_reg 5 rimage_c_R5 (by kernel_rfl) ?_
      refine at_pures 4 (by kernel_rfl) (by kernel_rfl) ?_
      refine at_done (by kernel_rfl) ?_
      refine then_n ?_
      refine c_if (.tmp 24) (decide ((i : Int) < (s.size : Int))) [1, 1, 1, 0, 1, 0, 0, 0, 1, 0] [1, 1, 1, 0, 1, 0, 0, 0, 1, 1] (by kernel_rfl) (by kernel_rfl) (fun c21_ => ?_) (fun c21_ => ?_)
      · -- yes
        replace c21_ : (i : Int) < (s.size : Int) := of_decide_eq_true c21_
        refine c_skip (by kernel_rfl) ?_
        refine then_n ?_
        refine c_seq [1, 1, 1, 0, 1, 0, 0, 1, 0] [1, 1, 1, 0, 1, 0, 0, 1, 1] (by kernel_rfl) ?_
        refine c_block 1 [1, 1, 1, 0, 1, 0, 0, 1, 0, 0] (by kernel_rfl) ?_
        refine c_reg 7 rimage_c_R7 (by kernel_rfl) ?_
        refine at_pures 3 (by kernel_rfl) (by kernel_rfl) ?_
        refine at_run (.int .u8 (((sB s).getD i 0 : Nat) : Int)) _ (by kernel_rfl) (run_index_str 9 (.tmp 28) (.tmp 29) s .i64 i (by kernel_rfl) (by kernel_rfl) (by kernel_rfl) (by kernel_rfl) (by omega)) ?_
        refine at_do (by kernel_rfl) (op_new (.cells #[(.int .u8 (((sB s).getD i 0 : Nat) : Int))] 5) (fun N => (.slice (some ⟨N, 0, none⟩) 1 1)) (fun _ => by kernel_rfl) (fun w23_ b22_ h24_ q25_ F26_ => ?_))
        have d27_ : Dis (One b22_) fp := Dis.fresh (New.one q25_) (RowsAt.in q_0L17_)
        have d28_ : Dis (One b22_) (Own vi) := Dis.fresh (New.one q25_) (Row.in q_1L17_)
        have N29_ : New w N0 (One b22_) := New.made q25_ (Fr.size hFrL17_)
        have T30_ := Fr.tr hFrL17_ F26_
        have h31_ := RowsAt.keep q_0L17_ F26_ Dis.n0
        have h32_ := Row.keep q_1L17_ F26_ Dis.n0
        refine at_do (by kernel_rfl) (op_append (.tmp 27) (.tmp 31) 64 64 5 1 1 (.int .u8 0) (by kernel_rfl) (by kernel_rfl) (by rfl) (v := vi) (by kernel_rfl) h32_ (xv := (.slice (some ⟨b22_, 0, none⟩) 1 1)) (m := 1) (news := (#[(.int .u8 (((sB s).getD i 0 : Nat) : Int))]).toList) (by kernel_rfl) (Rd.src (xs := (#[(.int .u8 (((sB s).getD i 0 : Nat) : Int))]).toList) (size := 1) (e := 5) (by kernel_rfl) (Rd.of_cut h24_ 0 1 (by kernel_rfl)) (by kernel_rfl) (by decide) (ones (by kernel_rfl))) (by first | (simp only [maxLen]; omega) | (simp only [maxLen, List.length_append, List.length_cons, List.length_nil, List.length_take, sB_length]; omega)) (by first | omega | (simp only [List.length_append, List.length_cons, List.length_nil, List.length_take, sB_length]; omega)) (fun v33_ w34_ h35_ F36_ s37_ => ?_))
        have T38_ := Fr.then T30_ F36_ n_1L17_
        have d39_ : Dis (Own v33_) fp := Dis.step (Dis.sym d_0_1L17_) s37_ (RowsAt.in h31_)
        have h40_ := RowsAt.keep h31_ F36_ d_0_1L17_
        have N41_ : New w N0 (Own v33_) := New.trans n_1L17_ s37_ (Fr.size T30_)
        have h42_ : Row w34_ 5 1 v33_ (([s.size] ++ (sB s).take i) ++ [((sB s).getD i 0 : Nat)]).length (B (([s.size] ++ (sB s).take i) ++ [((sB s).getD i 0 : Nat)])) := Row.appB h35_ (by rfl)
        refine at_pures 7 (by kernel_rfl) (by kernel_rfl) ?_
        refine at_done (by kernel_rfl) ?_
        refine blk_n ?_
        refine then_n ?_
        refine c_reg 6 rimage_c_R6 (by kernel_rfl) ?_
        refine at_pures 1 (by kernel_rfl) (by kernel_rfl) ?_
        refine at_int (kd := .i64) (IntKind.i64.wrap ((i : Int) + (1 : Int))) ((i : Int) + (1 : Int)) (by kernel_rfl) (by kernel_rfl) (wrapN_i64 (by omega) (by omega)) ?_
        refine at_pures 3 (by kernel_rfl) (by kernel_rfl) ?_
        refine at_done (by kernel_rfl) ?_
        refine then_n ?_
        exact ⟨⟨i + 1, v33_, is_mk (by kernel_rfl) (by kernel_rfl) (by kernel_rfl), ⟨(by omega), h40_, (by rw [take_snoc (sB s) i (by rw [sB_length]; omega), ← List.append_assoc]; exact h42_), (Dis.sym d39_), N41_, T38_⟩⟩, cnt_lt (k := (i : Int)) (k' := ((i : Int) + (1 : Int))) (by kernel_rfl) (by kernel_rfl) (by omega) (by omega)⟩
      · -- no
        replace c21_ : ¬ ((i : Int) < (s.size : Int)) := of_decide_eq_false c21_
        refine c_exit 0 (by kernel_rfl) ?_
        refine then_e ?_
        refine then_e ?_
        refine blk_hit ?_
        refine then_n ?_
        refine c_seq [1, 1, 1, 1, 0] [1, 1, 1, 1, 1] (by kernel_rfl) ?_
        refine c_reg 8 rimage_c_R8 (by kernel_rfl) ?_
        refine at_pures 3 (by kernel_rfl) (by kernel_rfl) ?_
        refine at_int (kd := .u8) (IntKind.u8.wrap ((ls.length : Int))) ((ls.length : Int)) (by kernel_rfl) (by kernel_rfl) (wrapN_u8 (by omega) (by omega)) ?_
        refine at_do (by kernel_rfl) (op_new (.cells #[(.int .u8 (ls.length : Int))] 5) (fun N => (.slice (some ⟨N, 0, none⟩) 1 1)) (fun _ => by kernel_rfl) (fun w44_ b43_ h45_ q46_ F47_ => ?_))
        have d48_ : Dis (One b43_) fp := Dis.fresh (New.one q46_) (RowsAt.in q_0L17_)
        have d49_ : Dis (One b43_) (Own vi) := Dis.fresh (New.one q46_) (Row.in q_1L17_)
        have N50_ : New w N0 (One b43_) := New.made q46_ (Fr.size hFrL17_)
        have T51_ := Fr.tr hFrL17_ F47_
        have h52_ := RowsAt.keep q_0L17_ F47_ Dis.n0
        have h53_ := Row.keep q_1L17_ F47_ Dis.n0
        refine at_do (by kernel_rfl) (op_append (.tmp 33) (.tmp 37) 64 64 5 1 1 (.int .u8 0) (by kernel_rfl) (by kernel_rfl) (by rfl) (v := vi) (by kernel_rfl) h53_ (xv := (.slice (some ⟨b43_, 0, none⟩) 1 1)) (m := 1) (news := (#[(.int .u8 (ls.length : Int))]).toList) (by kernel_rfl) (Rd.src (xs := (#[(.int .u8 (ls.length : Int))]).toList) (size := 1) (e := 5) (by kernel_rfl) (Rd.of_cut h45_ 0 1 (by kernel_rfl)) (by kernel_rfl) (by decide) (ones (by kernel_rfl))) (by first | (simp only [maxLen]; omega) | (simp only [maxLen, List.length_append, List.length_cons, List.length_nil, List.length_take, sB_length]; omega)) (by first | omega | (simp only [List.length_append, List.length_cons, List.length_nil, List.length_take, sB_length]; omega)) (fun v54_ w55_ h56_ F57_ s58_ => ?_))
        have T59_ := Fr.then T51_ F57_ n_1L17_
        have d60_ : Dis (Own v54_) fp := Dis.step (Dis.sym d_0_1L17_) s58_ (RowsAt.in h52_)
        have h61_ := RowsAt.keep h52_ F57_ d_0_1L17_
        have N62_ : New w N0 (Own v54_) := New.trans n_1L17_ s58_ (Fr.size T51_)
        have h63_ : Row w55_ 5 1 v54_ (([s.size] ++ (sB s).take i) ++ [ls.length]).length (B (([s.size] ++ (sB s).take i) ++ [ls.length])) := Row.appB h56_ (by rfl)
        refine at_pures 7 (by kernel_rfl) (by kernel_rfl) ?_
        refine at_done (by kernel_rfl) ?_
        refine then_n ?_
        refine c_seq [1, 1, 1, 1, 1, 0] [1, 1, 1, 1, 1, 1] (by kernel_rfl) ?_
        refine c_seq [1, 1, 1, 1, 1, 0, 0] [1, 1, 1, 1, 1, 0, 1] (by kernel_rfl) ?_
        refine c_reg 9 rimage_c_R9 (by kernel_rfl) ?_
        refine at_pures 1 (by kernel_rfl) (by kernel_rfl) ?_
        refine at_done (by kernel_rfl) ?_
        refine then_n ?_
        refine c_block 2 [1, 1, 1, 1, 1, 0, 1, 0] (by kernel_rfl) ?_
        refine c_loop (fun a w' => ∃ (k : Nat), ∃ (vj : Value), (∃ u, a = mk 60 [(0, (.string s)), (1, (.slice ao ls.length cap)), (4, (.slice none 0 0)), (5, (.int .i64 0)), (6, vj), (7, (.int .i64 (i : Int))), (8, (.int .i64 (k : Int))), (9, (.string s)), (10, (.int .i64 (s.size : Int))), (11, (.bool (decide ((s.size : Int) > (255 : Int))))), (12, (.bool false)), (13, (.slice ao ls.length cap)), (14, (.int .i64 (ls.length : Int))), (15, (.bool (decide ((ls.length : Int) > (255 : Int))))), (16, (.bool (decide ((ls.length : Int) > (255 : Int))))), (17, (.string s)), (18, (.int .i64 (s.size : Int))), (19, (.int .u8 (s.size : Int))), (20, (.slice (some ⟨b7_, 0, none⟩) 1 1)), (21, (.int .i64 (i : Int))), (22, (.string s)), (23, (.int .i64 (s.size : Int))), (24, (.bool (decide ((i : Int) < (s.size : Int))))), (33, vi), (34, (.slice ao ls.length cap)), (35, (.int .i64 (ls.length : Int))), (36, (.int .u8 (ls.length : Int))), (37, (.slice (some ⟨b43_, 0, none⟩) 1 1)), (38, v54_)] u) ∧ (k ≤ ls.length) ∧ (RowsAt fp w' ao ls) ∧ (Row w' 5 1 vj ((headL (sB s) ls.length ++ partsL (ls.take k)).length) (B (headL (sB s) ls.length ++ partsL (ls.take k)))) ∧ (Dis fp (Own vj)) ∧ (New w N0 (Own vj)) ∧ (Fr w w' N0)) (fun a _ => cnt (ls.length) 8 a) [1, 1, 1, 1, 1, 0, 1, 0, 0] (by kernel_rfl) ⟨0, _, is_mk (by kernel_rfl) (by kernel_rfl) (by kernel_rfl), ⟨Nat.zero_le _, h61_, (by have h := h63_; rw [show ([s.size] ++ (sB s).take i ++ [ls.length]) = headL (sB s) ls.length ++ partsL (ls.take 0) from by rw [List.take_of_length_le (by rw [sB_length]; omega)]; simp [headL, partsL, sB_length]] at h; exact h), (Dis.sym d60_), N62_, T59_⟩⟩ ?_
        rintro a65_ w66_ ⟨k, vj, ⟨u67_, rfl⟩, ⟨hk, q_0L64_, q_1L64_, d_0_1L64_, n_1L64_, hFrL64_⟩⟩
        have hPL := partsL_le ls k
        refine c_seq [1, 1, 1, 1, 1, 0, 1, 0, 0, 0] [1, 1, 1, 1, 1, 0, 1, 0, 0, 1] (by kernel_rfl) ?_
        refine c_seq [1, 1, 1, 1, 1, 0, 1, 0, 0, 0, 0] [1, 1, 1, 1, 1, 0, 1, 0, 0, 0, 1] (by kernel_rfl) ?_
        refine c_reg 10 rimage_c_R10 (by kernel_rfl) ?_
        refine at_pures 4 (by kernel_rfl) (by kernel_rfl) ?_
        refine at_done (by kernel_rfl) ?_
        refine then_n ?_
        refine c_if (.tmp 42) (decide ((k : Int) < (ls.length : Int))) [1, 1, 1, 1, 1, 0, 1, 0, 0, 0, 1, 0] [1, 1, 1, 1, 1, 0, 1, 0, 0, 0, 1, 1] (by kernel_rfl) (by kernel_rfl) (fun c68_ => ?_) (fun c68_ => ?_)
        · -- yes
          replace c68_ : (k : Int) < (ls.length : Int) := of_decide_eq_true c68_
          refine c_skip (by kernel_rfl) ?_
          refine then_n ?_
          refine c_seq [1, 1, 1, 1, 1, 0, 1, 0, 0, 1, 0] [1, 1, 1, 1, 1, 0, 1, 0, 0, 1, 1] (by kernel_rfl) ?_
          refine c_block 3 [1, 1, 1, 1, 1, 0, 1, 0, 0, 1, 0, 0] (by kernel_rfl) ?_
          refine c_seq [1, 1, 1, 1, 1, 0, 1, 0, 0, 1, 0, 0, 0] [1, 1, 1, 1, 1, 0, 1, 0, 0, 1, 0, 0, 1] (by kernel_rfl) ?_
          refine c_reg 12 rimage_c_R12 (by kernel_rfl) ?_
          refine at_pures 3 (by kernel_rfl) (by kernel_rfl) ?_
          obtain ⟨x, hx_x⟩ : ∃ x, ls[k]? = some x := ⟨_, List.getElem?_eq_getElem (by omega)⟩
          have hm_x := List.mem_of_getElem? hx_x; have ho_x := RowsAt.ok q_0L64_ x hm_x; have hi_x := RowsAt.in2 q_0L64_ x hm_x; have hB_x := ho_x.b; have hc_x := ho_x.cap
          have hPX := partsL_le ls (k + 1); rw [partsL_snoc hx_x, List.length_append, partL_length] at hPX
          obtain ⟨ad69_, ha70_⟩ := (RowsAt.rd q_0L64_).has (k * 1) (by rw [cellsR_length]; omega)
          refine at_run (.pointer (some (ad69_.add (k * 1)))) _ (by kernel_rfl) (run_idx_o 108 (.tmp 46) (.tmp 47) 1 ao ad69_ ls.length cap .i64 k (by kernel_rfl) (by kernel_rfl) (by kernel_rfl) (by kernel_rfl) (by kernel_rfl) ha70_ (by omega)) ?_
          refine at_run (.slice x.ao x.b.length x.cap) _ (by kernel_rfl) (run_loadE1 64 (.tmp 48) ao ad69_ (k * 1) (cellsR ls) (.slice x.ao x.b.length x.cap) (by kernel_rfl) (by kernel_rfl) (by kernel_rfl) ha70_ (RowsAt.rd q_0L64_) (cellsR_get ls k x hx_x)) ?_
          refine at_pures 6 (by kernel_rfl) (by kernel_rfl) ?_
          refine at_do (by kernel_rfl) (op_call 83 #[(.tmp 50)] #[(.int .i64 (x.b.length : Int))] (by kernel_rfl) (by kernel_rfl) (by kernel_rfl) ?_)
          have C78_ := four_c x.b.length w66_   (by first | omega | with_reducible assumption | (simp only [List.length_append, List.length_cons, List.length_nil, putB_length]; omega) | decide)
          refine Calls.mono C78_ ?_
          rintro e77_ w75_ ⟨vout71_, rfl, h72_, F76_, h74_⟩
          refine ⟨_, rfl, ?_⟩
          have d79_ : Dis (Own vout71_) fp := Dis.fresh h74_ (RowsAt.in q_0L64_)
          have d80_ : Dis (Own vout71_) (Own vj) := Dis.fresh h74_ (Row.in q_1L64_)
          have d81_ : Dis (Own vout71_) (Ar x.ao (B x.b)) := Dis.fresh h74_ (Rd.in (RowsAt.rdb q_0L64_ x hm_x))
          have T82_ := Fr.tr hFrL64_ F76_
          have h83_ := RowsAt.keep q_0L64_ F76_ Dis.n0
          have h84_ := Row.keep q_1L64_ F76_ Dis.n0
          have h85_ := Rd.keep' (RowsAt.rdb q_0L64_ x hm_x) F76_ Dis.n0
          have N87_ : New w N0 (Own vout71_) := New.later' h74_ (Fr.size hFrL64_)
          obtain ⟨ao88_, cap89_, rfl, hc90_, hm91_, hR92_, ho93_⟩ := Row.read h72_
          refine at_do (by kernel_rfl) (op_append (.tmp 45) (.tmp 51) 64 64 5 1 1 (.int .u8 0) (by kernel_rfl) (by kernel_rfl) (by rfl) (v := vj) (by kernel_rfl) h84_ (xv := (.slice ao88_ ((putB x.b.length 4 4).length) cap89_)) (m := (putB x.b.length 4 4).length) (news := B (putB x.b.length 4 4)) (by kernel_rfl) (Row.src (e' := 5) (by kernel_rfl) h72_ (by decide) B_one) (by first | (simp only [maxLen]; omega) | (simp only [maxLen, List.length_append, putB_length, headL_length, sB_length]; omega)) (by first | omega | (simp only [List.length_append, putB_length, headL_length, sB_length]; omega)) (fun v94_ w95_ h96_ F97_ s98_ => ?_))
          have T99_ := Fr.then T82_ F97_ n_1L64_
          have d100_ : Dis (Own v94_) fp := Dis.step (Dis.sym d_0_1L64_) s98_ (RowsAt.in h83_)
          have h101_ := RowsAt.keep h83_ F97_ d_0_1L64_
          have d102_ : Dis (Own v94_) (Ar x.ao (B x.b)) := Dis.step (Dis.sym (Sub.dis hi_x d_0_1L64_)) s98_ (Rd.in h85_)
          have h103_ := Rd.keep' h85_ F97_ (Sub.dis hi_x d_0_1L64_)
          have N104_ : New w N0 (Own v94_) := New.trans n_1L64_ s98_ (Fr.size T82_)
          have h105_ : Row w95_ 5 1 v94_ ((headL (sB s) ls.length ++ partsL (ls.take k)) ++ (putB x.b.length 4 4)).length (B ((headL (sB s) ls.length ++ partsL (ls.take k)) ++ (putB x.b.length 4 4))) := Row.appB h96_ rfl
          refine at_pures 9 (by kernel_rfl) (by kernel_rfl) ?_
          refine at_done (by kernel_rfl) ?_
          refine then_n ?_
          refine c_reg 13 rimage_c_R13 (by kernel_rfl) ?_
          refine at_pures 3 (by kernel_rfl) (by kernel_rfl) ?_
          obtain ⟨ad106_, ha107_⟩ := (RowsAt.rd h101_).has (k * 1) (by rw [cellsR_length]; omega)
          refine at_run (.pointer (some (ad106_.add (k * 1)))) _ (by kernel_rfl) (run_idx_o 108 (.tmp 54) (.tmp 55) 1 ao ad106_ ls.length cap .i64 k (by kernel_rfl) (by kernel_rfl) (by kernel_rfl) (by kernel_rfl) (by kernel_rfl) ha107_ (by omega)) ?_
          refine at_run (.slice x.ao x.b.length x.cap) _ (by kernel_rfl) (run_loadE1 64 (.tmp 56) ao ad106_ (k * 1) (cellsR ls) (.slice x.ao x.b.length x.cap) (by kernel_rfl) (by kernel_rfl) (by kernel_rfl) ha107_ (RowsAt.rd h101_) (cellsR_get ls k x hx_x)) ?_
          refine at_do (by kernel_rfl) (op_append (.tmp 53) (.tmp 57) 64 64 5 1 1 (.int .u8 0) (by kernel_rfl) (by kernel_rfl) (by rfl) (v := v94_) (by kernel_rfl) h105_ (xv := (.slice x.ao x.b.length x.cap)) (m := x.b.length) (news := B x.b) (by kernel_rfl) (Rd.src (size := 1) (e := 5) (by kernel_rfl) h103_ (by simp only [B_length]; omega) (by decide) B_one) (by first | (simp only [maxLen]; omega) | (simp only [maxLen, List.length_append, putB_length, headL_length, sB_length]; omega)) (by first | omega | (simp only [List.length_append, putB_length, headL_length, sB_length]; omega)) (fun v108_ w109_ h110_ F111_ s112_ => ?_))
          have T113_ := Fr.then T99_ F111_ N104_
          have d114_ : Dis (Own v108_) fp := Dis.step d100_ s112_ (RowsAt.in h101_)
          have h115_ := RowsAt.keep h101_ F111_ (Dis.sym d100_)
          have d116_ : Dis (Own v108_) (Ar x.ao (B x.b)) := Dis.step d102_ s112_ (Rd.in h103_)
          have h117_ := Rd.keep' h103_ F111_ (Dis.sym d102_)
          have N118_ : New w N0 (Own v108_) := New.trans N104_ s112_ (Fr.size T99_)
          have h119_ : Row w109_ 5 1 v108_ ((headL (sB s) ls.length ++ partsL (ls.take k)) ++ (putB x.b.length 4 4) ++ x.b).length (B ((headL (sB s) ls.length ++ partsL (ls.take k)) ++ (putB x.b.length 4 4) ++ x.b)) := Row.appB h110_ rfl
          refine at_pures 7 (by kernel_rfl) (by kernel_rfl) ?_
          refine at_done (by kernel_rfl) ?_
          refine blk_n ?_
          refine then_n ?_
          refine c_reg 11 rimage_c_R11 (by kernel_rfl) ?_
          refine at_pures 1 (by kernel_rfl) (by kernel_rfl) ?_
          refine at_int (kd := .i64) (IntKind.i64.wrap ((k : Int) + (1 : Int))) ((k : Int) + (1 : Int)) (by kernel_rfl) (by kernel_rfl) (wrapN_i64 (by omega) (by omega)) ?_
          refine at_pures 3 (by kernel_rfl) (by kernel_rfl) ?_
          refine at_done (by kernel_rfl) ?_
          refine then_n ?_
          exact ⟨⟨k + 1, v108_, is_mk (by kernel_rfl) (by kernel_rfl) (by kernel_rfl), ⟨(by omega), h115_, (by rw [partsL_snoc hx_x, partL, ← List.append_assoc, ← List.append_assoc]; exact h119_), (Dis.sym d114_), N118_, T113_⟩⟩, cnt_lt (k := (k : Int)) (k' := ((k : Int) + (1 : Int))) (by kernel_rfl) (by kernel_rfl) (by omega) (by omega)⟩
        · -- no
          replace c68_ : ¬ ((k : Int) < (ls.length : Int)) := of_decide_eq_false c68_
          refine c_exit 2 (by kernel_rfl) ?_
          refine then_e ?_
          refine then_e ?_
          refine blk_hit ?_
          refine then_n ?_
          refine c_seq [1, 1, 1, 1, 1, 1, 0] [1, 1, 1, 1, 1, 1, 1] (by kernel_rfl) ?_
          refine c_reg 14 rimage_c_R14 (by kernel_rfl) ?_
          refine at_pures 3 (by kernel_rfl) (by kernel_rfl) ?_
          refine at_done (by kernel_rfl) ?_
          refine then_n ?_
          refine c_ret (by kernel_rfl) ?_
          refine fin_ret (.tuple #[vj, (.int .i64 0)]) (by kernel_rfl) (by kernel_rfl) ?_
          have hI : (imgL (sB s) ls) = (headL (sB s) ls.length ++ partsL (ls.take k)) := by rw [imgL_ok (by unfold imgBad; first | omega | (rw [sB_length]; omega)), List.take_of_length_le (by omega)]
          rw [hI]
          exact ⟨vj, (by rw [show imgE s.size ls.length = 0 from if_neg (by unfold imgBad; first | omega | (rw [sB_length]; omega))]; rfl), q_1L64_, hFrL64_, n_1L64_⟩

noncomputable def rtagof_c_R0 : Array Oper := rAt Tryd.prog 71 [0]
noncomputable def rtagof_c_R1 : Array Oper := rAt Tryd.prog 71 [1, 0]
noncomputable def rtagof_c_R2 : Array Oper := rAt Tryd.prog 71 [1, 1, 0, 0]
noncomputable def rtagof_c_R3 : Array Oper := rAt Tryd.prog 71 [1, 1, 0, 1, 0, 0]
noncomputable def rtagof_c_R4 : Array Oper := rAt Tryd.prog 71 [1, 1, 1, 0]
set_option maxRecDepth 100000 in
theorem rtagof_c (s : ByteArray) (fp : Nat → Prop) (ao : Option Addr) (cap : Nat) (ls : List BSl) (w : World) (h_ls : RowsAt fp w ao ls) (h_ks0 : Rd w (some ⟨0, 0, none⟩) ((hw KL).toList)) (hn : ls.length ≤ 9223372036854775807) (hls : (partsL ls).length ≤ 800000) :
    Calls Tryd.prog 71 #[(.string s), (.slice ao ls.length cap)] w fun e w' => e = .returned (.agg (hv (tagL (sB s) ls))) ∧ Fr w w' N0 := by
  have hil := imgL_le (sB s) ls; have hiB := imgL_byt (s := s) h_ls.ok
  refine c_enter (mk 18 [(0, (.string s)), (1, (.slice ao ls.length cap))] (fun _ => undef)) Tryd.func71 (by kernel_rfl) (by kernel_rfl) ?_
  refine c_seq [0] [1] (by kernel_rfl) ?_
  refine c_reg 0 rtagof_c_R0 (by kernel_rfl) ?_
  refine at_do (by kernel_rfl) (op_new (.cells #[(.int .u8 0), (.int .u8 0), (.int .u8 0), (.int .u8 0), (.int .u8 0), (.int .u8 0), (.int .u8 0), (.int .u8 0), (.int .u8 0), (.int .u8 0), (.int .u8 0), (.int .u8 0), (.int .u8 0), (.int .u8 0), (.int .u8 0), (.int .u8 0), (.int .u8 0), (.int .u8 0), (.int .u8 0), (.int .u8 0), (.int .u8 0), (.int .u8 0), (.int .u8 0), (.int .u8 0), (.int .u8 0), (.int .u8 0), (.int .u8 0), (.int .u8 0), (.int .u8 0), (.int .u8 0), (.int .u8 0), (.int .u8 0)] 49) (fun N => (.pointer (some ⟨N, 0, none⟩))) (fun _ => by kernel_rfl) (fun w2_ b1_ h3_ q4_ F5_ => ?_))
  have d6_ : Dis (One b1_) fp := Dis.fresh (New.one q4_) (RowsAt.in h_ls)
  have d7_ : Dis (One b1_) (Ar (some ⟨0, 0, none⟩) ((hw KL).toList)) := Dis.fresh (New.one q4_) (Rd.in h_ks0)
  have N8_ : New w N0 (One b1_) := New.made q4_ (Fr.size (Fr.refl w N0))
  have T9_ := Fr.tr (Fr.refl w N0) F5_
  refine at_done (by kernel_rfl) ?_
  refine then_n ?_
  refine c_seq [1, 0] [1, 1] (by kernel_rfl) ?_
  refine c_reg 1 rtagof_c_R1 (by kernel_rfl) ?_
  refine at_pures 2 (by kernel_rfl) (by kernel_rfl) ?_
  have h10_ := RowsAt.keep h_ls F5_ Dis.n0
  have h11_ := Rd.keep' h_ks0 F5_ Dis.n0
  refine at_do (by kernel_rfl) (op_call 75 #[(.tmp 8), (.tmp 9)] #[(.string s), (.slice ao ls.length cap)] (by kernel_rfl) (by kernel_rfl) (by kernel_rfl) ?_)
  have C19_ := rimage_c s fp ao cap ls w2_ h10_  (by first | omega | with_reducible assumption | (simp only [List.length_append, List.length_cons, List.length_nil, putB_length]; omega) | decide) (by first | omega | with_reducible assumption)
  refine Calls.mono C19_ ?_
  rintro e18_ w16_ ⟨vout12_, rfl, h13_, F17_, h15_⟩
  refine ⟨_, rfl, ?_⟩
  have d20_ : Dis (Own vout12_) fp := Dis.fresh h15_ (RowsAt.in h10_)
  have d21_ : Dis (Own vout12_) (Ar (some ⟨0, 0, none⟩) ((hw KL).toList)) := Dis.fresh h15_ (Rd.in h11_)
  have d22_ : Dis (Own vout12_) (One b1_) := Dis.fresh h15_ (In.one h3_)
  have T23_ := Fr.tr T9_ F17_
  have h24_ := RowsAt.keep h10_ F17_ Dis.n0
  have h25_ := Rd.keep' h11_ F17_ Dis.n0
  have h26_ := Fr.keep F17_ h3_ Dis.n0
  have N28_ : New w N0 (Own vout12_) := New.later' h15_ (Fr.size T9_)
  obtain ⟨ao29_, cap30_, rfl, hc31_, hm32_, hR33_, ho34_⟩ := Row.read h13_
  refine at_pures 8 (by kernel_rfl) (by kernel_rfl) ?_
  refine at_done (by kernel_rfl) ?_
  refine then_n ?_
  refine c_seq [1, 1, 0] [1, 1, 1] (by kernel_rfl) ?_
  refine c_seq [1, 1, 0, 0] [1, 1, 0, 1] (by kernel_rfl) ?_
  refine c_reg 2 rtagof_c_R2 (by kernel_rfl) ?_
  refine at_pures 2 (by kernel_rfl) (by kernel_rfl) ?_
  refine at_done (by kernel_rfl) ?_
  refine then_n ?_
  refine c_if (.tmp 14) (((imgE s.size ls.length : Nat) : Int) != (0 : Int)) [1, 1, 0, 1, 0] [1, 1, 0, 1, 1] (by kernel_rfl) (by kernel_rfl) (fun c35_ => ?_) (fun c35_ => ?_)
  · -- yes
    replace c35_ : ((imgE s.size ls.length : Nat) : Int) ≠ (0 : Int) := by simpa using c35_
    refine c_seq [1, 1, 0, 1, 0, 0] [1, 1, 0, 1, 0, 1] (by kernel_rfl) ?_
    refine c_reg 3 rtagof_c_R3 (by kernel_rfl) ?_
    refine at_pures 1 (by kernel_rfl) (by kernel_rfl) ?_
    refine at_do (by kernel_rfl) (op_store 49 (.tmp 4) (.tmp 15) b1_ 0 (.agg #[(.int .u8 0), (.int .u8 0), (.int .u8 0), (.int .u8 0), (.int .u8 0), (.int .u8 0), (.int .u8 0), (.int .u8 0), (.int .u8 0), (.int .u8 0), (.int .u8 0), (.int .u8 0), (.int .u8 0), (.int .u8 0), (.int .u8 0), (.int .u8 0), (.int .u8 0), (.int .u8 0), (.int .u8 0), (.int .u8 0), (.int .u8 0), (.int .u8 0), (.int .u8 0), (.int .u8 0), (.int .u8 0), (.int .u8 0), (.int .u8 0), (.int .u8 0), (.int .u8 0), (.int .u8 0), (.int .u8 0), (.int .u8 0)]) _ _ #[(.int .u8 0), (.int .u8 0), (.int .u8 0), (.int .u8 0), (.int .u8 0), (.int .u8 0), (.int .u8 0), (.int .u8 0), (.int .u8 0), (.int .u8 0), (.int .u8 0), (.int .u8 0), (.int .u8 0), (.int .u8 0), (.int .u8 0), (.int .u8 0), (.int .u8 0), (.int .u8 0), (.int .u8 0), (.int .u8 0), (.int .u8 0), (.int .u8 0), (.int .u8 0), (.int .u8 0), (.int .u8 0), (.int .u8 0), (.int .u8 0), (.int .u8 0), (.int .u8 0), (.int .u8 0), (.int .u8 0), (.int .u8 0)] (by kernel_rfl) (by kernel_rfl) (by kernel_rfl) h26_ (by kernel_rfl) (by kernel_rfl) (by kernel_rfl) (by kernel_rfl) (fun w36_ h37_ z38_ F39_ => ?_))
    have T40_ := Fr.then T23_ F39_ N8_
    have h41_ := RowsAt.keep h24_ F39_ (Dis.sym d6_)
    have h42_ := Rd.keep' h25_ F39_ (Dis.sym d7_)
    have h43_ := Row.keep h13_ F39_ d22_
    refine at_done (by kernel_rfl) ?_
    refine then_n ?_
    refine c_ret (by kernel_rfl) ?_
    refine then_r ?_
    refine fin_retL [.cell 4 49] [(.agg #[(.int .u8 0), (.int .u8 0), (.int .u8 0), (.int .u8 0), (.int .u8 0), (.int .u8 0), (.int .u8 0), (.int .u8 0), (.int .u8 0), (.int .u8 0), (.int .u8 0), (.int .u8 0), (.int .u8 0), (.int .u8 0), (.int .u8 0), (.int .u8 0), (.int .u8 0), (.int .u8 0), (.int .u8 0), (.int .u8 0), (.int .u8 0), (.int .u8 0), (.int .u8 0), (.int .u8 0), (.int .u8 0), (.int .u8 0), (.int .u8 0), (.int .u8 0), (.int .u8 0), (.int .u8 0), (.int .u8 0), (.int .u8 0)])] (.agg #[(.int .u8 0), (.int .u8 0), (.int .u8 0), (.int .u8 0), (.int .u8 0), (.int .u8 0), (.int .u8 0), (.int .u8 0), (.int .u8 0), (.int .u8 0), (.int .u8 0), (.int .u8 0), (.int .u8 0), (.int .u8 0), (.int .u8 0), (.int .u8 0), (.int .u8 0), (.int .u8 0), (.int .u8 0), (.int .u8 0), (.int .u8 0), (.int .u8 0), (.int .u8 0), (.int .u8 0), (.int .u8 0), (.int .u8 0), (.int .u8 0), (.int .u8 0), (.int .u8 0), (.int .u8 0), (.int .u8 0), (.int .u8 0)]) (by kernel_rfl) (by rfl) ⟨ResOne.cellN (off := 0) (n := 32) (vs := #[(.int .u8 0), (.int .u8 0), (.int .u8 0), (.int .u8 0), (.int .u8 0), (.int .u8 0), (.int .u8 0), (.int .u8 0), (.int .u8 0), (.int .u8 0), (.int .u8 0), (.int .u8 0), (.int .u8 0), (.int .u8 0), (.int .u8 0), (.int .u8 0), (.int .u8 0), (.int .u8 0), (.int .u8 0), (.int .u8 0), (.int .u8 0), (.int .u8 0), (.int .u8 0), (.int .u8 0), (.int .u8 0), (.int .u8 0), (.int .u8 0), (.int .u8 0), (.int .u8 0), (.int .u8 0), (.int .u8 0), (.int .u8 0)]) (by kernel_rfl) (by kernel_rfl) (by kernel_rfl) h37_ (by kernel_rfl) (by kernel_rfl), trivial⟩ (by rfl) ?_
    exact ⟨(by rw [show (tagL (sB s) ls) = List.replicate 32 0 from if_pos (by rw [sB_length]; exact imgE_ne (by assumption))]; kernel_rfl), T40_⟩
  · -- no
    replace c35_ : ((imgE s.size ls.length : Nat) : Int) = (0 : Int) := by simpa using c35_
    refine c_skip (by kernel_rfl) ?_
    refine then_n ?_
    refine c_seq [1, 1, 1, 0] [1, 1, 1, 1] (by kernel_rfl) ?_
    refine c_reg 4 rtagof_c_R4 (by kernel_rfl) ?_
    refine at_pures 1 (by kernel_rfl) (by kernel_rfl) ?_
    refine at_do (by kernel_rfl) (op_call 60 #[(.tmp 16)] #[(.slice ao29_ ((imgL (sB s) ls).length) cap30_)] (by kernel_rfl) (by kernel_rfl) (by kernel_rfl) ?_)
    have C48_ := rof_c (.slice ao29_ ((imgL (sB s) ls).length) cap30_) (imgL (sB s) ls) w16_ (Row.sl h13_) h25_  (by first | omega | with_reducible assumption | (simp only [List.length_append, List.length_cons, List.length_nil, putB_length]; omega) | decide) (by first | assumption | exact Byt.nil | exact shaL_byt _ | exact padL_byt _ | exact Byt.all (by kernel_rfl))
    refine Calls.mono C48_ ?_
    rintro e47_ w45_ ⟨rfl, F46_⟩
    refine ⟨_, rfl, ?_⟩
    have T49_ := Fr.tr T23_ F46_
    have h50_ := RowsAt.keep h24_ F46_ Dis.n0
    have h51_ := Rd.keep' h25_ F46_ Dis.n0
    have h52_ := Fr.keep F46_ h26_ Dis.n0
    have h53_ := Row.keep h13_ F46_ Dis.n0
    refine at_do (by kernel_rfl) (op_store 49 (.tmp 4) (.tmp 17) b1_ 0 (.agg (hv (shaL (imgL (sB s) ls)))) _ _ (hv (shaL (imgL (sB s) ls))) (by kernel_rfl) (by kernel_rfl) (by kernel_rfl) h52_ (by kernel_rfl) (by kernel_rfl) (by kernel_rfl) (by kernel_rfl) (fun w54_ h55_ z56_ F57_ => ?_))
    have T58_ := Fr.then T49_ F57_ N8_
    have h59_ := RowsAt.keep h50_ F57_ (Dis.sym d6_)
    have h60_ := Rd.keep' h51_ F57_ (Dis.sym d7_)
    have h61_ := Row.keep h53_ F57_ d22_
    refine at_done (by kernel_rfl) ?_
    refine then_n ?_
    refine c_ret (by kernel_rfl) ?_
    refine fin_retL [.cell 4 49] [(.agg (hv (shaL (imgL (sB s) ls))))] (.agg (hv (shaL (imgL (sB s) ls)))) (by kernel_rfl) (by rfl) ⟨ResOne.cellN (off := 0) (n := 32) (vs := (hv (shaL (imgL (sB s) ls)))) (by kernel_rfl) (by kernel_rfl) (by kernel_rfl) h55_ (by kernel_rfl) (by kernel_rfl), trivial⟩ (by rfl) ?_
    exact ⟨(by rw [show (tagL (sB s) ls) = shaL (imgL (sB s) ls) from if_neg (by rw [sB_length]; exact imgE_eq (by assumption))]), T58_⟩
end Go.Proofs.YtokdfjelilhekaaDoor
