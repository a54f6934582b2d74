/- Layer 11's lines. -/
import Derived.Test.YtddblcihkpnpmaaDoorL11
import Derived.Test.YtddblcihkpnpmaaDoorLib6
namespace Go.Proofs.YtddblcihkpnpmaaDoor
open Go Go.RowKit Go.Alm
set_option maxRecDepth 100000 in
theorem linkLine_n (led : List Nat) (ao : Option Addr) (cap : Nat) (l : List GBlk) (o : Nat) (hled : H32 led) (hl : AllB l) (hn : l.length ≤ 9223372036854775807) (ho : o < 9223372036854775808) :
    Does Tryd.prog 4 #[(.agg (hv led)), (.slice ao l.length cap), (.int .i64 ((o : Nat) : Int))] [(.rd ao (RL GBlk.cells l)), (.rd (some ⟨1, 0, none⟩) ((hw KL).toList))] [] (fun v H => v = (.bool true) ∧ H = []) := by
  refine m_fn fun F => ?_
  refine m_new 2 fun b1 => ?_
  refine m_call 6 [] (awake11_j) (.cons 2 (.refl) .nil) ?_
  rintro _ _ ⟨rfl, rfl⟩
  refine m_if 14 (((l.length : Nat) : Int) > (40 : Int)) (fun c2 => ?_) (fun c2 => ?_)
  · -- yes
    exact m_ret 7 (.bool true) [] ⟨(rfl), by kernel_rfl⟩
  · -- no
    refine m_ld 4 3 ?_
    refine m_call 0 [] (stateG_j led hled) .nil ?_
    rintro _ _ ⟨rfl, rfl⟩
    refine m_slit 0 35 363 SState.cells [stateF led] SState.size fun b3 => ?_
    refine m_view 0 _ (.made 35 363 [stateF led].length 1 (RL SState.cells [stateF led])) ?_
    refine m_loop (X := Nat × Option Addr × Nat × List SState) 12 [2, 28, 29] (fun (x : Nat × Option Addr × Nat × List SState) => [(7, (.slice x.2.1 x.2.2.2.length x.2.2.1)), (30, (.int .i64 ((x.1 : Nat) : Int)))]) [0] (fun (x : Nat × Option Addr × Nat × List SState) => [(.row 35 363 x.2.1 x.2.2.2.length x.2.2.1 (RL SState.cells x.2.2.2))]) (fun (x : Nat × Option Addr × Nat × List SState) => (x.1 ≤ l.length) ∧ (IsLine x.2.2.2) ∧ (x.2.2.2.length ≤ x.1 + 1)) (fun (x : Nat × Option Addr × Nat × List SState) => l.length - x.1) (0, (some ⟨b3, 0, none⟩), 1, [stateF led]) (⟨Nat.zero_le _, IsLine.one (stateF_ok hled) (stateF_right led), Nat.le_refl _⟩) (fun x u4 hx => ?_)
    obtain ⟨i, ao', cp, m⟩ := x; dsimp only at hx
    obtain ⟨hi, hm, hml⟩ := hx
    have hpos := hm.pos
    refine m_if 6 (((i : Nat) : Int) < ((l.length : Nat) : Int)) (fun c5 => ?_) (fun c5 => ?_)
    · -- yes
      refine m_ix 6 1 65 l.length i (RL GBlk.cells l) .i64 (by omega) (by rw [RL_length GBlk.size]; omega) ?_
      refine m_lxN 0 1 (i * 65) 65 (RL GBlk.cells l) ((l.getD i default).cells) (RL_whole (f := GBlk.cells) (sz := 65) (l := l) (k := i) GBlk.size default (by omega)) (GBlk.size _) ?_
      refine m_new 0 fun b6 => ?_
      refine m_st 0 0 ?_
      refine m_cut (X := Nat) 3 [2, 7, 28, 29, 30] (fun (x : Nat) => [(10, (.pointer (some ⟨x, 0, none⟩))), (11, (.int .i64 ((childE (m.getD (m.length - 1) default) (l.getD i default) : Nat) : Int)))]) (fun (x : Nat) => [(.row 35 363 ao' m.length cp (RL SState.cells m)), (.blk b6 ((l.getD i default).cells) 59), (.blk x ((childS (m.getD (m.length - 1) default) (l.getD i default)).cells) 35), (.blk b1 (hv led) 23)]) (fun (x : Nat) => True) ?_ (fun x u8 hx => ?_)
      · -- in each order
        refine m_plan 0 [6, 11] (.q 0 false (.q 1 false (.q 2 false (.q 3 false (.q 4 false (.q 5 true (.q 6 true (.f (.e 7 (.q 8 false (.q 9 false (.q 10 false (.e 11 (.e 12 (.q 13 false .n))))))) (.e 11 (.e 7 (.q 8 false (.q 9 false (.q 10 false (.e 12 (.q 13 false .n))))))))))))))) [1, 0] ?_
        refine m_i64 3 (((m.length : Nat) : Int) - (1 : Int)) (m.length - 1) (by omega) ?_
        refine m_ix 0 3 363 m.length (m.length - 1) (RL SState.cells m) .i64 (by omega) (by rw [RL_length SState.size]; omega) ?_
        refine m_lxN 0 3 ((m.length - 1) * 363) 363 (RL SState.cells m) ((m.getD (m.length - 1) default).cells) (RL_whole (f := SState.cells) (sz := 363) (l := m) (k := m.length - 1) SState.size default (by omega)) (SState.size _) ?_
        refine m_ld 0 4 ?_
        refine m_fork 0 ?_ ?_
        · -- one of them
          refine m_call 0 [] (child_j (m.getD (m.length - 1) default) (l.getD i default) (AllS.get hm.all (by omega)) (hm.right _ (by omega)) (AllB.get hl (by omega))) (.cons 2 (.refl) .nil) ?_
          rintro _ _ ⟨rfl, rfl⟩
          refine m_new 3 fun b9 => ?_
          refine m_thaw 0 ?_
          refine m_stW 0 2 363 ((childS (m.getD (m.length - 1) default) (l.getD i default)).cells) (SState.size _) (SState.ones _) ?_
          refine m_thaw 2 ?_
          exact m_back 0 b9 [0, 0, 0, 0] trivial
        · -- one of them
          refine m_new 0 fun b10 => ?_
          refine m_thaw 0 ?_
          refine m_call 0 [] (child_j (m.getD (m.length - 1) default) (l.getD i default) (AllS.get hm.all (by omega)) (hm.right _ (by omega)) (AllB.get hl (by omega))) (.cons 2 (.refl) .nil) ?_
          rintro _ _ ⟨rfl, rfl⟩
          refine m_stW 3 2 363 ((childS (m.getD (m.length - 1) default) (l.getD i default)).cells) (SState.size _) (SState.ones _) ?_
          refine m_thaw 2 ?_
          exact m_back 0 b10 [0, 0, 0, 0] trivial
      · -- behind it
        obtain ⟨b7, rfl⟩ : ∃ y, y = x := ⟨x, rfl⟩
        refine m_if 7 (((childE (m.getD (m.length - 1) default) (l.getD i default) : Nat) : Int) = (0 : Int)) (fun c11 => ?_) (fun c11 => ?_)
        · -- yes
          refine m_ldW 2 5 b7 35 363 ((childS (m.getD (m.length - 1) default) (l.getD i default)).cells) (SState.size _) ?_
          refine m_slit 0 35 363 SState.cells [childS (m.getD (m.length - 1) default) (l.getD i default)] SState.size fun b12 => ?_
          refine m_appR 0 1 35 363 396 SState.cells m (childS (m.getD (m.length - 1) default) (l.getD i default)) ((SrcW.cut 3 0 1 1).news (by kernel_rfl)) (by first | exact ⟨(by simp only [maxLen]; omega), (by omega)⟩ | exact ⟨(by simp only [maxLen, List.nil_append, List.length_nil, List.length_drop, List.length_take]; omega), (by simp only [List.nil_append, List.length_nil, List.length_drop, List.length_take]; omega)⟩ | (have h1 : (m.drop (o + 1)).length = m.length - (o + 1) := List.length_drop; have h2 : (m.take o).length = min o m.length := List.length_take; exact ⟨(show (List.append [] (m.take o)).length + (m.drop (o + 1)).length ≤ maxLen by simp only [maxLen]; change (m.take o).length + _ ≤ _; omega), (by show ((m.take o).length + (m.drop (o + 1)).length) * 396 ≤ 140737488355328; omega)⟩)) fun ao13 cap14 => ?_
          refine m_i64 5 (((i : Nat) : Int) + (1 : Int)) (i + 1) (by omega) ?_
          exact m_back 2 (i + 1, ao13, cap14, m ++ [childS (m.getD (m.length - 1) default) (l.getD i default)]) [1, 3] ⟨⟨(by omega), (by exact hm.snoc (hl.get (by omega)) (by omega)), (by show (m ++ [_]).length ≤ _; rw [List.length_append, List.length_singleton]; omega)⟩, (by omega)⟩
        · -- no
          refine m_i64 4 (((i : Nat) : Int) + (1 : Int)) (i + 1) (by omega) ?_
          exact m_back 2 (i + 1, ao', cp, m) [0, 2] ⟨⟨(by omega), hm, (by show m.length ≤ i + 1 + 1; omega)⟩, (by omega)⟩
    · -- no
      refine m_trim 14 ?_
      refine m_loop (X := Nat) 0 [2, 7, 53] (fun (x : Nat) => [(54, (.int .i64 ((x : Nat) : Int)))]) [] (fun (x : Nat) => []) (fun (x : Nat) => (x ≤ m.length)) (fun (x : Nat) => m.length - x) 0 (Nat.zero_le _) (fun x u15 hx => ?_)
      obtain ⟨k, rfl⟩ : ∃ y, y = x := ⟨x, rfl⟩
      have hk := hx
      refine m_if 6 (((k : Nat) : Int) < ((m.length : Nat) : Int)) (fun c16 => ?_) (fun c16 => ?_)
      · -- yes
        refine m_i64 14 (((k : Nat) : Int) + (1 : Int)) (k + 1) (by omega) ?_
        refine m_rowle 3 m.length cp fun hc17 hc17' => ?_
        refine m_slc 0 363 m.length cp 0 (k + 1) cp ((m.take (k + 1)).length) (cp - 0) ao' ⟨(by omega), (by omega), (by omega)⟩ (by first | (rw [List.length_drop]; done) | (rw [List.length_take]; omega)) rfl ?_
        refine m_call 0 [] (line_j (cutA ao' 0 cp 363) (cp - 0) (m.take (k + 1)) (by have h0 := hm.take (n := k + 1) (by omega) (by omega); exact h0.all) (by have h0 := hm.take (n := k + 1) (by omega) (by omega); (simp only [List.length_take]; omega)) (by have h0 := hm.take (n := k + 1) (by omega) (by omega); exact fun _ => h0.fst)) (.cons 3 (.cutX 0 (k + 1) cp 363 (RL SState.cells m) (RL SState.cells (m.take (k + 1))) (by omega) (takeR_cut SState.size m (k + 1))) (.cons 2 (.refl) .nil)) ?_
        rintro _ _ ⟨hv18, rfl⟩
        rw [show ((.tuple #[(.int .i64 (((lineL (m.take (k + 1))).1 : Nat) : Int)), (.int .i64 (((lineL (m.take (k + 1))).2 : Nat) : Int))]) : Value) = (.tuple #[(.int .i64 ((k + 1 : Nat) : Int)), (.int .i64 0)]) from by rw [line_take hm (by omega) (by omega)]; first | done | kernel_rfl] at hv18; subst hv18
        refine m_rowle 3 m.length cp fun hc19 hc19' => ?_
        refine m_slc 11 363 m.length cp k m.length cp ((m.drop k).length) (cp - k) ao' ⟨(by omega), (by omega), (by omega)⟩ (by first | (rw [List.length_drop]; done) | (rw [List.length_take]; omega)) rfl ?_
        refine m_call 0 [] (line_j (cutA ao' k cp 363) (cp - k) (m.drop k) (by have h0 := hm.drop (n := k) (by omega); exact h0.all) (by have h0 := hm.drop (n := k) (by omega); (simp only [List.length_drop]; omega)) (by have h0 := hm.drop (n := k) (by omega); exact fun _ => h0.fst)) (.cons 3 (.cutX k (m.length - k) cp 363 (RL SState.cells m) (RL SState.cells (m.drop k)) (by omega) (dropR_cut SState.size m k)) (.cons 2 (.refl) .nil)) ?_
        rintro _ _ ⟨hv20, rfl⟩
        rw [show ((.tuple #[(.int .i64 (((lineL (m.drop k)).1 : Nat) : Int)), (.int .i64 (((lineL (m.drop k)).2 : Nat) : Int))]) : Value) = (.tuple #[(.int .i64 ((m.length - k : Nat) : Int)), (.int .i64 0)]) from by rw [line_drop hm (by omega)]; first | done | kernel_rfl] at hv20; subst hv20
        refine m_i64 11 (((k : Nat) : Int) + (1 : Int)) (k + 1) (by omega) ?_
        refine m_as 0 (.bool (!decide (((k + 1 : Nat) : Int) = ((k + 1 : Nat) : Int)))) (.bool false) (by rw [decide_eq_true rfl]; rfl) ?_
        refine m_i64 9 (((m.length : Nat) : Int) - ((k : Nat) : Int)) (m.length - k) (by omega) ?_
        refine m_as 0 (.bool (!decide (((m.length - k : Nat) : Int) = ((m.length - k : Nat) : Int)))) (.bool false) (by rw [decide_eq_true rfl]; rfl) ?_
        refine m_i64 12 (((k : Nat) : Int) + (1 : Int)) (k + 1) (by omega) ?_
        exact m_back 2 (k + 1) [0, 0] ⟨(by omega), (by omega)⟩
      · -- no
        refine m_sp 10 (((o : Nat) : Int) < (1 : Int)) (fun c21 => ?_) (fun c21 => ?_)
        · -- yes
          exact m_ret 16 (.bool true) [] ⟨(rfl), by kernel_rfl⟩
        · -- no
          refine m_i64 3 (((m.length : Nat) : Int) - (1 : Int)) (m.length - 1) (by omega) ?_
          refine m_if 4 (((o : Nat) : Int) ≥ ((m.length - 1 : Nat) : Int)) (fun c22 => ?_) (fun c22 => ?_)
          · -- yes
            exact m_ret 7 (.bool true) [] ⟨(rfl), by kernel_rfl⟩
          · -- no
            refine m_plan 3 [] (.q 1 false (.q 2 false (.q 3 false (.q 5 false (.q 6 false (.q 7 false (.q 8 false (.e 0 (.e 4 (.e 9 (.q 10 false .n))))))))))) [] ?_
            refine m_rowle 3 m.length cp fun hc23 hc23' => ?_
            refine m_slc 2 363 m.length cp 0 o cp ((m.take o).length) (cp - 0) ao' ⟨(by omega), (by omega), (by omega)⟩ (by first | (rw [List.length_drop]; done) | (rw [List.length_take]; omega)) rfl ?_
            refine m_i64 2 (((o : Nat) : Int) + (1 : Int)) (o + 1) (by omega) ?_
            refine m_rowle 3 m.length cp fun hc24 hc24' => ?_
            refine m_slc 0 363 m.length cp (o + 1) m.length cp ((m.drop (o + 1)).length) (cp - (o + 1)) ao' ⟨(by omega), (by omega), (by omega)⟩ (by first | (rw [List.length_drop]; done) | (rw [List.length_take]; omega)) rfl ?_
            refine m_new 0 fun b25 => ?_
            refine m_view 0 _ (.made 35 363 0 0 (RL SState.cells [])) ?_
            refine m_appRs 0 0 35 363 396 SState.cells [] (m.take o) (SrcW.cutX (ao := ao') 3 0 o cp (cp - 0) ((m.take o).length) (RL SState.cells m) (RL SState.cells (m.take o)) (by omega) (takeR_cut SState.size m o) (RL_length SState.size _) (RL_one SState.one _)) (by first | exact ⟨(by simp only [maxLen]; omega), (by omega)⟩ | exact ⟨(by simp only [maxLen, List.length_nil, List.length_take]; omega), (by simp only [List.length_nil, List.length_take]; omega)⟩ | (have h1 : (m.drop (o + 1)).length = m.length - (o + 1) := List.length_drop; have h2 : (m.take o).length = min o m.length := List.length_take; exact ⟨(show (List.append [] (m.take o)).length + (m.drop (o + 1)).length ≤ maxLen by simp only [maxLen]; change (m.take o).length + _ ≤ _; omega), (by show ((m.take o).length + (m.drop (o + 1)).length) * 396 ≤ 140737488355328; omega)⟩)) fun ao26 cap27 => ?_
            refine m_appRs 0 0 35 363 396 SState.cells (List.append [] (m.take o)) (m.drop (o + 1)) (SrcW.cutX (ao := ao') 3 (o + 1) (m.length - (o + 1)) cp (cp - (o + 1)) ((m.drop (o + 1)).length) (RL SState.cells m) (RL SState.cells (m.drop (o + 1))) (by omega) (dropR_cut SState.size m (o + 1)) (RL_length SState.size _) (RL_one SState.one _)) (by first | exact ⟨(by simp only [maxLen]; omega), (by omega)⟩ | exact ⟨(by simp only [maxLen, List.length_drop]; omega), (by simp only [List.nil_append, List.length_nil, List.length_drop, List.length_take]; omega)⟩ | (have h1 : (m.drop (o + 1)).length = m.length - (o + 1) := List.length_drop; have h2 : (m.take o).length = min o m.length := List.length_take; exact ⟨(show (List.append [] (m.take o)).length + (m.drop (o + 1)).length ≤ maxLen by simp only [maxLen]; change (m.take o).length + _ ≤ _; omega), (by show ((m.take o).length + (m.drop (o + 1)).length) * 396 ≤ 140737488355328; omega)⟩)) fun ao28 cap29 => ?_
            refine m_thaw 2 ?_
            refine m_call 4 [] (line_j ao28 cap29 (List.append (List.append [] (m.take o)) (m.drop (o + 1))) (by exact gap_all hm o) (by have h0 := gap_len (m := m) (o := o) (by omega); change (gapL m o).length ≤ _; omega) (by exact fun _ => gap_fst hm (by omega) (by omega))) (.cons 3 (.rd) (.cons 2 (.refl) .nil)) ?_
            obtain ⟨hg1, hg2⟩ := line_gap hm (o := o) (by omega) (by omega)
            rintro _ _ ⟨hv30, rfl⟩
            rw [show ((.tuple #[(.int .i64 (((lineL (List.append (List.append [] (m.take o)) (m.drop (o + 1)))).1 : Nat) : Int)), (.int .i64 (((lineL (List.append (List.append [] (m.take o)) (m.drop (o + 1)))).2 : Nat) : Int))]) : Value) = (.tuple #[(.int .i64 ((o : Nat) : Int)), (.int .i64 (((lineL (gapL m o)).2 : Nat) : Int))]) from by rw [show List.append (List.append [] (m.take o)) (m.drop (o + 1)) = gapL m o from rfl, hg1]] at hv30; subst hv30
            refine m_as 11 (.bool (decide (((o : Nat) : Int) = ((o : Nat) : Int)))) (.bool true) (by rw [decide_eq_true rfl]) ?_
            exact m_ret 8 (.bool (!decide ((((lineL (gapL m o)).2 : Nat) : Int) = (0 : Int)))) [] ⟨(congrArg Value.bool (by rw [decide_eq_false (by omega)]; rfl)), by kernel_rfl⟩

set_option maxRecDepth 100000 in
theorem linkLine_neg (led : List Nat) (ao : Option Addr) (cap : Nat) (l : List GBlk) (o : Nat) (hled : H32 led) (hl : AllB l) (hn : l.length ≤ 9223372036854775807) (ho : o < 9223372036854775808) :
    Does Tryd.prog 4 #[(.agg (hv led)), (.slice ao l.length cap), (.int .i64 (-((o : Nat) : Int) - 1))] [(.rd ao (RL GBlk.cells l)), (.rd (some ⟨1, 0, none⟩) ((hw KL).toList))] [] (fun v H => v = (.bool true) ∧ H = []) := by
  refine m_fn fun F => ?_
  refine m_new 2 fun b1 => ?_
  refine m_call 6 [] (awake11_j) (.cons 2 (.refl) .nil) ?_
  rintro _ _ ⟨rfl, rfl⟩
  refine m_if 14 (((l.length : Nat) : Int) > (40 : Int)) (fun c2 => ?_) (fun c2 => ?_)
  · -- yes
    exact m_ret 7 (.bool true) [] ⟨(rfl), by kernel_rfl⟩
  · -- no
    refine m_ld 4 3 ?_
    refine m_call 0 [] (stateG_j led hled) .nil ?_
    rintro _ _ ⟨rfl, rfl⟩
    refine m_slit 0 35 363 SState.cells [stateF led] SState.size fun b3 => ?_
    refine m_view 0 _ (.made 35 363 [stateF led].length 1 (RL SState.cells [stateF led])) ?_
    refine m_loop (X := Nat × Option Addr × Nat × List SState) 12 [2, 28, 29] (fun (x : Nat × Option Addr × Nat × List SState) => [(7, (.slice x.2.1 x.2.2.2.length x.2.2.1)), (30, (.int .i64 ((x.1 : Nat) : Int)))]) [0] (fun (x : Nat × Option Addr × Nat × List SState) => [(.row 35 363 x.2.1 x.2.2.2.length x.2.2.1 (RL SState.cells x.2.2.2))]) (fun (x : Nat × Option Addr × Nat × List SState) => (x.1 ≤ l.length) ∧ (IsLine x.2.2.2) ∧ (x.2.2.2.length ≤ x.1 + 1)) (fun (x : Nat × Option Addr × Nat × List SState) => l.length - x.1) (0, (some ⟨b3, 0, none⟩), 1, [stateF led]) (⟨Nat.zero_le _, IsLine.one (stateF_ok hled) (stateF_right led), Nat.le_refl _⟩) (fun x u4 hx => ?_)
    obtain ⟨i, ao', cp, m⟩ := x; dsimp only at hx
    obtain ⟨hi, hm, hml⟩ := hx
    have hpos := hm.pos
    refine m_if 6 (((i : Nat) : Int) < ((l.length : Nat) : Int)) (fun c5 => ?_) (fun c5 => ?_)
    · -- yes
      refine m_ix 6 1 65 l.length i (RL GBlk.cells l) .i64 (by omega) (by rw [RL_length GBlk.size]; omega) ?_
      refine m_lxN 0 1 (i * 65) 65 (RL GBlk.cells l) ((l.getD i default).cells) (RL_whole (f := GBlk.cells) (sz := 65) (l := l) (k := i) GBlk.size default (by omega)) (GBlk.size _) ?_
      refine m_new 0 fun b6 => ?_
      refine m_st 0 0 ?_
      refine m_cut (X := Nat) 3 [2, 7, 28, 29, 30] (fun (x : Nat) => [(10, (.pointer (some ⟨x, 0, none⟩))), (11, (.int .i64 ((childE (m.getD (m.length - 1) default) (l.getD i default) : Nat) : Int)))]) (fun (x : Nat) => [(.row 35 363 ao' m.length cp (RL SState.cells m)), (.blk b6 ((l.getD i default).cells) 59), (.blk x ((childS (m.getD (m.length - 1) default) (l.getD i default)).cells) 35), (.blk b1 (hv led) 23)]) (fun (x : Nat) => True) ?_ (fun x u8 hx => ?_)
      · -- in each order
        refine m_plan 0 [6, 11] (.q 0 false (.q 1 false (.q 2 false (.q 3 false (.q 4 false (.q 5 true (.q 6 true (.f (.e 7 (.q 8 false (.q 9 false (.q 10 false (.e 11 (.e 12 (.q 13 false .n))))))) (.e 11 (.e 7 (.q 8 false (.q 9 false (.q 10 false (.e 12 (.q 13 false .n))))))))))))))) [1, 0] ?_
        refine m_i64 3 (((m.length : Nat) : Int) - (1 : Int)) (m.length - 1) (by omega) ?_
        refine m_ix 0 3 363 m.length (m.length - 1) (RL SState.cells m) .i64 (by omega) (by rw [RL_length SState.size]; omega) ?_
        refine m_lxN 0 3 ((m.length - 1) * 363) 363 (RL SState.cells m) ((m.getD (m.length - 1) default).cells) (RL_whole (f := SState.cells) (sz := 363) (l := m) (k := m.length - 1) SState.size default (by omega)) (SState.size _) ?_
        refine m_ld 0 4 ?_
        refine m_fork 0 ?_ ?_
        · -- one of them
          refine m_call 0 [] (child_j (m.getD (m.length - 1) default) (l.getD i default) (AllS.get hm.all (by omega)) (hm.right _ (by omega)) (AllB.get hl (by omega))) (.cons 2 (.refl) .nil) ?_
          rintro _ _ ⟨rfl, rfl⟩
          refine m_new 3 fun b9 => ?_
          refine m_thaw 0 ?_
          refine m_stW 0 2 363 ((childS (m.getD (m.length - 1) default) (l.getD i default)).cells) (SState.size _) (SState.ones _) ?_
          refine m_thaw 2 ?_
          exact m_back 0 b9 [0, 0, 0, 0] trivial
        · -- one of them
          refine m_new 0 fun b10 => ?_
          refine m_thaw 0 ?_
          refine m_call 0 [] (child_j (m.getD (m.length - 1) default) (l.getD i default) (AllS.get hm.all (by omega)) (hm.right _ (by omega)) (AllB.get hl (by omega))) (.cons 2 (.refl) .nil) ?_
          rintro _ _ ⟨rfl, rfl⟩
          refine m_stW 3 2 363 ((childS (m.getD (m.length - 1) default) (l.getD i default)).cells) (SState.size _) (SState.ones _) ?_
          refine m_thaw 2 ?_
          exact m_back 0 b10 [0, 0, 0, 0] trivial
      · -- behind it
        obtain ⟨b7, rfl⟩ : ∃ y, y = x := ⟨x, rfl⟩
        refine m_if 7 (((childE (m.getD (m.length - 1) default) (l.getD i default) : Nat) : Int) = (0 : Int)) (fun c11 => ?_) (fun c11 => ?_)
        · -- yes
          refine m_ldW 2 5 b7 35 363 ((childS (m.getD (m.length - 1) default) (l.getD i default)).cells) (SState.size _) ?_
          refine m_slit 0 35 363 SState.cells [childS (m.getD (m.length - 1) default) (l.getD i default)] SState.size fun b12 => ?_
          refine m_appR 0 1 35 363 396 SState.cells m (childS (m.getD (m.length - 1) default) (l.getD i default)) ((SrcW.cut 3 0 1 1).news (by kernel_rfl)) (by first | exact ⟨(by simp only [maxLen]; omega), (by omega)⟩ | exact ⟨(by simp only [maxLen, List.nil_append, List.length_nil, List.length_drop, List.length_take]; omega), (by simp only [List.nil_append, List.length_nil, List.length_drop, List.length_take]; omega)⟩ | (have h1 : (m.drop (o + 1)).length = m.length - (o + 1) := List.length_drop; have h2 : (m.take o).length = min o m.length := List.length_take; exact ⟨(show (List.append [] (m.take o)).length + (m.drop (o + 1)).length ≤ maxLen by simp only [maxLen]; change (m.take o).length + _ ≤ _; omega), (by show ((m.take o).length + (m.drop (o + 1)).length) * 396 ≤ 140737488355328; omega)⟩)) fun ao13 cap14 => ?_
          refine m_i64 5 (((i : Nat) : Int) + (1 : Int)) (i + 1) (by omega) ?_
          exact m_back 2 (i + 1, ao13, cap14, m ++ [childS (m.getD (m.length - 1) default) (l.getD i default)]) [1, 3] ⟨⟨(by omega), (by exact hm.snoc (hl.get (by omega)) (by omega)), (by show (m ++ [_]).length ≤ _; rw [List.length_append, List.length_singleton]; omega)⟩, (by omega)⟩
        · -- no
          refine m_i64 4 (((i : Nat) : Int) + (1 : Int)) (i + 1) (by omega) ?_
          exact m_back 2 (i + 1, ao', cp, m) [0, 2] ⟨⟨(by omega), hm, (by show m.length ≤ i + 1 + 1; omega)⟩, (by omega)⟩
    · -- no
      refine m_trim 14 ?_
      refine m_loop (X := Nat) 0 [2, 7, 53] (fun (x : Nat) => [(54, (.int .i64 ((x : Nat) : Int)))]) [] (fun (x : Nat) => []) (fun (x : Nat) => (x ≤ m.length)) (fun (x : Nat) => m.length - x) 0 (Nat.zero_le _) (fun x u15 hx => ?_)
      obtain ⟨k, rfl⟩ : ∃ y, y = x := ⟨x, rfl⟩
      have hk := hx
      refine m_if 6 (((k : Nat) : Int) < ((m.length : Nat) : Int)) (fun c16 => ?_) (fun c16 => ?_)
      · -- yes
        refine m_i64 14 (((k : Nat) : Int) + (1 : Int)) (k + 1) (by omega) ?_
        refine m_rowle 3 m.length cp fun hc17 hc17' => ?_
        refine m_slc 0 363 m.length cp 0 (k + 1) cp ((m.take (k + 1)).length) (cp - 0) ao' ⟨(by omega), (by omega), (by omega)⟩ (by first | (rw [List.length_drop]; done) | (rw [List.length_take]; omega)) rfl ?_
        refine m_call 0 [] (line_j (cutA ao' 0 cp 363) (cp - 0) (m.take (k + 1)) (by have h0 := hm.take (n := k + 1) (by omega) (by omega); exact h0.all) (by have h0 := hm.take (n := k + 1) (by omega) (by omega); (simp only [List.length_take]; omega)) (by have h0 := hm.take (n := k + 1) (by omega) (by omega); exact fun _ => h0.fst)) (.cons 3 (.cutX 0 (k + 1) cp 363 (RL SState.cells m) (RL SState.cells (m.take (k + 1))) (by omega) (takeR_cut SState.size m (k + 1))) (.cons 2 (.refl) .nil)) ?_
        rintro _ _ ⟨hv18, rfl⟩
        rw [show ((.tuple #[(.int .i64 (((lineL (m.take (k + 1))).1 : Nat) : Int)), (.int .i64 (((lineL (m.take (k + 1))).2 : Nat) : Int))]) : Value) = (.tuple #[(.int .i64 ((k + 1 : Nat) : Int)), (.int .i64 0)]) from by rw [line_take hm (by omega) (by omega)]; first | done | kernel_rfl] at hv18; subst hv18
        refine m_rowle 3 m.length cp fun hc19 hc19' => ?_
        refine m_slc 11 363 m.length cp k m.length cp ((m.drop k).length) (cp - k) ao' ⟨(by omega), (by omega), (by omega)⟩ (by first | (rw [List.length_drop]; done) | (rw [List.length_take]; omega)) rfl ?_
        refine m_call 0 [] (line_j (cutA ao' k cp 363) (cp - k) (m.drop k) (by have h0 := hm.drop (n := k) (by omega); exact h0.all) (by have h0 := hm.drop (n := k) (by omega); (simp only [List.length_drop]; omega)) (by have h0 := hm.drop (n := k) (by omega); exact fun _ => h0.fst)) (.cons 3 (.cutX k (m.length - k) cp 363 (RL SState.cells m) (RL SState.cells (m.drop k)) (by omega) (dropR_cut SState.size m k)) (.cons 2 (.refl) .nil)) ?_
        rintro _ _ ⟨hv20, rfl⟩
        rw [show ((.tuple #[(.int .i64 (((lineL (m.drop k)).1 : Nat) : Int)), (.int .i64 (((lineL (m.drop k)).2 : Nat) : Int))]) : Value) = (.tuple #[(.int .i64 ((m.length - k : Nat) : Int)), (.int .i64 0)]) from by rw [line_drop hm (by omega)]; first | done | kernel_rfl] at hv20; subst hv20
        refine m_i64 11 (((k : Nat) : Int) + (1 : Int)) (k + 1) (by omega) ?_
        refine m_as 0 (.bool (!decide (((k + 1 : Nat) : Int) = ((k + 1 : Nat) : Int)))) (.bool false) (by rw [decide_eq_true rfl]; rfl) ?_
        refine m_i64 9 (((m.length : Nat) : Int) - ((k : Nat) : Int)) (m.length - k) (by omega) ?_
        refine m_as 0 (.bool (!decide (((m.length - k : Nat) : Int) = ((m.length - k : Nat) : Int)))) (.bool false) (by rw [decide_eq_true rfl]; rfl) ?_
        refine m_i64 12 (((k : Nat) : Int) + (1 : Int)) (k + 1) (by omega) ?_
        exact m_back 2 (k + 1) [0, 0] ⟨(by omega), (by omega)⟩
      · -- no
        refine m_sp 10 ((-((o : Nat) : Int) - 1) < (1 : Int)) (fun c21 => ?_) (fun c21 => absurd (by omega) c21)
        exact m_ret 16 (.bool true) [] ⟨(rfl), by kernel_rfl⟩

theorem linkLine_j (led : List Nat) (ao : Option Addr) (cap : Nat) (l : List GBlk) (out : Int) (hled : H32 led) (hl : AllB l) (hn : l.length ≤ 9223372036854775807) (h : -9223372036854775808 ≤ out ∧ out ≤ 9223372036854775807) :
    Does Tryd.prog 4 #[.agg (hv led), .slice ao l.length cap, .int .i64 out] [.rd ao (RL GBlk.cells l), (.rd (some ⟨1, 0, none⟩) ((hw KL).toList))] [] (fun v H => v = (.bool true) ∧ H = []) := by
  by_cases h0 : out < 0
  · obtain ⟨n, rfl⟩ : ∃ n : Nat, out = -((n : Nat) : Int) - 1 := ⟨(-out - 1).toNat, by omega⟩
    exact linkLine_neg led ao cap l n hled hl hn (by omega)
  · obtain ⟨n, rfl⟩ : ∃ n : Nat, out = ((n : Nat) : Int) := ⟨out.toNat, by omega⟩
    exact linkLine_n led ao cap l n hled hl hn (by omega)

end Go.Proofs.YtddblcihkpnpmaaDoor
