/- Layer 12's third law. -/
import Derived.Test.YtmnehhpfbmoahaaDoorL12
import Derived.Test.YtmnehhpfbmoahaaDoorLib6
namespace Go.Proofs.YtmnehhpfbmoahaaDoor
open Go Go.RowKit Go.Alm
set_option maxRecDepth 100000 in
set_option maxHeartbeats 1000000 in
theorem orderGreatest_n (ao : Option Addr) (cap : Nat) (l : List OKey) (n : Nat) (hl : AllOk l) (hc : l.length ≤ cap) (hm : cap ≤ 9223372036854775807) (hn : n < 9223372036854775808) :
    Does Tryd.prog 13 #[(.slice ao l.length cap), (.int .i64 ((n : Nat) : Int))] [(.rd ao (RL OKey.cells l)), (.rd (some ⟨1, 0, none⟩) ((hw KL).toList))] [] (fun v H => v = (.bool true) ∧ H = []) := by
  refine m_fn fun F => ?_
  refine m_call 8 [] (awake12_j) (.cons 2 (.refl) .nil) ?_
  rintro _ _ ⟨rfl, rfl⟩
  refine m_sp 12 (((l.length : Nat) : Int) > (40 : Int)) (fun c1 => ?_) (fun c1 => ?_)
  · -- yes
    exact m_ret 19 (.bool true) [] ⟨(rfl), by kernel_rfl⟩
  · -- no
    refine m_sp 3 (((n : Nat) : Int) < (0 : Int)) (fun c2 => ?_) (fun c2 => ?_)
    · -- yes
      exact m_ret 15 (.bool true) [] ⟨(rfl), by kernel_rfl⟩
    · -- no
      refine m_if 7 (((n : Nat) : Int) > ((l.length : Nat) : Int)) (fun c3 => ?_) (fun c3 => ?_)
      · -- yes
        exact m_ret 7 (.bool true) [] ⟨(rfl), by kernel_rfl⟩
      · -- no
        refine m_call 5 [] (great_j ao cap l (by exact hl) (by omega)) (.cons 1 (.refl) .nil) ?_
        rintro _ _ ⟨rfl, rfl⟩
        refine m_if 11 (((l.length : Nat) : Int) = (0 : Int)) (fun c4 => ?_) (fun c4 => ?_)
        · -- yes
          exact m_ret 9 (.bool (decide ((grtN l l.length) = (-1 : Int)))) [] ⟨(congrArg Value.bool (decide_eq_true (by rw [show l.length = 0 from by omega]; rfl))), by kernel_rfl⟩
        · -- no
          obtain ⟨m, hgm, hg⟩ := grtN_spec hl (Nat.le_refl _) (show 0 < l.length by omega); have hmlt := hg.lt
          refine m_sp 7 ((grtN l l.length) < (0 : Int)) (fun c5 => absurd c5 (by omega)) (fun c5 => ?_)
          refine m_if 7 ((grtN l l.length) ≥ ((l.length : Nat) : Int)) (fun c6 => absurd c6 (by omega)) (fun c6 => ?_)
          refine m_loop (X := Nat) 11 [0, 1, 5, 40, 41] (fun (x : Nat) => [(42, (.int .i64 ((x : Nat) : Int)))]) [] (fun (x : Nat) => []) (fun (x : Nat) => (x ≤ l.length)) (fun (x : Nat) => l.length - x) 0 (Nat.zero_le _) (fun x u7 hx => ?_)
          obtain ⟨i, rfl⟩ : ∃ y, y = x := ⟨x, rfl⟩
          have hi := hx
          refine m_if 6 (((i : Nat) : Int) < ((l.length : Nat) : Int)) (fun c8 => ?_) (fun c8 => ?_)
          · -- yes
            refine m_ix 7 1 65 l.length i (RL OKey.cells l) .i64 (by omega) (by rw [RL_length OKey.size]; omega) ?_
            refine m_lxN 0 1 (i * 65) 65 (RL OKey.cells l) ((l.getD i default).cells) (RL_whole (f := OKey.cells) (sz := 65) (l := l) (k := i) OKey.size default (by omega)) (OKey.size _) ?_
            refine m_new 0 fun b9 => ?_
            refine m_st 1 0 ?_
            refine m_plan 3 [1, 2, 3, 4, 13, 14, 15, 16] (.q 0 true (.q 1 false (.q 2 false (.q 3 false (.q 4 true (.e 5 (.q 6 false (.q 7 false (.q 8 false (.q 9 false (.q 10 false (.q 11 false (.q 12 true (.q 13 false (.q 14 false (.q 15 false (.q 16 true (.q 17 false (.q 18 false (.q 19 false .n)))))))))))))))))))) [0] ?_
            refine m_ld 0 3 ?_
            refine m_i 1 .i64 (grtN l l.length) (m : Int) hgm ?_
            refine m_ix 0 1 65 l.length m (RL OKey.cells l) .i64 (by omega) (by rw [RL_length OKey.size]; omega) ?_
            refine m_lxN 0 1 (m * 65) 65 (RL OKey.cells l) ((l.getD m default).cells) (RL_whole (f := OKey.cells) (sz := 65) (l := l) (k := m) OKey.size default (by omega)) (OKey.size _) ?_
            refine m_call 0 [] (ocmp_j (l.getD i default) (l.getD m default) (AllOk.get hl (by omega)) (AllOk.get hl (by omega))) .nil ?_
            rintro _ _ ⟨rfl, rfl⟩
            refine m_sp 1 ((cmpK (l.getD i default) (l.getD m default)) > (0 : Int)) (fun c10 => absurd c10 (by have := hg.all i (by omega); omega)) (fun c10 => ?_)
            refine m_i 1 .i64 (grtN l l.length) (m : Int) hgm ?_
            refine m_sp 1 (((i : Nat) : Int) < ((m : Nat) : Int)) (fun c11 => ?_) (fun c11 => ?_)
            · -- yes
              refine m_ld 0 3 ?_
              refine m_i 1 .i64 (grtN l l.length) (m : Int) hgm ?_
              refine m_ix 0 1 65 l.length m (RL OKey.cells l) .i64 (by omega) (by rw [RL_length OKey.size]; omega) ?_
              refine m_lxN 0 1 (m * 65) 65 (RL OKey.cells l) ((l.getD m default).cells) (RL_whole (f := OKey.cells) (sz := 65) (l := l) (k := m) OKey.size default (by omega)) (OKey.size _) ?_
              refine m_eqs 0 true ((l.getD i default).cells) ((l.getD m default).cells) (l.getD i default = l.getD m default) (OKey.inj (AllOk.get hl (by omega)) (AllOk.get hl (by omega))) (OKey.wf (AllOk.get hl (by omega))) (OKey.wf (AllOk.get hl (by omega))) (fun c12 => absurd c12 (fun e => by have := hg.fst i (by omega); rw [e, cmpK_self] at this; omega)) (fun _ => ?_)
              refine m_thaw 3 ?_
              refine m_i64 6 (((i : Nat) : Int) + (1 : Int)) (i + 1) (by omega) ?_
              exact m_back 2 (i + 1) [] ⟨(by omega), (by omega)⟩
            · -- no
              refine m_thaw 9 ?_
              refine m_i64 6 (((i : Nat) : Int) + (1 : Int)) (i + 1) (by omega) ?_
              exact m_back 2 (i + 1) [] ⟨(by omega), (by omega)⟩
          · -- no
            refine m_plan 6 [] (.q 1 false (.q 2 false (.q 3 false (.q 5 false (.q 6 false (.q 7 false (.e 0 (.e 4 (.e 8 (.q 9 false .n)))))))))) [] ?_
            refine m_slc 2 65 l.length cap n l.length cap ((l.drop n).length) (cap - n) ao ⟨(by omega), (by omega), (by omega)⟩ (by first | (rw [List.length_drop]) | (rw [List.length_take]; omega)) rfl ?_
            refine m_slc 2 65 l.length cap 0 n cap ((l.take n).length) (cap - 0) ao ⟨(by omega), (by omega), (by omega)⟩ (by first | (rw [List.length_drop]) | (rw [List.length_take]; omega)) rfl ?_
            refine m_new 0 fun b13 => ?_
            refine m_view 0 _ (.made 103 65 0 0 (RL OKey.cells [])) ?_
            refine m_appRs 0 0 103 65 68 OKey.cells [] (l.drop n) (SrcW.cutX (ao := ao) 1 n (l.length - n) cap (cap - n) ((l.drop n).length) (RL OKey.cells l) (RL OKey.cells (l.drop n)) (by omega) (drop_cut l n) (RL_length OKey.size _) (RL_one OKey.one _)) (by first | exact ⟨(by simp only [maxLen, List.nil_append, List.length_nil, List.length_drop, List.length_take]; omega), (by simp only [List.nil_append, List.length_nil, List.length_drop, List.length_take]; omega)⟩ | (have h1 : (l.drop n).length = l.length - n := List.length_drop; have h2 : (l.take n).length = min n l.length := List.length_take; exact ⟨(show (l.drop n).length + (l.take n).length ≤ maxLen by simp only [maxLen]; omega), (show ((l.drop n).length + (l.take n).length) * 68 ≤ _ by omega)⟩)) fun ao14 cap15 => ?_
            refine m_appRs 0 0 103 65 68 OKey.cells (List.append [] (l.drop n)) (l.take n) (SrcW.cutX (ao := ao) 1 0 n cap (cap - 0) ((l.take n).length) (RL OKey.cells l) (RL OKey.cells (l.take n)) (by omega) (take_cut' l n) (RL_length OKey.size _) (RL_one OKey.one _)) (by first | exact ⟨(by simp only [maxLen, List.nil_append, List.length_nil, List.length_drop, List.length_take]; omega), (by simp only [List.nil_append, List.length_nil, List.length_drop, List.length_take]; omega)⟩ | (have h1 : (l.drop n).length = l.length - n := List.length_drop; have h2 : (l.take n).length = min n l.length := List.length_take; exact ⟨(show (l.drop n).length + (l.take n).length ≤ maxLen by simp only [maxLen]; omega), (show ((l.drop n).length + (l.take n).length) * 68 ≤ _ by omega)⟩)) fun ao16 cap17 => ?_
            refine m_thaw 2 ?_
            refine m_call 4 [] (great_j ao16 cap17 (List.append (List.append [] (l.drop n)) (l.take n)) (by exact rot_ok hl n) (by have hrl2 : (List.append (List.append [] (l.drop n)) (l.take n)).length = l.length := rot_len l n; omega)) (.cons 3 (.rd) .nil) ?_
            obtain ⟨m2, hm2, hg2⟩ := grtN_spec (rot_ok hl n) (Nat.le_refl _) (by rw [rot_len]; omega); have hm2lt := hg2.lt; have hrl := rot_len l n; have hrl2 : (List.append (List.append [] (l.drop n)) (l.take n)).length = l.length := rot_len l n; have hm3 : grtN (List.append (List.append [] (l.drop n)) (l.take n)) (List.append (List.append [] (l.drop n)) (l.take n)).length = (m2 : Int) := hm2
            rintro _ _ ⟨hv18, rfl⟩
            rw [show ((.int .i64 (grtN (List.append (List.append [] (l.drop n)) (l.take n)) (List.append (List.append [] (l.drop n)) (l.take n)).length)) : Value) = (.int .i64 ((m2 : Nat) : Int)) from congrArg (Value.int .i64) hm3] at hv18; subst hv18
            refine m_plan 4 [13, 14, 15, 16] (.q 0 false (.q 1 false (.q 2 false (.q 3 false (.q 4 false (.q 5 false (.q 6 false (.q 7 false (.q 8 false (.q 9 false (.q 10 false (.q 11 false (.q 12 true (.q 13 false (.q 14 false (.q 15 false (.q 16 true (.q 17 false (.q 18 false (.q 19 false .n)))))))))))))))))))) [0] ?_
            refine m_sp 2 (((m2 : Nat) : Int) ≥ (0 : Int)) (fun c19 => ?_) (fun c19 => absurd (by omega) c19)
            refine m_sp 5 (((m2 : Nat) : Int) < (((List.append (List.append [] (l.drop n)) (l.take n)).length : Nat) : Int)) (fun c20 => ?_) (fun c20 => absurd (by omega) c20)
            refine m_ix 2 3 65 ((List.append (List.append [] (l.drop n)) (l.take n)).length) m2 (RL OKey.cells (List.append (List.append [] (l.drop n)) (l.take n))) .i64 (by omega) (by rw [RL_length OKey.size]; omega) ?_
            refine m_lxN 0 3 (m2 * 65) 65 (RL OKey.cells (List.append (List.append [] (l.drop n)) (l.take n))) (((List.append (List.append [] (l.drop n)) (l.take n)).getD m2 default).cells) (RL_whole (f := OKey.cells) (sz := 65) (l := List.append (List.append [] (l.drop n)) (l.take n)) (k := m2) OKey.size default (by omega)) (OKey.size _) ?_
            refine m_i 1 .i64 (grtN l l.length) (m : Int) hgm ?_
            refine m_ix 0 1 65 l.length m (RL OKey.cells l) .i64 (by omega) (by rw [RL_length OKey.size]; omega) ?_
            refine m_lxN 0 1 (m * 65) 65 (RL OKey.cells l) ((l.getD m default).cells) (RL_whole (f := OKey.cells) (sz := 65) (l := l) (k := m) OKey.size default (by omega)) (OKey.size _) ?_
            refine m_eqs 0 true (((List.append (List.append [] (l.drop n)) (l.take n)).getD m2 default).cells) ((l.getD m default).cells) ((List.append (List.append [] (l.drop n)) (l.take n)).getD m2 default = l.getD m default) (OKey.inj (AllOk.get (rot_ok hl n) (by omega)) (AllOk.get hl (by omega))) (OKey.wf (AllOk.get (rot_ok hl n) (by omega))) (OKey.wf (AllOk.get hl (by omega))) (fun _ => ?_) (fun c21 => absurd (rot_same hl hg hg2) c21)
            refine m_thaw 3 ?_
            exact m_ret 2 (.bool true) [] ⟨(rfl), by kernel_rfl⟩

set_option maxRecDepth 100000 in
theorem orderGreatest_neg (ao : Option Addr) (cap : Nat) (l : List OKey) (n : Nat) (hl : AllOk l) (hc : l.length ≤ cap) (hm : cap ≤ 9223372036854775807) (hn : n < 9223372036854775808) :
    Does Tryd.prog 13 #[(.slice ao l.length cap), (.int .i64 (-((n : Nat) : Int) - 1))] [(.rd ao (RL OKey.cells l)), (.rd (some ⟨1, 0, none⟩) ((hw KL).toList))] [] (fun v H => v = (.bool true) ∧ H = []) := by
  refine m_fn fun F => ?_
  refine m_call 8 [] (awake12_j) (.cons 2 (.refl) .nil) ?_
  rintro _ _ ⟨rfl, rfl⟩
  refine m_sp 12 (((l.length : Nat) : Int) > (40 : Int)) (fun c1 => ?_) (fun c1 => ?_)
  · -- yes
    exact m_ret 19 (.bool true) [] ⟨(rfl), by kernel_rfl⟩
  · -- no
    refine m_sp 3 ((-((n : Nat) : Int) - 1) < (0 : Int)) (fun c2 => ?_) (fun c2 => absurd (by omega) c2)
    exact m_ret 15 (.bool true) [] ⟨(rfl), by kernel_rfl⟩

theorem orderGreatest_j (ao : Option Addr) (cap : Nat) (l : List OKey) (turn : Int) (hl : AllOk l) (hc : l.length ≤ cap) (hm : cap ≤ 9223372036854775807) (h : -9223372036854775808 ≤ turn ∧ turn ≤ 9223372036854775807) :
    Does Tryd.prog 13 #[.slice ao l.length cap, .int .i64 turn] [.rd ao (RL OKey.cells l), (.rd (some ⟨1, 0, none⟩) ((hw KL).toList))] [] (fun v H => v = (.bool true) ∧ H = []) := by
  by_cases h0 : turn < 0
  · obtain ⟨n, rfl⟩ : ∃ n : Nat, turn = -((n : Nat) : Int) - 1 := ⟨(-turn - 1).toNat, by omega⟩
    exact orderGreatest_neg ao cap l n hl hc hm (by omega)
  · obtain ⟨n, rfl⟩ : ∃ n : Nat, turn = ((n : Nat) : Int) := ⟨turn.toNat, by omega⟩
    exact orderGreatest_n ao cap l n hl hc hm (by omega)

end Go.Proofs.YtmnehhpfbmoahaaDoor
