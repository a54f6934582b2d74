/- Layer 13's laws. -/
import Derived.Test.YtinmmamnldephaaGreatDoorCJ
import Derived.Test.YtinmmamnldephaaGreatDoorLib7
namespace Go.Proofs.YtinmmamnldephaaGreatDoor
open Go Go.RowKit Go.Alm
set_option maxRecDepth 100000 in
theorem own13_j (s : SState) (hs : SState.Ok s) :
    Does Tryz.prog 8 #[(.agg (s.cells))] [] [] (fun v H => v = (.agg (s.cells)) ∧ H = []) := by
  have hhs_slot := hs.slot; have hhs_len := hs.len; have hhs_count := hs.count; have hhs_win_min := hs.win.min; have hhs_win_ring_last := hs.win.ring.last; have hhs_win_ring_counts := hs.win.ring.counts; have hhs_eps_now_len := hs.eps.now.len; have hhs_eps_next_len := hs.eps.next.len
  refine m_fn fun F => ?_
  refine m_new 2 fun b1 => ?_
  refine m_new 0 fun b2 => ?_
  refine m_ld 5 2 ?_
  refine m_ld 1 2 ?_
  refine m_ld 1 2 ?_
  refine m_ld 1 2 ?_
  refine m_ld 1 2 ?_
  refine m_ld 1 2 ?_
  refine m_ld 2 2 ?_
  refine m_ld 2 2 ?_
  refine m_ld 3 2 ?_
  refine m_ld 2 2 ?_
  refine m_stW 2 0 363 (s.cells) (SState.size _) (SState.ones _) ?_
  exact m_retCW 3 1 [] 363 b2 49 (s.cells) (SState.size _) (.agg (s.cells)) [] ⟨(rfl), by kernel_rfl⟩

set_option maxRecDepth 100000 in
theorem right13_j (ao : Option Addr) (cap : Nat) (l : List SState) (hl : AllS l) (hn : l.length ≤ 9223372036854775807) :
    Does Tryz.prog 5 #[(.slice ao l.length cap)] [(.rd ao (RL SState.cells l))] [] (fun v H => v = (.bool (rightL l)) ∧ H = []) := by
  refine m_fn fun F => ?_
  refine m_loop (X := Nat) 14 [0, 5, 6] (fun (x : Nat) => [(7, (.int .i64 ((x : Nat) : Int)))]) [] (fun (x : Nat) => []) (fun (x : Nat) => (x ≤ l.length) ∧ (∀ j, j < x → (l.getD j default).Right)) (fun (x : Nat) => l.length - x) 0 (⟨Nat.zero_le _, fun _ h => absurd h (by omega)⟩) (fun x u1 hx => ?_)
  obtain ⟨i, rfl⟩ : ∃ y, y = x := ⟨x, rfl⟩
  obtain ⟨hi, hg⟩ := hx
  refine m_if 6 (((i : Nat) : Int) < ((l.length : Nat) : Int)) (fun c2 => ?_) (fun c2 => ?_)
  · -- yes
    refine m_ix 6 1 363 l.length i (RL SState.cells l) .i64 (by omega) (by rw [RL_length SState.size]; omega) ?_
    refine m_lxN 0 1 (i * 363) 363 (RL SState.cells l) ((l.getD i default).cells) (RL_whole (f := SState.cells) (sz := 363) (l := l) (k := i) SState.size default (by omega)) (SState.size _) ?_
    refine m_new 0 fun b3 => ?_
    refine m_stW 0 0 363 ((l.getD i default).cells) (SState.size _) (SState.ones _) ?_
    refine m_ldW 4 2 b3 35 363 ((l.getD i default).cells) (SState.size _) ?_
    refine m_call 0 [] (own13_j (l.getD i default) (AllS.get hl (by omega))) .nil ?_
    rintro _ _ ⟨rfl, rfl⟩
    refine m_call 0 [] (rstR_j (l.getD i default) (AllS.get hl (by omega))) .nil ?_
    rintro _ _ ⟨rfl, rfl⟩
    refine m_ifn 3 (SState.Right (l.getD i default)) (fun c4 => ?_) (fun c4 => ?_)
    · -- no
      refine m_i64 4 (((i : Nat) : Int) + (1 : Int)) (i + 1) (by omega) ?_
      exact m_back 2 (i + 1) [] ⟨⟨(by omega), (fun j hj => (Nat.lt_succ_iff_lt_or_eq.1 hj).elim (hg j) (fun e => e ▸ (by assumption)))⟩, (by omega)⟩
    · -- yes
      exact m_ret 11 (.bool false) [] ⟨(by rw [rightL_no (i := i) (by omega) (by assumption)]), by kernel_rfl⟩
  · -- no
    exact m_ret 14 (.bool (decide (((l.length : Nat) : Int) ≤ (20 : Int)))) [] ⟨(by rw [rightL_yes (fun j hj => hg j (by omega))]; first | done | rfl), by kernel_rfl⟩

set_option maxRecDepth 100000 in
theorem awake13_j :
    Does Tryz.prog 4 #[] [(.rd (some ⟨0, 0, none⟩) ((hw KL).toList))] [] (fun v H => v = (.bool true) ∧ H = []) := by
  refine m_fn fun F => ?_
  refine m_call 8 [] (stateG_j (hlit 1) (hlit_ok (n := 1) (by decide))) .nil ?_
  refine bind_var awg fun g hg => ?_
  have okg : SState.Ok g := by rw [hg]; exact awg_ok
  have rg : SState.Right g := by rw [hg]; exact awg_right
  rintro _ _ ⟨hv1, rfl⟩
  rw [show ((.agg ((stateF (hlit 1)).cells)) : Value) = (.agg (g.cells)) from by rw [hg]; rfl] at hv1; subst hv1
  refine m_new 0 fun b2 => ?_
  refine m_stW 0 0 363 (g.cells) (SState.size _) (SState.ones _) ?_
  refine m_ldW 4 2 b2 35 363 (g.cells) (SState.size _) ?_
  refine m_call 1 [] (child_j g (⟨3, Z32, Z32⟩ : GBlk) okg (rg) ⟨(by first | omega | decide | exact nar_lt _ | with_reducible assumption | (dsimp only; first | omega | exact nar_lt _)), H32.zero, H32.zero⟩) (.cons 1 (.refl) .nil) ?_
  refine bind_var awa fun ya hya => ?_
  have okya : SState.Ok ya := by rw [hya]; exact awa_ok
  have rya : SState.Right ya := by rw [hya]; exact awa_right
  rintro _ _ ⟨hv3, rfl⟩
  rw [show ((.tuple #[(.agg ((childS g (⟨3, Z32, Z32⟩ : GBlk)).cells)), (.int .i64 ((childE g (⟨3, Z32, Z32⟩ : GBlk) : Nat) : Int))]) : Value) = (.tuple #[(.agg (ya.cells)), (.int .i64 0)]) from by rw [hya, hg, show childE awg (⟨3, Z32, Z32⟩ : GBlk) = 0 from awE1]; rfl] at hv3; subst hv3
  refine m_new 3 fun b4 => ?_
  refine m_stW 0 0 363 (ya.cells) (SState.size _) (SState.ones _) ?_
  refine m_ldW 5 3 b2 35 363 (g.cells) (SState.size _) ?_
  refine m_call 2 [] (child_j g (⟨5, Z32, (hlit 1)⟩ : GBlk) okg (rg) ⟨(by first | omega | decide | exact nar_lt _ | with_reducible assumption | (dsimp only; first | omega | exact nar_lt _)), H32.zero, (hlit_ok (n := 1) (by decide))⟩) (.cons 1 (.refl) .nil) ?_
  refine bind_var awc fun yc hyc => ?_
  have okyc : SState.Ok yc := by rw [hyc]; exact awc_ok
  have ryc : SState.Right yc := by rw [hyc]; exact awc_right
  rintro _ _ ⟨hv5, rfl⟩
  rw [show ((.tuple #[(.agg ((childS g (⟨5, Z32, (hlit 1)⟩ : GBlk)).cells)), (.int .i64 ((childE g (⟨5, Z32, (hlit 1)⟩ : GBlk) : Nat) : Int))]) : Value) = (.tuple #[(.agg (yc.cells)), (.int .i64 0)]) from by rw [hyc, hg, show childE awg (⟨5, Z32, hlit 1⟩ : GBlk) = 0 from awE5]; rfl] at hv5; subst hv5
  refine m_new 3 fun b6 => ?_
  refine m_stW 0 0 363 (yc.cells) (SState.size _) (SState.ones _) ?_
  refine m_ldW 5 4 b2 35 363 (g.cells) (SState.size _) ?_
  refine m_call 1 [] (child_j g (⟨100, Z32, Z32⟩ : GBlk) okg (rg) ⟨(by first | omega | decide | exact nar_lt _ | with_reducible assumption | (dsimp only; first | omega | exact nar_lt _)), H32.zero, H32.zero⟩) (.cons 1 (.refl) .nil) ?_
  refine bind_var awf fun yf hyf => ?_
  have okyf : SState.Ok yf := by rw [hyf]; exact awf_ok
  have ryf : SState.Right yf := by rw [hyf]; exact awf_right
  rintro _ _ ⟨hv7, rfl⟩
  rw [show ((.tuple #[(.agg ((childS g (⟨100, Z32, Z32⟩ : GBlk)).cells)), (.int .i64 ((childE g (⟨100, Z32, Z32⟩ : GBlk) : Nat) : Int))]) : Value) = (.tuple #[(.agg (yf.cells)), (.int .i64 0)]) from by rw [hyf, hg, show childE awg (⟨100, Z32, Z32⟩ : GBlk) = 0 from awEf]; rfl] at hv7; subst hv7
  refine m_new 3 fun b8 => ?_
  refine m_stW 0 0 363 (yf.cells) (SState.size _) (SState.ones _) ?_
  refine m_ldW 5 4 b4 35 363 (ya.cells) (SState.size _) ?_
  refine m_ldW 0 2 b8 35 363 (yf.cells) (SState.size _) ?_
  refine m_call 0 [] (den_j ya yf okya okyf (rya) (ryf)) .nil ?_
  rintro _ _ ⟨hv9, rfl⟩
  rw [show ((.tuple #[(.int .u32 ((denA ya yf : Nat) : Int)), (.int .u32 ((denA yf ya : Nat) : Int))]) : Value) = (.tuple #[(.int .u32 0), (.int .u32 0)]) from by rw [hya, hyf, awD1, awD2]; rfl] at hv9; subst hv9
  refine m_ldW 9 5 b2 35 363 (g.cells) (SState.size _) ?_
  refine m_ldW 0 4 b4 35 363 (ya.cells) (SState.size _) ?_
  refine m_ldW 0 3 b6 35 363 (yc.cells) (SState.size _) ?_
  refine m_ldW 0 4 b4 35 363 (ya.cells) (SState.size _) ?_
  refine m_slit 0 35 363 SState.cells [ya, yc, ya] SState.size fun b10 => ?_
  refine m_call 0 [] (fold_j g (some ⟨b10, 0, none⟩) 3 [ya, yc, ya] okg (rg) (by rw [hya, hyc]; intro x hx; simp only [List.mem_cons, List.not_mem_nil, or_false] at hx; rcases hx with rfl | rfl | rfl; exact awa_ok; exact awc_ok; exact awa_ok) (by rw [hya, hyc]; intro x hx; simp only [List.mem_cons, List.not_mem_nil, or_false] at hx; rcases hx with rfl | rfl | rfl; exact awa_right; exact awc_right; exact awa_right) (by simp)) (.cons 2 (.rd) (.cons 1 (.refl) .nil)) ?_
  rintro _ _ ⟨hv11, rfl⟩
  rw [show ((.tuple #[(.agg (((foldS g [ya, yc, ya] 0).1).cells)), (.int .i64 (((foldS g [ya, yc, ya] 0).2 : Nat) : Int))]) : Value) = (.tuple #[(.agg (yc.cells)), (.int .i64 2)]) from by rw [hg, hya, hyc, awFo]; rfl] at hv11; subst hv11
  refine m_new 3 fun b12 => ?_
  refine m_stW 0 0 363 (yc.cells) (SState.size _) (SState.ones _) ?_
  refine m_plan 4 [1, 5, 11, 16, 22, 25, 26, 27, 28, 29, 30, 31, 32, 33, 34, 35, 36, 37, 38, 39, 40, 41, 42, 43, 44, 45, 46, 47, 48, 49, 50, 51, 52, 53, 54, 55, 56] (.q 0 true (.q 1 true (.e 2 (.q 3 false (.q 4 true (.q 5 true (.e 6 (.q 7 false (.q 8 false (.q 9 false (.q 10 true (.q 11 true (.e 12 (.q 13 false (.q 14 false (.q 15 true (.q 16 true (.e 17 (.q 18 false (.q 19 false (.q 20 false (.q 21 true (.q 22 true (.e 23 (.q 24 false (.q 25 false (.q 26 true (.q 27 true (.e 28 (.q 29 false (.q 30 false (.q 31 false (.q 32 false (.q 33 false (.q 34 false (.q 35 false (.q 36 false (.q 37 false (.q 38 false (.q 39 false (.q 40 true (.q 41 true (.q 43 true (.q 44 true (.e 42 (.e 45 (.q 46 false (.q 47 false (.q 48 false (.q 49 true (.q 50 true (.q 51 false (.q 52 false (.q 53 false (.q 54 false (.q 55 false (.q 56 false (.q 57 false .n)))))))))))))))))))))))))))))))))))))))))))))))))))))))))) [4, 3, 2, 2, 0] ?_
  refine m_ldW 0 2 b4 35 363 (ya.cells) (SState.size _) ?_
  refine m_ldW 0 3 b6 35 363 (yc.cells) (SState.size _) ?_
  refine m_call 0 [] (near_j ya yc okya okyc) .nil ?_
  rintro _ _ ⟨hv13, rfl⟩
  rw [show ((.bool (decide (nearQ ya yc))) : Value) = (.bool true) from by rw [decide_eq_true (by rw [hya, hyc]; exact awN1)]] at hv13; subst hv13
  refine m_ldW 1 2 b4 35 363 (ya.cells) (SState.size _) ?_
  refine m_ldW 0 4 b8 35 363 (yf.cells) (SState.size _) ?_
  refine m_call 0 [] (near_j ya yf okya okyf) .nil ?_
  rintro _ _ ⟨hv14, rfl⟩
  rw [show ((.bool (decide (nearQ ya yf))) : Value) = (.bool false) from by rw [decide_eq_false (by rw [hya, hyf]; exact awN2)]] at hv14; subst hv14
  refine m_ldW 3 5 b2 35 363 (g.cells) (SState.size _) ?_
  refine m_ldW 0 2 b4 35 363 (ya.cells) (SState.size _) ?_
  refine m_call 0 [] (wins_j g ya okg okya (rg) (rya)) (.cons 1 (.refl) .nil) ?_
  rintro _ _ ⟨hv15, rfl⟩
  rw [show ((.bool (decide (winsQ g ya))) : Value) = (.bool true) from by rw [decide_eq_true (by rw [hg, hya]; exact awW1)]] at hv15; subst hv15
  refine m_ldW 2 2 b4 35 363 (ya.cells) (SState.size _) ?_
  refine m_ldW 0 5 b2 35 363 (g.cells) (SState.size _) ?_
  refine m_call 0 [] (wins_j ya g okya okg (rya) (rg)) (.cons 1 (.refl) .nil) ?_
  rintro _ _ ⟨hv16, rfl⟩
  rw [show ((.bool (decide (winsQ ya g))) : Value) = (.bool false) from by rw [decide_eq_false (by rw [hya, hg]; exact awW2)]] at hv16; subst hv16
  refine m_ldW 3 2 b4 35 363 (ya.cells) (SState.size _) ?_
  refine m_ldW 0 3 b6 35 363 (yc.cells) (SState.size _) ?_
  refine m_call 0 [] (wins_j ya yc okya okyc (rya) (ryc)) (.cons 1 (.refl) .nil) ?_
  rintro _ _ ⟨hv17, rfl⟩
  rw [show ((.bool (decide (winsQ ya yc))) : Value) = (.bool true) from by rw [decide_eq_true (by rw [hya, hyc]; exact awW3)]] at hv17; subst hv17
  refine m_ldW 2 3 b6 35 363 (yc.cells) (SState.size _) ?_
  refine m_ldW 0 2 b4 35 363 (ya.cells) (SState.size _) ?_
  refine m_call 0 [] (wins_j yc ya okyc okya (ryc) (rya)) (.cons 1 (.refl) .nil) ?_
  rintro _ _ ⟨hv18, rfl⟩
  rw [show ((.bool (decide (winsQ yc ya))) : Value) = (.bool false) from by rw [decide_eq_false (by rw [hyc, hya]; exact awW4)]] at hv18; subst hv18
  refine m_ldW 11 2 b4 35 363 (ya.cells) (SState.size _) ?_
  refine m_ldW 0 4 b8 35 363 (yf.cells) (SState.size _) ?_
  refine m_ldW 0 4 b8 35 363 (yf.cells) (SState.size _) ?_
  refine m_ldW 0 2 b4 35 363 (ya.cells) (SState.size _) ?_
  refine m_call 0 [] (wins_j ya yf okya okyf (rya) (ryf)) (.cons 1 (.refl) .nil) ?_
  rintro _ _ ⟨rfl, rfl⟩
  refine m_call 0 [] (wins_j yf ya okyf okya (ryf) (rya)) (.cons 1 (.refl) .nil) ?_
  rintro _ _ ⟨rfl, rfl⟩
  refine m_spb 2 ((decide (winsQ ya yf)) != (decide (winsQ yf ya))) (fun c19 => ?_) (fun c19 => absurd (c19.symm.trans (xor_wins okya okyf (by rw [hya, hyf]; exact awH))) (by decide))
  refine m_ldW 0 6 b12 35 363 (yc.cells) (SState.size _) ?_
  refine m_ldW 0 3 b6 35 363 (yc.cells) (SState.size _) ?_
  refine m_eqT 0 true (yc.cells) (SState.wf okyc) ?_
  refine m_thaw 7 ?_
  exact m_ret 2 (.bool true) [] ⟨(rfl), by kernel_rfl⟩


end Go.Proofs.YtinmmamnldephaaGreatDoor
