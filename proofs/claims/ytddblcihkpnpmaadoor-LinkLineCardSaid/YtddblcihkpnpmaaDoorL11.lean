/- Layer 11's laws. -/
import Derived.Test.YtddblcihkpnpmaaDoorLJ
import Derived.Test.YtddblcihkpnpmaaDoorLib7
import Derived.Test.YtddblcihkpnpmaaDoorLib5
namespace Go.Proofs.YtddblcihkpnpmaaDoor
open Go Go.RowKit Go.Alm
set_option maxRecDepth 100000 in
theorem own11_j (s : SState) (hs : SState.Ok s) :
    Does Tryd.prog 15 #[(.agg (s.cells))] [] [] (fun v H => v = (.agg (s.cells)) ∧ H = []) := by
  have hhs_slot := hs.slot; have hhs_len := hs.len; have hhs_count := hs.count; have hhs_win_min := hs.win.min; have hhs_win_ring_last := hs.win.ring.last; have hhs_win_ring_counts := hs.win.ring.counts; have hhs_eps_now_len := hs.eps.now.len; have hhs_eps_next_len := hs.eps.next.len
  refine m_fn fun F => ?_
  refine m_new 2 fun b1 => ?_
  refine m_new 0 fun b2 => ?_
  refine m_ld 5 2 ?_
  refine m_ld 1 2 ?_
  refine m_ld 1 2 ?_
  refine m_ld 1 2 ?_
  refine m_ld 1 2 ?_
  refine m_ld 1 2 ?_
  refine m_ld 2 2 ?_
  refine m_ld 2 2 ?_
  refine m_ld 3 2 ?_
  refine m_ld 2 2 ?_
  refine m_stW 2 0 363 (s.cells) (SState.size _) (SState.ones _) ?_
  exact m_retCW 3 1 [] 363 b2 46 (s.cells) (SState.size _) (.agg (s.cells)) [] ⟨(rfl), by kernel_rfl⟩

set_option maxRecDepth 100000 in
theorem awake11_j :
    Does Tryd.prog 13 #[] [(.rd (some ⟨1, 0, none⟩) ((hw KL).toList))] [] (fun v H => v = (.bool true) ∧ H = []) := by
  refine m_fn fun F => ?_
  refine m_call 8 [] (stateG_j (hlit 1) (hlit_ok (n := 1) (by decide))) .nil ?_
  refine bind_var awg fun g hg => ?_
  have okg : SState.Ok g := by rw [hg]; exact awg_ok
  have rg : SState.Right g := by rw [hg]; exact awg_right
  rintro _ _ ⟨hv1, rfl⟩
  rw [show ((.agg ((stateF (hlit 1)).cells)) : Value) = (.agg (g.cells)) from by rw [hg]; rfl] at hv1; subst hv1
  refine m_new 0 fun b2 => ?_
  refine m_stW 0 0 363 (g.cells) (SState.size _) (SState.ones _) ?_
  refine m_ldW 4 2 b2 35 363 (g.cells) (SState.size _) ?_
  refine m_call 1 [] (child_j g (⟨3, Z32, Z32⟩ : GBlk) okg (rg) ⟨(by first | omega | decide | exact nar_lt _ | with_reducible assumption | (dsimp only; first | omega | exact nar_lt _)), H32.zero, H32.zero⟩) (.cons 1 (.refl) .nil) ?_
  refine bind_var awa fun ya hya => ?_
  have okya : SState.Ok ya := by rw [hya]; exact awa_ok
  have rya : SState.Right ya := by rw [hya]; exact awa_right
  rintro _ _ ⟨hv3, rfl⟩
  rw [show ((.tuple #[(.agg ((childS g (⟨3, Z32, Z32⟩ : GBlk)).cells)), (.int .i64 ((childE g (⟨3, Z32, Z32⟩ : GBlk) : Nat) : Int))]) : Value) = (.tuple #[(.agg (ya.cells)), (.int .i64 0)]) from by rw [hya, hg, show childE awg (⟨3, Z32, Z32⟩ : GBlk) = 0 from awE1]; rfl] at hv3; subst hv3
  refine m_new 3 fun b4 => ?_
  refine m_stW 0 0 363 (ya.cells) (SState.size _) (SState.ones _) ?_
  refine m_ldW 5 2 b4 35 363 (ya.cells) (SState.size _) ?_
  refine m_call 1 [] (child_j ya (⟨9, Z32, Z32⟩ : GBlk) okya (rya) ⟨(by first | omega | decide | exact nar_lt _ | with_reducible assumption | (dsimp only; first | omega | exact nar_lt _)), H32.zero, H32.zero⟩) (.cons 1 (.refl) .nil) ?_
  refine bind_var awb fun yb hyb => ?_
  have okyb : SState.Ok yb := by rw [hyb]; exact awb_ok
  have ryb : SState.Right yb := by rw [hyb]; exact awb_right
  rintro _ _ ⟨hv5, rfl⟩
  rw [show ((.tuple #[(.agg ((childS ya (⟨9, Z32, Z32⟩ : GBlk)).cells)), (.int .i64 ((childE ya (⟨9, Z32, Z32⟩ : GBlk) : Nat) : Int))]) : Value) = (.tuple #[(.agg (yb.cells)), (.int .i64 0)]) from by rw [hyb, hya, show childE awa (⟨9, Z32, Z32⟩ : GBlk) = 0 from awE2]; rfl] at hv5; subst hv5
  refine m_new 3 fun b6 => ?_
  refine m_stW 0 0 363 (yb.cells) (SState.size _) (SState.ones _) ?_
  refine m_ldW 5 4 b2 35 363 (g.cells) (SState.size _) ?_
  refine m_ldW 0 3 b4 35 363 (ya.cells) (SState.size _) ?_
  refine m_ldW 0 2 b6 35 363 (yb.cells) (SState.size _) ?_
  refine m_slit 0 35 363 SState.cells [g, ya, yb] SState.size fun b7 => ?_
  refine m_call 0 [] (line_j (some ⟨b7, 0, none⟩) 3 [g, ya, yb] (by rw [hg, hya, hyb]; exact aw3_all) (by simp) (fun _ => rg)) (.cons 2 (.rd) (.cons 1 (.refl) .nil)) ?_
  rintro _ _ ⟨hv8, rfl⟩
  rw [show ((.tuple #[(.int .i64 (((lineL [g, ya, yb]).1 : Nat) : Int)), (.int .i64 (((lineL [g, ya, yb]).2 : Nat) : Int))]) : Value) = (.tuple #[(.int .i64 3), (.int .i64 0)]) from by rw [hg, hya, hyb, awLn1]; rfl] at hv8; subst hv8
  refine m_ldW 9 5 b2 35 363 (g.cells) (SState.size _) ?_
  refine m_ldW 0 3 b6 35 363 (yb.cells) (SState.size _) ?_
  refine m_slit 0 35 363 SState.cells [g, yb] SState.size fun b9 => ?_
  refine m_call 0 [] (line_j (some ⟨b9, 0, none⟩) 2 [g, yb] (by rw [hg, hyb]; exact aw2_all) (by simp) (fun _ => rg)) (.cons 2 (.rd) (.cons 1 (.refl) .nil)) ?_
  rintro _ _ ⟨hv10, rfl⟩
  rw [show ((.tuple #[(.int .i64 (((lineL [g, yb]).1 : Nat) : Int)), (.int .i64 (((lineL [g, yb]).2 : Nat) : Int))]) : Value) = (.tuple #[(.int .i64 1), (.int .i64 7)]) from by rw [hg, hyb, awLn2]; rfl] at hv10; subst hv10
  refine m_ldW 9 6 b2 35 363 (g.cells) (SState.size _) ?_
  refine m_ldW 0 5 b4 35 363 (ya.cells) (SState.size _) ?_
  refine m_call 0 [] (follows_j g ya okg okya (rg)) (.cons 1 (.refl) .nil) ?_
  rintro _ _ ⟨hv11, rfl⟩
  rw [show ((.int .i64 ((folwE g ya : Nat) : Int)) : Value) = (.int .i64 0) from by rw [hg, hya, awF1]; rfl] at hv11; subst hv11
  refine m_ldW 2 5 b4 35 363 (ya.cells) (SState.size _) ?_
  refine m_ldW 0 4 b6 35 363 (yb.cells) (SState.size _) ?_
  refine m_call 0 [] (follows_j ya yb okya okyb (rya)) (.cons 1 (.refl) .nil) ?_
  rintro _ _ ⟨hv12, rfl⟩
  rw [show ((.int .i64 ((folwE ya yb : Nat) : Int)) : Value) = (.int .i64 0) from by rw [hya, hyb, awF2]; rfl] at hv12; subst hv12
  refine m_ldW 3 6 b2 35 363 (g.cells) (SState.size _) ?_
  refine m_ldW 0 4 b6 35 363 (yb.cells) (SState.size _) ?_
  refine m_call 0 [] (follows_j g yb okg okyb (rg)) (.cons 1 (.refl) .nil) ?_
  rintro _ _ ⟨hv13, rfl⟩
  rw [show ((.int .i64 ((folwE g yb : Nat) : Int)) : Value) = (.int .i64 7) from by rw [hg, hyb, awF3]; rfl] at hv13; subst hv13
  refine m_ldW 3 4 b6 35 363 (yb.cells) (SState.size _) ?_
  refine m_ldW 0 5 b4 35 363 (ya.cells) (SState.size _) ?_
  refine m_call 0 [] (follows_j yb ya okyb okya (ryb)) (.cons 1 (.refl) .nil) ?_
  rintro _ _ ⟨hv14, rfl⟩
  rw [show ((.int .i64 ((folwE yb ya : Nat) : Int)) : Value) = (.int .i64 6) from by rw [hyb, hya, awF4]; rfl] at hv14; subst hv14
  exact m_ret 22 (.bool true) [] ⟨(rfl), by kernel_rfl⟩

set_option maxRecDepth 100000 in
theorem linkTells_j (parent : SState) (child : SState) (ao : Option Addr) (cap : Nat) (l : List SState) (hp : SState.Ok parent) (hc : SState.Ok child) (hl : AllS l) (hn : l.length ≤ 9223372036854775807) :
    Does Tryd.prog 3 #[(.agg (parent.cells)), (.agg (child.cells)), (.slice ao l.length cap)] [(.rd ao (RL SState.cells l)), (.rd (some ⟨0, 0, none⟩) ((hw KL).toList)), (.rd (some ⟨1, 0, none⟩) ((hw KL).toList))] [] (fun v H => v = (.bool true) ∧ H = []) := by
  have hhp_slot := hp.slot; have hhp_len := hp.len; have hhp_count := hp.count; have hhp_win_min := hp.win.min; have hhp_win_ring_last := hp.win.ring.last; have hhp_win_ring_counts := hp.win.ring.counts; have hhp_eps_now_len := hp.eps.now.len; have hhp_eps_next_len := hp.eps.next.len; have hhc_slot := hc.slot; have hhc_len := hc.len; have hhc_count := hc.count; have hhc_win_min := hc.win.min; have hhc_win_ring_last := hc.win.ring.last; have hhc_win_ring_counts := hc.win.ring.counts; have hhc_eps_now_len := hc.eps.now.len; have hhc_eps_next_len := hc.eps.next.len
  refine m_fn fun F => ?_
  refine m_new 2 fun b1 => ?_
  refine m_new 0 fun b2 => ?_
  refine m_call 6 [] (awake11_j) (.cons 3 (.refl) .nil) ?_
  rintro _ _ ⟨rfl, rfl⟩
  refine m_if 14 (((l.length : Nat) : Int) > (40 : Int)) (fun c3 => ?_) (fun c3 => ?_)
  · -- yes
    exact m_ret 7 (.bool true) [] ⟨(rfl), by kernel_rfl⟩
  · -- no
    refine m_plan 4 [5, 6, 7, 8, 9] (.q 0 true (.e 1 (.e 2 (.q 3 false (.q 4 true (.q 5 true (.q 7 true (.q 9 true (.e 6 (.e 8 (.e 10 (.e 11 (.q 12 false (.q 13 false .n)))))))))))))) [1, 0] ?_
    refine m_ldW 0 4 b1 35 363 (parent.cells) (SState.size _) ?_
    refine m_call 0 [] (own11_j parent hp) .nil ?_
    rintro _ _ ⟨rfl, rfl⟩
    refine m_call 0 [] (rstR_j parent hp) .nil ?_
    rintro _ _ ⟨rfl, rfl⟩
    refine m_sp 0 (SState.Right parent) (fun c4 => ?_) (fun c4 => ?_)
    · -- yes
      refine m_ldW 0 4 b1 35 363 (parent.cells) (SState.size _) ?_
      refine m_ldW 0 5 b2 35 363 (child.cells) (SState.size _) ?_
      refine m_ldW 0 4 b1 35 363 (parent.cells) (SState.size _) ?_
      refine m_ldW 0 5 b2 35 363 (child.cells) (SState.size _) ?_
      refine m_call 0 [] (follows_j parent child hp hc (by assumption)) (.cons 3 (.refl) .nil) ?_
      rintro _ _ ⟨rfl, rfl⟩
      refine m_call 0 [] (own11_j parent hp) .nil ?_
      rintro _ _ ⟨rfl, rfl⟩
      refine m_thaw 0 ?_
      refine m_call 0 [] (own11_j child hc) .nil ?_
      rintro _ _ ⟨rfl, rfl⟩
      refine m_call 0 [] (rfollows_j parent child hp hc (by assumption)) (.cons 2 (.refl) .nil) ?_
      rintro _ _ ⟨rfl, rfl⟩
      refine m_as 0 (.bool (!decide (((folwE parent child : Nat) : Int) = ((folwE parent child : Nat) : Int)))) (.bool false) (by rw [decide_eq_true rfl]; rfl) ?_
      refine m_thaw 2 ?_
      refine m_new 6 fun b5 => ?_
      refine m_view 0 _ (.made 46 363 0 0 (RL SState.cells [])) ?_
      refine m_loop (X := Nat × Option Addr × Nat × List SState) 12 [2, 34, 35] (fun (x : Nat × Option Addr × Nat × List SState) => [(7, (.slice x.2.1 x.2.2.2.length x.2.2.1)), (36, (.int .i64 ((x.1 : Nat) : Int)))]) [0] (fun (x : Nat × Option Addr × Nat × List SState) => [(.row 46 363 x.2.1 x.2.2.2.length x.2.2.1 (RL SState.cells x.2.2.2))]) (fun (x : Nat × Option Addr × Nat × List SState) => (x.1 ≤ l.length) ∧ (x.2.2.2 = l.take x.1)) (fun (x : Nat × Option Addr × Nat × List SState) => l.length - x.1) (0, (some ⟨b5, 0, none⟩), 0, []) (⟨Nat.zero_le _, rfl⟩) (fun x u6 hx => ?_)
      obtain ⟨i, ao', cp, m⟩ := x; dsimp only at hx
      obtain ⟨hi, hm⟩ := hx
      have hml : m.length = i := by rw [hm, List.length_take]; omega
      refine m_if 6 (((i : Nat) : Int) < ((l.length : Nat) : Int)) (fun c7 => ?_) (fun c7 => ?_)
      · -- yes
        refine m_ix 6 1 363 l.length i (RL SState.cells l) .i64 (by omega) (by rw [RL_length SState.size]; omega) ?_
        refine m_lxN 0 1 (i * 363) 363 (RL SState.cells l) ((l.getD i default).cells) (RL_whole (f := SState.cells) (sz := 363) (l := l) (k := i) SState.size default (by omega)) (SState.size _) ?_
        refine m_new 0 fun b8 => ?_
        refine m_stW 0 0 363 ((l.getD i default).cells) (SState.size _) (SState.ones _) ?_
        refine m_ldW 4 4 b8 35 363 ((l.getD i default).cells) (SState.size _) ?_
        refine m_call 0 [] (own11_j (l.getD i default) (AllS.get hl (by omega))) .nil ?_
        rintro _ _ ⟨rfl, rfl⟩
        refine m_slit 0 46 363 SState.cells [l.getD i default] SState.size fun b9 => ?_
        refine m_appR 0 2 46 363 396 SState.cells m (l.getD i default) ((SrcW.cut 4 0 1 1).news (by kernel_rfl)) (⟨(by simp only [maxLen]; omega), (by omega)⟩) fun ao10 cap11 => ?_
        refine m_i64 5 (((i : Nat) : Int) + (1 : Int)) (i + 1) (by omega) ?_
        exact m_back 2 (i + 1, ao10, cap11, m ++ [l.getD i default]) [2, 2, 2] ⟨⟨(by omega), (by rw [hm, take_snocD (by omega)])⟩, (by omega)⟩
      · -- no
        refine m_sp 11 (((l.length : Nat) : Int) > (0 : Int)) (fun c12 => ?_) (fun c12 => ?_)
        · -- yes
          refine m_ix 1 4 363 m.length 0 (RL SState.cells m) .i64 (by omega) (by rw [RL_length SState.size]; omega) ?_
          refine m_lxN 0 4 (0 * 363) 363 (RL SState.cells m) ((m.getD 0 default).cells) (RL_whole (f := SState.cells) (sz := 363) (l := m) (k := 0) SState.size default (by omega)) (SState.size _) ?_
          refine m_call 0 [] (rstR_j (m.getD 0 default) (AllS.get (by rw [hm]; exact fun x hx => hl x (List.mem_of_mem_take hx)) (by omega))) .nil ?_
          rintro _ _ ⟨rfl, rfl⟩
          refine m_ifn 4 (SState.Right (m.getD 0 default)) (fun c13 => ?_) (fun c13 => ?_)
          · -- no
            refine m_call 5 [] (line_j ao cap l (by first | with_reducible assumption | omega | decide) (by first | with_reducible assumption | omega | decide) (by exact fun _ => by have h0 := c13; rw [show m = l from by rw [hm, show i = l.length from by omega, List.take_length]] at h0; exact h0)) (.cons 1 (.refl) (.cons 3 (.refl) .nil)) ?_
            rintro _ _ ⟨rfl, rfl⟩
            refine m_call 10 [] (rline_j ao' cp m (by rw [hm]; exact fun x hx => hl x (List.mem_of_mem_take hx)) (by omega) (by rw [show m = l from by rw [hm, show i = l.length from by omega, List.take_length]]; exact fun _ => by have h0 := c13; rw [show m = l from by rw [hm, show i = l.length from by omega, List.take_length]] at h0; exact h0)) (.cons 4 (.rd) (.cons 2 (.refl) .nil)) ?_
            rintro _ _ ⟨hv14, rfl⟩
            rw [show ((.tuple #[(.int .i64 (((lineL m).1 : Nat) : Int)), (.int .i64 (((lineL m).2 : Nat) : Int))]) : Value) = (.tuple #[(.int .i64 (((lineL l).1 : Nat) : Int)), (.int .i64 (((lineL l).2 : Nat) : Int))]) from by rw [show m = l from by rw [hm, show i = l.length from by omega, List.take_length]]] at hv14; subst hv14
            refine m_as 11 (.bool (decide ((((lineL l).1 : Nat) : Int) = (((lineL l).1 : Nat) : Int)))) (.bool true) (by rw [decide_eq_true rfl]) ?_
            refine m_as 3 (.bool (decide ((((lineL l).2 : Nat) : Int) = (((lineL l).2 : Nat) : Int)))) (.bool true) (by rw [decide_eq_true rfl]) ?_
            exact m_ret 5 (.bool true) [] ⟨(rfl), by kernel_rfl⟩
          · -- yes
            exact m_ret 7 (.bool true) [] ⟨(rfl), by kernel_rfl⟩
        · -- no
          refine m_call 14 [] (line_j ao cap l (by first | with_reducible assumption | omega | decide) (by first | with_reducible assumption | omega | decide) (by exact fun h => absurd h (by omega))) (.cons 1 (.refl) (.cons 3 (.refl) .nil)) ?_
          rintro _ _ ⟨rfl, rfl⟩
          refine m_call 10 [] (rline_j ao' cp m (by rw [hm]; exact fun x hx => hl x (List.mem_of_mem_take hx)) (by omega) (by rw [show m = l from by rw [hm, show i = l.length from by omega, List.take_length]]; exact fun h => absurd h (by omega))) (.cons 4 (.rd) (.cons 2 (.refl) .nil)) ?_
          rintro _ _ ⟨hv15, rfl⟩
          rw [show ((.tuple #[(.int .i64 (((lineL m).1 : Nat) : Int)), (.int .i64 (((lineL m).2 : Nat) : Int))]) : Value) = (.tuple #[(.int .i64 (((lineL l).1 : Nat) : Int)), (.int .i64 (((lineL l).2 : Nat) : Int))]) from by rw [show m = l from by rw [hm, show i = l.length from by omega, List.take_length]]] at hv15; subst hv15
          refine m_as 11 (.bool (decide ((((lineL l).1 : Nat) : Int) = (((lineL l).1 : Nat) : Int)))) (.bool true) (by rw [decide_eq_true rfl]) ?_
          refine m_as 3 (.bool (decide ((((lineL l).2 : Nat) : Int) = (((lineL l).2 : Nat) : Int)))) (.bool true) (by rw [decide_eq_true rfl]) ?_
          exact m_ret 5 (.bool true) [] ⟨(rfl), by kernel_rfl⟩
    · -- no
      refine m_thaw 6 ?_
      refine m_thaw 5 ?_
      refine m_new 6 fun b16 => ?_
      refine m_view 0 _ (.made 46 363 0 0 (RL SState.cells [])) ?_
      refine m_loop (X := Nat × Option Addr × Nat × List SState) 12 [2, 34, 35] (fun (x : Nat × Option Addr × Nat × List SState) => [(7, (.slice x.2.1 x.2.2.2.length x.2.2.1)), (36, (.int .i64 ((x.1 : Nat) : Int)))]) [0] (fun (x : Nat × Option Addr × Nat × List SState) => [(.row 46 363 x.2.1 x.2.2.2.length x.2.2.1 (RL SState.cells x.2.2.2))]) (fun (x : Nat × Option Addr × Nat × List SState) => (x.1 ≤ l.length) ∧ (x.2.2.2 = l.take x.1)) (fun (x : Nat × Option Addr × Nat × List SState) => l.length - x.1) (0, (some ⟨b16, 0, none⟩), 0, []) (⟨Nat.zero_le _, rfl⟩) (fun x u17 hx => ?_)
      obtain ⟨i, ao', cp, m⟩ := x; dsimp only at hx
      obtain ⟨hi, hm⟩ := hx
      have hml : m.length = i := by rw [hm, List.length_take]; omega
      refine m_if 6 (((i : Nat) : Int) < ((l.length : Nat) : Int)) (fun c18 => ?_) (fun c18 => ?_)
      · -- yes
        refine m_ix 6 1 363 l.length i (RL SState.cells l) .i64 (by omega) (by rw [RL_length SState.size]; omega) ?_
        refine m_lxN 0 1 (i * 363) 363 (RL SState.cells l) ((l.getD i default).cells) (RL_whole (f := SState.cells) (sz := 363) (l := l) (k := i) SState.size default (by omega)) (SState.size _) ?_
        refine m_new 0 fun b19 => ?_
        refine m_stW 0 0 363 ((l.getD i default).cells) (SState.size _) (SState.ones _) ?_
        refine m_ldW 4 4 b19 35 363 ((l.getD i default).cells) (SState.size _) ?_
        refine m_call 0 [] (own11_j (l.getD i default) (AllS.get hl (by omega))) .nil ?_
        rintro _ _ ⟨rfl, rfl⟩
        refine m_slit 0 46 363 SState.cells [l.getD i default] SState.size fun b20 => ?_
        refine m_appR 0 2 46 363 396 SState.cells m (l.getD i default) ((SrcW.cut 4 0 1 1).news (by kernel_rfl)) (⟨(by simp only [maxLen]; omega), (by omega)⟩) fun ao21 cap22 => ?_
        refine m_i64 5 (((i : Nat) : Int) + (1 : Int)) (i + 1) (by omega) ?_
        exact m_back 2 (i + 1, ao21, cap22, m ++ [l.getD i default]) [2, 2, 2] ⟨⟨(by omega), (by rw [hm, take_snocD (by omega)])⟩, (by omega)⟩
      · -- no
        refine m_sp 11 (((l.length : Nat) : Int) > (0 : Int)) (fun c23 => ?_) (fun c23 => ?_)
        · -- yes
          refine m_ix 1 4 363 m.length 0 (RL SState.cells m) .i64 (by omega) (by rw [RL_length SState.size]; omega) ?_
          refine m_lxN 0 4 (0 * 363) 363 (RL SState.cells m) ((m.getD 0 default).cells) (RL_whole (f := SState.cells) (sz := 363) (l := m) (k := 0) SState.size default (by omega)) (SState.size _) ?_
          refine m_call 0 [] (rstR_j (m.getD 0 default) (AllS.get (by rw [hm]; exact fun x hx => hl x (List.mem_of_mem_take hx)) (by omega))) .nil ?_
          rintro _ _ ⟨rfl, rfl⟩
          refine m_ifn 4 (SState.Right (m.getD 0 default)) (fun c24 => ?_) (fun c24 => ?_)
          · -- no
            refine m_call 5 [] (line_j ao cap l (by first | with_reducible assumption | omega | decide) (by first | with_reducible assumption | omega | decide) (by exact fun _ => by have h0 := c24; rw [show m = l from by rw [hm, show i = l.length from by omega, List.take_length]] at h0; exact h0)) (.cons 1 (.refl) (.cons 3 (.refl) .nil)) ?_
            rintro _ _ ⟨rfl, rfl⟩
            refine m_call 10 [] (rline_j ao' cp m (by rw [hm]; exact fun x hx => hl x (List.mem_of_mem_take hx)) (by omega) (by rw [show m = l from by rw [hm, show i = l.length from by omega, List.take_length]]; exact fun _ => by have h0 := c24; rw [show m = l from by rw [hm, show i = l.length from by omega, List.take_length]] at h0; exact h0)) (.cons 4 (.rd) (.cons 2 (.refl) .nil)) ?_
            rintro _ _ ⟨hv25, rfl⟩
            rw [show ((.tuple #[(.int .i64 (((lineL m).1 : Nat) : Int)), (.int .i64 (((lineL m).2 : Nat) : Int))]) : Value) = (.tuple #[(.int .i64 (((lineL l).1 : Nat) : Int)), (.int .i64 (((lineL l).2 : Nat) : Int))]) from by rw [show m = l from by rw [hm, show i = l.length from by omega, List.take_length]]] at hv25; subst hv25
            refine m_as 11 (.bool (decide ((((lineL l).1 : Nat) : Int) = (((lineL l).1 : Nat) : Int)))) (.bool true) (by rw [decide_eq_true rfl]) ?_
            refine m_as 3 (.bool (decide ((((lineL l).2 : Nat) : Int) = (((lineL l).2 : Nat) : Int)))) (.bool true) (by rw [decide_eq_true rfl]) ?_
            exact m_ret 5 (.bool true) [] ⟨(rfl), by kernel_rfl⟩
          · -- yes
            exact m_ret 7 (.bool true) [] ⟨(rfl), by kernel_rfl⟩
        · -- no
          refine m_call 14 [] (line_j ao cap l (by first | with_reducible assumption | omega | decide) (by first | with_reducible assumption | omega | decide) (by exact fun h => absurd h (by omega))) (.cons 1 (.refl) (.cons 3 (.refl) .nil)) ?_
          rintro _ _ ⟨rfl, rfl⟩
          refine m_call 10 [] (rline_j ao' cp m (by rw [hm]; exact fun x hx => hl x (List.mem_of_mem_take hx)) (by omega) (by rw [show m = l from by rw [hm, show i = l.length from by omega, List.take_length]]; exact fun h => absurd h (by omega))) (.cons 4 (.rd) (.cons 2 (.refl) .nil)) ?_
          rintro _ _ ⟨hv26, rfl⟩
          rw [show ((.tuple #[(.int .i64 (((lineL m).1 : Nat) : Int)), (.int .i64 (((lineL m).2 : Nat) : Int))]) : Value) = (.tuple #[(.int .i64 (((lineL l).1 : Nat) : Int)), (.int .i64 (((lineL l).2 : Nat) : Int))]) from by rw [show m = l from by rw [hm, show i = l.length from by omega, List.take_length]]] at hv26; subst hv26
          refine m_as 11 (.bool (decide ((((lineL l).1 : Nat) : Int) = (((lineL l).1 : Nat) : Int)))) (.bool true) (by rw [decide_eq_true rfl]) ?_
          refine m_as 3 (.bool (decide ((((lineL l).2 : Nat) : Int) = (((lineL l).2 : Nat) : Int)))) (.bool true) (by rw [decide_eq_true rfl]) ?_
          exact m_ret 5 (.bool true) [] ⟨(rfl), by kernel_rfl⟩

end Go.Proofs.YtddblcihkpnpmaaDoor
