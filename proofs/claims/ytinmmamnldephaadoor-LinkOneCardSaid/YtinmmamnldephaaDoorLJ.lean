/- Layer 11 by the machine. -/
import Derived.Test.YtinmmamnldephaaDoorGJ
import Derived.Test.YtinmmamnldephaaDoorLib5
import Derived.Test.YtinmmamnldephaaDoorLib6
import Derived.Test.YtinmmamnldephaaDoorLib7
namespace Go.Proofs.YtinmmamnldephaaDoor
open Go Go.RowKit Go.Alm
set_option maxRecDepth 100000 in
theorem follows_j (p : SState) (c : SState) (hp : SState.Ok p) (hc : SState.Ok c) (hR : SState.Right p) :
    Does Tryd.prog 20 #[(.agg (p.cells)), (.agg (c.cells))] [(.rd (some ⟨1, 0, none⟩) ((hw KL).toList))] [] (fun v H => v = (.int .i64 ((folwE p c : Nat) : Int)) ∧ H = []) := by
  have hhp_slot := hp.slot; have hhp_len := hp.len; have hhp_count := hp.count; have hhp_win_min := hp.win.min; have hhp_win_ring_last := hp.win.ring.last; have hhp_win_ring_counts := hp.win.ring.counts; have hhp_eps_now_len := hp.eps.now.len; have hhp_eps_next_len := hp.eps.next.len; have hhc_slot := hc.slot; have hhc_len := hc.len; have hhc_count := hc.count; have hhc_win_min := hc.win.min; have hhc_win_ring_last := hc.win.ring.last; have hhc_win_ring_counts := hc.win.ring.counts; have hhc_eps_now_len := hc.eps.now.len; have hhc_eps_next_len := hc.eps.next.len
  refine m_fn fun F => ?_
  refine m_new 2 fun b1 => ?_
  refine m_new 0 fun b2 => ?_
  refine m_ldW 5 3 b1 38 363 (p.cells) (SState.size _) ?_
  refine m_ld 1 2 ?_
  refine m_ld 1 2 ?_
  refine m_ld 1 2 ?_
  refine m_call 1 [] (child_j p (⟨c.slot, c.led, c.draw⟩ : GBlk) hp (by first | with_reducible assumption | omega | decide) ⟨(by first | omega | decide | exact nar_lt _ | with_reducible assumption | (dsimp only; first | omega | exact nar_lt _)), hc.led, hc.draw⟩) (.cons 1 (.refl) .nil) ?_
  rintro _ _ ⟨rfl, rfl⟩
  refine m_new 3 fun b3 => ?_
  refine m_stW 0 0 363 ((childS p (⟨c.slot, c.led, c.draw⟩ : GBlk)).cells) (SState.size _) (SState.ones _) ?_
  refine m_sp 8 (((childE p (⟨c.slot, c.led, c.draw⟩ : GBlk) : Nat) : Int) = (0 : Int)) (fun c4 => ?_) (fun c4 => ?_)
  · -- yes
    refine m_ldW 0 2 b3 38 363 ((childS p (⟨c.slot, c.led, c.draw⟩ : GBlk)).cells) (SState.size _) ?_
    refine m_ldW 0 3 b2 38 363 (c.cells) (SState.size _) ?_
    refine m_eqsW 0 363 false ((childS p (⟨c.slot, c.led, c.draw⟩ : GBlk)).cells) (c.cells) (childS p (⟨c.slot, c.led, c.draw⟩ : GBlk) = c) (SState.inj (childS_ok hp (by assumption) ⟨(by first | omega | decide | exact nar_lt _ | with_reducible assumption | (dsimp only; first | omega | exact nar_lt _)), hc.led, hc.draw⟩) hc) (SState.wf (childS_ok hp (by assumption) ⟨(by first | omega | decide | exact nar_lt _ | with_reducible assumption | (dsimp only; first | omega | exact nar_lt _)), hc.led, hc.draw⟩)) (SState.wf hc) (SState.size _) (SState.size _) (SState.kinds _) (SState.kinds _) (fun c5 => ?_) (fun c5 => ?_)
    · -- the same
      exact m_ret 13 (.int .i64 ((childE p (⟨c.slot, c.led, c.draw⟩ : GBlk) : Nat) : Int)) [] ⟨(by rw [folw_0 (by omega) (by assumption), show childE p (⟨c.slot, c.led, c.draw⟩ : GBlk) = 0 from by omega]; first | done | kernel_rfl), by kernel_rfl⟩
    · -- not the same
      exact m_ret 15 (.int .i64 7) [] ⟨(by rw [folw_7 (by omega) (by assumption)]; first | done | kernel_rfl), by kernel_rfl⟩
  · -- no
    exact m_ret 16 (.int .i64 ((childE p (⟨c.slot, c.led, c.draw⟩ : GBlk) : Nat) : Int)) [] ⟨(by rw [folw_no (by omega)]), by kernel_rfl⟩


set_option maxRecDepth 100000 in
theorem line_j (ao : Option Addr) (cap : Nat) (l : List SState) (hl : AllS l) (hn : l.length ≤ 1000000) (hR : 0 < l.length → SState.Right (l.getD 0 default)) :
    Does Tryd.prog 41 #[(.slice ao l.length cap)] [(.rd ao (RL SState.cells l)), (.rd (some ⟨1, 0, none⟩) ((hw KL).toList))] [] (fun v H => v = (.tuple #[(.int .i64 (((lineL l).1 : Nat) : Int)), (.int .i64 (((lineL l).2 : Nat) : Int))]) ∧ H = []) := by
  refine m_fn fun F => ?_
  refine m_scopeR (X := Nat × Nat) 6 0 29 (fun (x : Nat × Nat) => [(0, (.slice ao l.length cap)), (4, (.int .i64 ((x.2 : Nat) : Int))), (5, (.int .i64 ((x.1 : Nat) : Int)))]) (fun (x : Nat × Nat) => []) (fun (x : Nat × Nat) => (x.2 = 0) ∧ (1 ≤ x.1) ∧ (x.1 ≤ l.length) ∧ (SState.Right (l.getD (x.1 - 1) default)) ∧ (lineL l = lineC (l.getD (x.1 - 1) default) (l.drop x.1) x.1)) (fun (x : Nat × Nat) => l.length - x.1) ?_ (fun x u1 hx => ?_)
  · -- the first time
    rcases Nat.eq_zero_or_pos l.length with h0 | h0
    · -- none
      refine m_min 9 .i64 1 l.length 0 (by omega) ?_
      refine m_if 15 ((0 : Int) < ((l.length : Nat) : Int)) (fun c2 => absurd c2 (by omega)) (fun c2 => ?_)
      refine m_scout 11 ?_
      exact m_ret 0 (.tuple #[(.int .i64 0), (.int .i64 0)]) [] ⟨(by rw [lineL_nil h0]; kernel_rfl), by kernel_rfl⟩
    · -- some
      refine m_min 9 .i64 1 l.length 1 (by omega) ?_
      refine m_if 15 ((1 : Int) < ((l.length : Nat) : Int)) (fun c3 => ?_) (fun c3 => ?_)
      · -- yes
        refine m_plan 1 [5, 6, 7, 8] (.q 0 false (.q 1 false (.q 2 false (.q 3 false (.q 4 true (.q 5 false (.q 6 false (.q 7 false (.q 8 true (.e 9 (.q 10 false .n))))))))))) [] ?_
        refine m_ix 3 1 363 l.length 0 (RL SState.cells l) .i64 (by omega) (by rw [RL_length SState.size]; omega) ?_
        refine m_lxN 0 1 (0 * 363) 363 (RL SState.cells l) ((l.getD 0 default).cells) (RL_whole (f := SState.cells) (sz := 363) (l := l) (k := 0) SState.size default (by omega)) (SState.size _) ?_
        refine m_ix 2 1 363 l.length 1 (RL SState.cells l) .i64 (by omega) (by rw [RL_length SState.size]; omega) ?_
        refine m_lxN 0 1 (1 * 363) 363 (RL SState.cells l) ((l.getD 1 default).cells) (RL_whole (f := SState.cells) (sz := 363) (l := l) (k := 1) SState.size default (by omega)) (SState.size _) ?_
        refine m_call 0 [] (follows_j (l.getD 0 default) (l.getD 1 default) (AllS.get hl (by omega)) (AllS.get hl (by omega)) (by exact hR h0)) (.cons 2 (.refl) .nil) ?_
        rintro _ _ ⟨rfl, rfl⟩
        refine m_thaw 2 ?_
        refine m_if 7 (((folwE (l.getD 0 default) (l.getD 1 default) : Nat) : Int) = (0 : Int)) (fun c4 => ?_) (fun c4 => ?_)
        · -- yes
          exact m_goto 9 (2, folwE (l.getD 0 default) (l.getD 1 default)) [] ⟨(by omega), (by omega), (by omega), (by exact folw_right (p := l.getD 0 default) (c := l.getD 1 default) (hR h0) (by omega)), (by exact (lineL_0 h0).trans (lineC_ok (i := 1) (by omega) (by omega)))⟩
        · -- no
          refine m_scout 11 ?_
          exact m_ret 0 (.tuple #[(.int .i64 1), (.int .i64 ((folwE (l.getD 0 default) (l.getD 1 default) : Nat) : Int))]) [] ⟨(by rw [lineL_0 h0, lineC_bad (i := 1) (by omega) (by omega)]; first | done | kernel_rfl), by kernel_rfl⟩
      · -- no
        refine m_scout 11 ?_
        exact m_ret 0 (.tuple #[(.int .i64 1), (.int .i64 0)]) [] ⟨(by rw [lineL_0 h0, lineC_end (i := 1) (by omega)]; kernel_rfl), by kernel_rfl⟩
  · -- behind the label
    obtain ⟨n, e⟩ := x; dsimp only at hx
    obtain ⟨he, h1, h2, hRn, hq⟩ := hx
    refine m_if 12 (((n : Nat) : Int) < ((l.length : Nat) : Int)) (fun c5 => ?_) (fun c5 => ?_)
    · -- yes
      refine m_plan 1 [5, 6, 7, 8] (.q 0 false (.q 1 false (.q 2 false (.q 3 false (.q 4 true (.q 5 false (.q 6 false (.q 7 false (.q 8 true (.e 9 (.q 10 false .n))))))))))) [] ?_
      refine m_i64 2 (((n : Nat) : Int) - (1 : Int)) (n - 1) (by omega) ?_
      refine m_ix 0 1 363 l.length (n - 1) (RL SState.cells l) .i64 (by omega) (by rw [RL_length SState.size]; omega) ?_
      refine m_lxN 0 1 ((n - 1) * 363) 363 (RL SState.cells l) ((l.getD (n - 1) default).cells) (RL_whole (f := SState.cells) (sz := 363) (l := l) (k := n - 1) SState.size default (by omega)) (SState.size _) ?_
      refine m_ix 2 1 363 l.length n (RL SState.cells l) .i64 (by omega) (by rw [RL_length SState.size]; omega) ?_
      refine m_lxN 0 1 (n * 363) 363 (RL SState.cells l) ((l.getD n default).cells) (RL_whole (f := SState.cells) (sz := 363) (l := l) (k := n) SState.size default (by omega)) (SState.size _) ?_
      refine m_call 0 [] (follows_j (l.getD (n - 1) default) (l.getD n default) (AllS.get hl (by omega)) (AllS.get hl (by omega)) (by exact hRn)) (.cons 2 (.refl) .nil) ?_
      rintro _ _ ⟨rfl, rfl⟩
      refine m_thaw 2 ?_
      refine m_if 7 (((folwE (l.getD (n - 1) default) (l.getD n default) : Nat) : Int) = (0 : Int)) (fun c6 => ?_) (fun c6 => ?_)
      · -- yes
        refine m_i64 3 (((n : Nat) : Int) + (1 : Int)) (n + 1) (by omega) ?_
        exact m_goto 5 (n + 1, folwE (l.getD (n - 1) default) (l.getD n default)) [] ⟨⟨(by omega), (by omega), (by omega), (by rw [Nat.add_sub_cancel]; exact folw_right hRn (by omega)), hq.trans (lineC_ok (by omega) (by omega))⟩, (by omega)⟩
      · -- no
        refine m_scout 11 ?_
        exact m_ret 0 (.tuple #[(.int .i64 ((n : Nat) : Int)), (.int .i64 ((folwE (l.getD (n - 1) default) (l.getD n default) : Nat) : Int))]) [] ⟨(by rw [hq, lineC_bad (by omega) (by omega)]), by kernel_rfl⟩
    · -- no
      refine m_scout 11 ?_
      exact m_ret 0 (.tuple #[(.int .i64 ((n : Nat) : Int)), (.int .i64 ((e : Nat) : Int))]) [] ⟨(by rw [hq, lineC_end (by omega), he]; first | done | kernel_rfl), by kernel_rfl⟩


end Go.Proofs.YtinmmamnldephaaDoor
