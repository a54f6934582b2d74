/- Layer 13 by the document. -/
import Derived.Test.YtinmmamnldephaaGreatDoorCJ
namespace Go.Proofs.YtinmmamnldephaaGreatDoor
open Go Go.RowKit Go.Alm
set_option maxRecDepth 100000 in
theorem rnear_j (a : SState) (b : SState) (ha : SState.Ok a) (hb : SState.Ok b) :
    Does Tryz.prog 12 #[(.agg (a.cells)), (.agg (b.cells))] [] [] (fun v H => v = (.bool (decide (nearQ a b))) ∧ H = []) := by
  have hha_slot := ha.slot; have hha_len := ha.len; have hha_count := ha.count; have hha_win_min := ha.win.min; have hha_win_ring_last := ha.win.ring.last; have hha_win_ring_counts := ha.win.ring.counts; have hha_eps_now_len := ha.eps.now.len; have hha_eps_next_len := ha.eps.next.len; have hhb_slot := hb.slot; have hhb_len := hb.len; have hhb_count := hb.count; have hhb_win_min := hb.win.min; have hhb_win_ring_last := hb.win.ring.last; have hhb_win_ring_counts := hb.win.ring.counts; have hhb_eps_now_len := hb.eps.now.len; have hhb_eps_next_len := hb.eps.next.len
  refine m_fn fun F => ?_
  refine m_new 2 fun b1 => ?_
  refine m_new 0 fun b2 => ?_
  refine m_ld 6 2 ?_
  refine m_call 0 [] (repoch_j a.slot (by first | with_reducible assumption | omega | decide)) .nil ?_
  rintro _ _ ⟨rfl, rfl⟩
  refine m_ld 6 1 ?_
  refine m_call 0 [] (repoch_j b.slot (by first | with_reducible assumption | omega | decide)) .nil ?_
  rintro _ _ ⟨rfl, rfl⟩
  refine m_if 11 (((a.slot / 24 : Nat) : Int) = ((b.slot / 24 : Nat) : Int)) (fun c3 => ?_) (fun c3 => ?_)
  · -- yes
    refine m_ld 5 2 ?_
    refine m_ld 3 1 ?_
    refine m_eqs 0 true (hv a.eps.now.lock) (hv b.eps.now.lock) (a.eps.now.lock = b.eps.now.lock) (hv_iff ha.eps.now.lock.len hb.eps.now.lock.len) (H32.wf ha.eps.now.lock) (H32.wf hb.eps.now.lock) (fun c4 => ?_) (fun c4 => ?_)
    · -- the same
      exact m_ret 5 (.bool true) [] ⟨(by rw [decide_eq_true (show nearQ a b from by first | exact .inl ⟨by omega, by assumption⟩ | exact .inr (.inl ⟨by omega, by first | omega | assumption, by assumption⟩) | exact .inr (.inr ⟨by omega, by first | omega | assumption, by assumption⟩))]), by kernel_rfl⟩
    · -- not the same
      exact m_ret 5 (.bool false) [] ⟨(by rw [decide_eq_false (show ¬ nearQ a b from fun h => by rcases h with ⟨h1, h2⟩ | ⟨h1, h2, h3⟩ | ⟨h1, h2, h3⟩ <;> first | omega | contradiction)]), by kernel_rfl⟩
  · -- no
    refine m_if 10 (((a.slot / 24 : Nat) : Int) < ((b.slot / 24 : Nat) : Int)) (fun c5 => ?_) (fun c5 => ?_)
    · -- yes
      refine m_u32 4 (((a.slot / 24 : Nat) : Int) + (1 : Int)) ((a.slot / 24) + 1) (by omega) ?_
      refine m_sp 1 (((b.slot / 24 : Nat) : Int) = (((a.slot / 24) + 1 : Nat) : Int)) (fun c6 => ?_) (fun c6 => ?_)
      · -- yes
        refine m_ld 1 2 ?_
        refine m_call 0 [] (rlocking_j a.slot (by first | with_reducible assumption | omega | decide)) .nil ?_
        rintro _ _ ⟨rfl, rfl⟩
        refine m_spn 2 (((a.slot % 24 : Nat) : Int) < 16) (fun c7 => ?_) (fun c7 => ?_)
        · -- no
          exact m_ret 15 (.bool false) [] ⟨(by rw [decide_eq_false (show ¬ nearQ a b from fun h => by rcases h with ⟨h1, h2⟩ | ⟨h1, h2, h3⟩ | ⟨h1, h2, h3⟩ <;> first | omega | contradiction)]), by kernel_rfl⟩
        · -- yes
          refine m_ld 3 1 ?_
          refine m_ld 3 2 ?_
          refine m_eqs 0 true (hv b.eps.now.lock) (hv a.eps.next.lock) (b.eps.now.lock = a.eps.next.lock) (hv_iff hb.eps.now.lock.len ha.eps.next.lock.len) (H32.wf hb.eps.now.lock) (H32.wf ha.eps.next.lock) (fun c8 => ?_) (fun c8 => ?_)
          · -- the same
            exact m_ret 6 (.bool true) [] ⟨(by rw [decide_eq_true (show nearQ a b from by first | exact .inl ⟨by omega, by assumption⟩ | exact .inr (.inl ⟨by omega, by first | omega | assumption, by assumption⟩) | exact .inr (.inr ⟨by omega, by first | omega | assumption, by assumption⟩))]), by kernel_rfl⟩
          · -- not the same
            exact m_ret 6 (.bool false) [] ⟨(by rw [decide_eq_false (show ¬ nearQ a b from fun h => by rcases h with ⟨h1, h2⟩ | ⟨h1, h2, h3⟩ | ⟨h1, h2, h3⟩ <;> first | omega | contradiction)]), by kernel_rfl⟩
      · -- no
        exact m_ret 21 (.bool false) [] ⟨(by rw [decide_eq_false (show ¬ nearQ a b from fun h => by rcases h with ⟨h1, h2⟩ | ⟨h1, h2, h3⟩ | ⟨h1, h2, h3⟩ <;> first | omega | contradiction)]), by kernel_rfl⟩
    · -- no
      refine m_u32 6 (((b.slot / 24 : Nat) : Int) + (1 : Int)) ((b.slot / 24) + 1) (by omega) ?_
      refine m_sp 1 (((a.slot / 24 : Nat) : Int) = (((b.slot / 24) + 1 : Nat) : Int)) (fun c9 => ?_) (fun c9 => ?_)
      · -- yes
        refine m_ld 1 1 ?_
        refine m_call 0 [] (rlocking_j b.slot (by first | with_reducible assumption | omega | decide)) .nil ?_
        rintro _ _ ⟨rfl, rfl⟩
        refine m_spn 2 (((b.slot % 24 : Nat) : Int) < 16) (fun c10 => ?_) (fun c10 => ?_)
        · -- no
          exact m_ret 14 (.bool false) [] ⟨(by rw [decide_eq_false (show ¬ nearQ a b from fun h => by rcases h with ⟨h1, h2⟩ | ⟨h1, h2, h3⟩ | ⟨h1, h2, h3⟩ <;> first | omega | contradiction)]), by kernel_rfl⟩
        · -- yes
          refine m_ld 3 2 ?_
          refine m_ld 3 1 ?_
          refine m_eqs 0 true (hv a.eps.now.lock) (hv b.eps.next.lock) (a.eps.now.lock = b.eps.next.lock) (hv_iff ha.eps.now.lock.len hb.eps.next.lock.len) (H32.wf ha.eps.now.lock) (H32.wf hb.eps.next.lock) (fun c11 => ?_) (fun c11 => ?_)
          · -- the same
            exact m_ret 5 (.bool true) [] ⟨(by rw [decide_eq_true (show nearQ a b from by first | exact .inl ⟨by omega, by assumption⟩ | exact .inr (.inl ⟨by omega, by first | omega | assumption, by assumption⟩) | exact .inr (.inr ⟨by omega, by first | omega | assumption, by assumption⟩))]), by kernel_rfl⟩
          · -- not the same
            exact m_ret 5 (.bool false) [] ⟨(by rw [decide_eq_false (show ¬ nearQ a b from fun h => by rcases h with ⟨h1, h2⟩ | ⟨h1, h2, h3⟩ | ⟨h1, h2, h3⟩ <;> first | omega | contradiction)]), by kernel_rfl⟩
      · -- no
        exact m_ret 20 (.bool false) [] ⟨(by rw [decide_eq_false (show ¬ nearQ a b from fun h => by rcases h with ⟨h1, h2⟩ | ⟨h1, h2, h3⟩ | ⟨h1, h2, h3⟩ <;> first | omega | contradiction)]), by kernel_rfl⟩

set_option maxRecDepth 100000 in
theorem rden_j (a : SState) (b : SState) (ha : SState.Ok a) (hb : SState.Ok b) (hRa : SState.Right a) (hRb : SState.Right b) :
    Does Tryz.prog 7 #[(.agg (a.cells)), (.agg (b.cells))] [] [] (fun v H => v = (.tuple #[(.int .u32 ((denA a b : Nat) : Int)), (.int .u32 ((denA b a : Nat) : Int))]) ∧ H = []) := by
  have hRA := hRa.1.2; have hRB := hRb.1.2
  have hha_slot := ha.slot; have hha_len := ha.len; have hha_count := ha.count; have hha_win_min := ha.win.min; have hha_win_ring_last := ha.win.ring.last; have hha_win_ring_counts := ha.win.ring.counts; have hha_eps_now_len := ha.eps.now.len; have hha_eps_next_len := ha.eps.next.len; have hhb_slot := hb.slot; have hhb_len := hb.len; have hhb_count := hb.count; have hhb_win_min := hb.win.min; have hhb_win_ring_last := hb.win.ring.last; have hhb_win_ring_counts := hb.win.ring.counts; have hhb_eps_now_len := hb.eps.now.len; have hhb_eps_next_len := hb.eps.next.len
  refine m_fn fun F => ?_
  refine m_new 2 fun b1 => ?_
  refine m_new 0 fun b2 => ?_
  refine m_ld 7 2 ?_
  refine m_ld 7 1 ?_
  refine m_if 4 (((b.slot : Nat) : Int) > ((a.slot : Nat) : Int)) (fun c3 => ?_) (fun c3 => ?_)
  · -- yes
    refine m_ld 2 1 ?_
    refine m_plan 4 [2, 3, 4, 5, 6] (.q 0 false (.q 1 true (.q 2 false (.q 4 false (.q 5 true (.q 6 false (.e 3 (.e 7 (.q 8 false (.q 9 false .n)))))))))) [1, 0] ?_
    refine m_ld 1 1 ?_
    refine m_ld 2 2 ?_
    refine m_call 1 [] (rwrel_j a.win b.slot ha.win (by assumption) (by omega)) .nil ?_
    rintro _ _ ⟨rfl, rfl⟩
    refine m_thaw 0 ?_
    refine m_call 0 [] (rwrel_j b.win b.slot hb.win (by assumption) (by omega)) .nil ?_
    rintro _ _ ⟨rfl, rfl⟩
    refine m_thaw 3 ?_
    exact m_ret 2 (.tuple #[(.int .u32 ((winRel a.win b.slot : Nat) : Int)), (.int .u32 ((winRel b.win b.slot : Nat) : Int))]) [] ⟨(by rw [show denA a b = winRel a.win b.slot from by rw [denA, Nat.max_eq_right (by omega)], show denA b a = winRel b.win b.slot from by rw [denA, Nat.max_eq_left (by omega)]]), by kernel_rfl⟩
  · -- no
    refine m_plan 3 [2, 3, 4, 5, 6] (.q 0 false (.q 1 true (.q 2 false (.q 4 false (.q 5 true (.q 6 false (.e 3 (.e 7 (.q 8 false (.q 9 false .n)))))))))) [1, 0] ?_
    refine m_ld 1 1 ?_
    refine m_ld 2 2 ?_
    refine m_call 1 [] (rwrel_j a.win a.slot ha.win (by assumption) (by omega)) .nil ?_
    rintro _ _ ⟨rfl, rfl⟩
    refine m_thaw 0 ?_
    refine m_call 0 [] (rwrel_j b.win a.slot hb.win (by assumption) (by omega)) .nil ?_
    rintro _ _ ⟨rfl, rfl⟩
    refine m_thaw 3 ?_
    exact m_ret 2 (.tuple #[(.int .u32 ((winRel a.win a.slot : Nat) : Int)), (.int .u32 ((winRel b.win a.slot : Nat) : Int))]) [] ⟨(by rw [show denA a b = winRel a.win a.slot from by rw [denA, Nat.max_eq_left (by omega)], show denA b a = winRel b.win a.slot from by rw [denA, Nat.max_eq_right (by omega)]]), by kernel_rfl⟩

set_option maxRecDepth 100000 in
theorem rwins_j (a : SState) (b : SState) (ha : SState.Ok a) (hb : SState.Ok b) (hRa : SState.Right a) (hRb : SState.Right b) :
    Does Tryz.prog 14 #[(.agg (a.cells)), (.agg (b.cells))] [(.rd (some ⟨1, 0, none⟩) ((hw KL).toList))] [] (fun v H => v = (.bool (decide (winsQ a b))) ∧ H = []) := by
  have hha_slot := ha.slot; have hha_len := ha.len; have hha_count := ha.count; have hha_win_min := ha.win.min; have hha_win_ring_last := ha.win.ring.last; have hha_win_ring_counts := ha.win.ring.counts; have hha_eps_now_len := ha.eps.now.len; have hha_eps_next_len := ha.eps.next.len; have hhb_slot := hb.slot; have hhb_len := hb.len; have hhb_count := hb.count; have hhb_win_min := hb.win.min; have hhb_win_ring_last := hb.win.ring.last; have hhb_win_ring_counts := hb.win.ring.counts; have hhb_eps_now_len := hb.eps.now.len; have hhb_eps_next_len := hb.eps.next.len
  refine m_fn fun F => ?_
  refine m_new 2 fun b1 => ?_
  refine m_new 0 fun b2 => ?_
  refine m_plan 4 [1, 2] (.q 0 true (.q 2 true (.e 1 (.e 3 (.e 4 (.q 5 false (.q 6 false .n))))))) [0, 0] ?_
  refine m_ldW 0 2 b2 49 363 (b.cells) (SState.size _) ?_
  refine m_ldW 0 3 b1 49 363 (a.cells) (SState.size _) ?_
  refine m_call 0 [] (rkof_j b hb) (.cons 1 (.refl) .nil) ?_
  rintro _ _ ⟨rfl, rfl⟩
  refine m_thaw 0 ?_
  refine m_call 0 [] (rkof_j a ha) (.cons 1 (.refl) .nil) ?_
  rintro _ _ ⟨rfl, rfl⟩
  refine m_call 0 [] (rocmp_j (⟨b.len, b.draw, stH b⟩ : OKey) (⟨a.len, a.draw, stH a⟩ : OKey) ⟨(by first | omega | decide | exact nar_lt _ | with_reducible assumption | (dsimp only; first | omega | exact nar_lt _)), hb.draw, (stH_ok _)⟩ ⟨(by first | omega | decide | exact nar_lt _ | with_reducible assumption | (dsimp only; first | omega | exact nar_lt _)), ha.draw, (stH_ok _)⟩) .nil ?_
  rintro _ _ ⟨rfl, rfl⟩
  refine m_thaw 3 ?_
  refine m_ldW 4 3 b1 49 363 (a.cells) (SState.size _) ?_
  refine m_ldW 0 2 b2 49 363 (b.cells) (SState.size _) ?_
  refine m_call 0 [] (rnear_j a b ha hb) .nil ?_
  rintro _ _ ⟨rfl, rfl⟩
  refine m_if 2 (nearQ a b) (fun c3 => ?_) (fun c3 => ?_)
  · -- yes
    exact m_ret 8 (.bool (decide ((cmpK (⟨b.len, b.draw, stH b⟩ : OKey) (⟨a.len, a.draw, stH a⟩ : OKey)) > (0 : Int)))) [] ⟨(by refine congrArg Value.bool (decide_eq_decide.2 ?_); unfold winsQ; rw [if_pos (by first | exact .inl (by assumption) | exact .inr (by omega))]; rfl), by kernel_rfl⟩
  · -- no
    refine m_ldW 4 3 b1 49 363 (a.cells) (SState.size _) ?_
    refine m_ldW 0 2 b2 49 363 (b.cells) (SState.size _) ?_
    refine m_call 0 [] (rden_j a b ha hb (by first | with_reducible assumption | omega | decide) (by first | with_reducible assumption | omega | decide)) .nil ?_
    rintro _ _ ⟨rfl, rfl⟩
    refine m_sp 12 (((denA b a : Nat) : Int) > ((denA a b : Nat) : Int)) (fun c4 => ?_) (fun c4 => ?_)
    · -- yes
      exact m_ret 11 (.bool true) [] ⟨(by rw [decide_eq_true (show winsQ a b from by unfold winsQ; rw [if_neg (fun q => q.elim (by assumption) (by omega))]; omega)]), by kernel_rfl⟩
    · -- no
      refine m_sp 3 (((denA b a : Nat) : Int) = ((denA a b : Nat) : Int)) (fun c5 => ?_) (fun c5 => ?_)
      · -- yes
        exact m_ret 7 (.bool (decide ((cmpK (⟨b.len, b.draw, stH b⟩ : OKey) (⟨a.len, a.draw, stH a⟩ : OKey)) > (0 : Int)))) [] ⟨(by refine congrArg Value.bool (decide_eq_decide.2 ?_); unfold winsQ; rw [if_pos (by first | exact .inl (by assumption) | exact .inr (by omega))]; rfl), by kernel_rfl⟩
      · -- no
        exact m_ret 7 (.bool false) [] ⟨(by rw [decide_eq_false (show ¬ winsQ a b from by unfold winsQ; rw [if_neg (fun q => q.elim (by assumption) (by omega))]; omega)]), by kernel_rfl⟩

set_option maxRecDepth 100000 in
theorem rfold_j (t : SState) (ao : Option Addr) (cap : Nat) (l : List SState) (ht : SState.Ok t) (hRt : SState.Right t) (hl : AllS l) (hlR : AllRt l) (hn : l.length ≤ 1000000) :
    Does Tryz.prog 10 #[(.agg (t.cells)), (.slice ao l.length cap)] [(.rd ao (RL SState.cells l)), (.rd (some ⟨1, 0, none⟩) ((hw KL).toList))] [] (fun v H => v = (.tuple #[(.agg (((foldS t l 0).1).cells)), (.int .i64 (((foldS t l 0).2 : Nat) : Int))]) ∧ H = []) := by
  have hht_slot := ht.slot; have hht_len := ht.len; have hht_count := ht.count; have hht_win_min := ht.win.min; have hht_win_ring_last := ht.win.ring.last; have hht_win_ring_counts := ht.win.ring.counts; have hht_eps_now_len := ht.eps.now.len; have hht_eps_next_len := ht.eps.next.len
  refine m_fn fun F => ?_
  refine m_new 2 fun b1 => ?_
  refine m_new 0 fun b2 => ?_
  refine m_loop (X := Nat × SState × Nat) 15 [1, 2, 4] (fun (x : Nat × SState × Nat) => [(6, (.int .i64 ((x.2.2 : Nat) : Int))), (7, (.int .i64 ((x.1 : Nat) : Int)))]) [1] (fun (x : Nat × SState × Nat) => [(.blk b1 (x.2.1.cells) 49)]) (fun (x : Nat × SState × Nat) => (x.1 ≤ l.length) ∧ (SState.Ok x.2.1) ∧ (SState.Right x.2.1) ∧ (x.2.2 ≤ x.1) ∧ (foldS t l 0 = foldS x.2.1 (l.drop x.1) x.2.2)) (fun (x : Nat × SState × Nat) => l.length - x.1) (0, t, 0) (⟨Nat.zero_le _, ht, hRt, Nat.le_refl 0, rfl⟩) (fun x u3 hx => ?_)
  obtain ⟨i, x, k⟩ := x; dsimp only at hx
  obtain ⟨hi, hx, hxR, hk, hq⟩ := hx
  refine m_if 9 (((i : Nat) : Int) < ((l.length : Nat) : Int)) (fun c4 => ?_) (fun c4 => ?_)
  · -- yes
    refine m_plan 5 [1, 2, 3, 4] (.q 0 true (.q 1 false (.q 2 false (.q 3 false (.q 4 true (.e 5 .n)))))) [0] ?_
    refine m_ldW 0 3 b1 49 363 (x.cells) (SState.size _) ?_
    refine m_ix 2 1 363 l.length i (RL SState.cells l) .i64 (by omega) (by rw [RL_length SState.size]; omega) ?_
    refine m_lxN 0 1 (i * 363) 363 (RL SState.cells l) ((l.getD i default).cells) (RL_whole (f := SState.cells) (sz := 363) (l := l) (k := i) SState.size default (by omega)) (SState.size _) ?_
    refine m_thaw 0 ?_
    refine m_call 0 [] (rwins_j x (l.getD i default) hx (AllS.get hl (by omega)) (by exact hxR) (by exact hlR.get (by omega))) (.cons 2 (.refl) .nil) ?_
    rintro _ _ ⟨rfl, rfl⟩
    refine m_thaw 1 ?_
    refine m_if 1 (winsQ x (l.getD i default)) (fun c5 => ?_) (fun c5 => ?_)
    · -- yes
      refine m_ix 4 1 363 l.length i (RL SState.cells l) .i64 (by omega) (by rw [RL_length SState.size]; omega) ?_
      refine m_lxN 0 1 (i * 363) 363 (RL SState.cells l) ((l.getD i default).cells) (RL_whole (f := SState.cells) (sz := 363) (l := l) (k := i) SState.size default (by omega)) (SState.size _) ?_
      refine m_stW 0 0 363 ((l.getD i default).cells) (SState.size _) (SState.ones _) ?_
      refine m_i64 4 (((k : Nat) : Int) + (1 : Int)) (k + 1) (by omega) ?_
      refine m_i64 6 (((i : Nat) : Int) + (1 : Int)) (i + 1) (by omega) ?_
      exact m_back 2 (i + 1, l.getD i default, k + 1) [0, 0] ⟨⟨(by omega), (by exact hl.get (by omega)), (by exact hlR.get (by omega)), (by show k + 1 ≤ i + 1; omega), hq.trans (foldS_yes (by omega) (by assumption))⟩, (by omega)⟩
    · -- no
      refine m_i64 5 (((i : Nat) : Int) + (1 : Int)) (i + 1) (by omega) ?_
      exact m_back 2 (i + 1, x, k) [0, 0] ⟨⟨(by omega), hx, hxR, (by show k ≤ i + 1; omega), hq.trans (foldS_no (by omega) (by assumption))⟩, (by omega)⟩
  · -- no
    refine m_ldW 7 3 b1 49 363 (x.cells) (SState.size _) ?_
    refine m_stW 1 1 363 (x.cells) (SState.size _) (SState.ones _) ?_
    exact m_retCW 4 4 [0] 363 b2 49 (x.cells) (SState.size _) (.tuple #[(.agg (x.cells)), (.int .i64 ((k : Nat) : Int))]) [] ⟨(by rw [hq, foldS_end (by omega)]; first | done | kernel_rfl), by kernel_rfl⟩

end Go.Proofs.YtinmmamnldephaaGreatDoor
