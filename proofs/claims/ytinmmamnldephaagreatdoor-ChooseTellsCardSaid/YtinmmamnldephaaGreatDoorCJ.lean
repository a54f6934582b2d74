/- Layer 13 by the machine. -/
import Derived.Test.YtinmmamnldephaaGreatDoorGJ
import Derived.Test.YtinmmamnldephaaGreatDoorOJ
import Derived.Test.YtinmmamnldephaaGreatDoorLib7
namespace Go.Proofs.YtinmmamnldephaaGreatDoor
open Go Go.RowKit Go.Alm
set_option maxRecDepth 100000 in
theorem beside_j (a : SState) (b : SState) (ha : SState.Ok a) (hb : SState.Ok b) :
    Does Tryz.prog 20 #[(.agg ((aj (a.cells) (b.cells))))] [] [] (fun v H => v = (.bool (decide (besideQ a b))) ∧ H = []) := by
  have hha_slot := ha.slot; have hha_len := ha.len; have hha_count := ha.count; have hha_win_min := ha.win.min; have hha_win_ring_last := ha.win.ring.last; have hha_win_ring_counts := ha.win.ring.counts; have hha_eps_now_len := ha.eps.now.len; have hha_eps_next_len := ha.eps.next.len; have hhb_slot := hb.slot; have hhb_len := hb.len; have hhb_count := hb.count; have hhb_win_min := hb.win.min; have hhb_win_ring_last := hb.win.ring.last; have hhb_win_ring_counts := hb.win.ring.counts; have hhb_eps_now_len := hb.eps.now.len; have hhb_eps_next_len := hb.eps.next.len
  refine m_fn fun F => ?_
  refine m_new 2 fun b1 => ?_
  refine m_plan 4 [3, 4, 5, 6, 15, 16, 17, 18, 19] (.q 0 false (.q 1 false (.q 2 true (.q 4 false (.q 5 false (.q 6 true (.e 3 (.e 7 (.q 8 false (.q 9 false (.q 10 false (.q 11 false (.q 12 false (.q 13 false (.q 14 true (.q 15 false (.q 16 false (.q 17 false (.q 18 false (.q 19 true (.q 20 false (.q 21 false (.q 22 false .n))))))))))))))))))))))) [0] ?_
  refine m_ld 2 1 ?_
  refine m_ld 2 1 ?_
  refine m_call 0 [] (sepoch_j a.slot (by first | with_reducible assumption | omega | decide)) .nil ?_
  rintro _ _ ⟨rfl, rfl⟩
  refine m_call 0 [] (sepoch_j b.slot (by first | with_reducible assumption | omega | decide)) .nil ?_
  rintro _ _ ⟨rfl, rfl⟩
  refine m_sp 1 (((a.slot / 24 : Nat) : Int) = ((b.slot / 24 : Nat) : Int)) (fun c2 => ?_) (fun c2 => ?_)
  · -- yes
    refine m_ld 4 1 ?_
    refine m_ld 4 1 ?_
    refine m_eqs 0 true (hv a.eps.now.lock) (hv b.eps.now.lock) (a.eps.now.lock = b.eps.now.lock) (hv_iff ha.eps.now.lock.len hb.eps.now.lock.len) (H32.wf ha.eps.now.lock) (H32.wf hb.eps.now.lock) (fun c3 => ?_) (fun c3 => ?_)
    · -- the same
      refine m_thaw 3 ?_
      exact m_ret 2 (.bool true) [] ⟨(by rw [decide_eq_true (show besideQ a b from ⟨by first | omega | assumption, by first | omega | assumption⟩)]), by kernel_rfl⟩
    · -- not the same
      refine m_thaw 3 ?_
      exact m_ret 2 (.bool false) [] ⟨(by rw [decide_eq_false (fun h => by obtain ⟨h1, h2⟩ := h; first | omega | contradiction)]), by kernel_rfl⟩
  · -- no
    refine m_thaw 14 ?_
    exact m_ret 2 (.bool false) [] ⟨(by rw [decide_eq_false (fun h => by obtain ⟨h1, h2⟩ := h; first | omega | contradiction)]), by kernel_rfl⟩

set_option maxRecDepth 100000 in
theorem behind_j (a : SState) (b : SState) (ha : SState.Ok a) (hb : SState.Ok b) :
    Does Tryz.prog 21 #[(.agg ((aj (a.cells) (b.cells))))] [] [] (fun v H => v = (.bool (decide (behindQ a b))) ∧ H = []) := by
  have hha_slot := ha.slot; have hha_len := ha.len; have hha_count := ha.count; have hha_win_min := ha.win.min; have hha_win_ring_last := ha.win.ring.last; have hha_win_ring_counts := ha.win.ring.counts; have hha_eps_now_len := ha.eps.now.len; have hha_eps_next_len := ha.eps.next.len; have hhb_slot := hb.slot; have hhb_len := hb.len; have hhb_count := hb.count; have hhb_win_min := hb.win.min; have hhb_win_ring_last := hb.win.ring.last; have hhb_win_ring_counts := hb.win.ring.counts; have hhb_eps_now_len := hb.eps.now.len; have hhb_eps_next_len := hb.eps.next.len
  refine m_fn fun F => ?_
  refine m_new 2 fun b1 => ?_
  refine m_plan 4 [3, 4, 5, 6] (.q 0 false (.q 1 false (.q 2 true (.q 4 false (.q 5 false (.q 6 true (.e 3 (.e 7 (.q 8 false (.q 9 false .n)))))))))) [0] ?_
  refine m_ld 2 1 ?_
  refine m_ld 2 1 ?_
  refine m_call 0 [] (sepoch_j a.slot (by first | with_reducible assumption | omega | decide)) .nil ?_
  rintro _ _ ⟨rfl, rfl⟩
  refine m_thaw 0 ?_
  refine m_call 0 [] (sepoch_j b.slot (by first | with_reducible assumption | omega | decide)) .nil ?_
  rintro _ _ ⟨rfl, rfl⟩
  refine m_thaw 3 ?_
  refine m_sp 6 (((b.slot / 24 : Nat) : Int) > ((a.slot / 24 : Nat) : Int)) (fun c2 => ?_) (fun c2 => ?_)
  · -- yes
    refine m_u32 2 (((b.slot / 24 : Nat) : Int) - ((a.slot / 24 : Nat) : Int)) ((b.slot / 24) - (a.slot / 24)) (by omega) ?_
    refine m_sp 2 ((((b.slot / 24) - (a.slot / 24) : Nat) : Int) = (1 : Int)) (fun c3 => ?_) (fun c3 => ?_)
    · -- yes
      refine m_ld 2 1 ?_
      refine m_call 0 [] (slocking_j a.slot (by first | with_reducible assumption | omega | decide)) .nil ?_
      rintro _ _ ⟨rfl, rfl⟩
      refine m_spn 2 (((a.slot % 24 : Nat) : Int) < 16) (fun c4 => ?_) (fun c4 => ?_)
      · -- no
        exact m_ret 16 (.bool false) [] ⟨(by rw [decide_eq_false (fun h => by obtain ⟨h1, h2, h3⟩ := h; first | omega | contradiction)]), by kernel_rfl⟩
      · -- yes
        refine m_ld 4 1 ?_
        refine m_ld 4 1 ?_
        refine m_eqs 0 true (hv b.eps.now.lock) (hv a.eps.next.lock) (b.eps.now.lock = a.eps.next.lock) (hv_iff hb.eps.now.lock.len ha.eps.next.lock.len) (H32.wf hb.eps.now.lock) (H32.wf ha.eps.next.lock) (fun c5 => ?_) (fun c5 => ?_)
        · -- the same
          exact m_ret 5 (.bool true) [] ⟨(by rw [decide_eq_true (show behindQ a b from ⟨by first | omega | assumption, by first | omega | assumption, by first | omega | assumption⟩)]), by kernel_rfl⟩
        · -- not the same
          exact m_ret 5 (.bool false) [] ⟨(by rw [decide_eq_false (fun h => by obtain ⟨h1, h2, h3⟩ := h; first | omega | contradiction)]), by kernel_rfl⟩
    · -- no
      exact m_ret 23 (.bool false) [] ⟨(by rw [decide_eq_false (fun h => by obtain ⟨h1, h2, h3⟩ := h; first | omega | contradiction)]), by kernel_rfl⟩
  · -- no
    exact m_ret 29 (.bool false) [] ⟨(by rw [decide_eq_false (fun h => by obtain ⟨h1, h2, h3⟩ := h; first | omega | contradiction)]), by kernel_rfl⟩

set_option maxRecDepth 100000 in
theorem near_j (a : SState) (b : SState) (ha : SState.Ok a) (hb : SState.Ok b) :
    Does Tryz.prog 11 #[(.agg (a.cells)), (.agg (b.cells))] [] [] (fun v H => v = (.bool (decide (nearQ a b))) ∧ H = []) := by
  have hha_slot := ha.slot; have hha_len := ha.len; have hha_count := ha.count; have hha_win_min := ha.win.min; have hha_win_ring_last := ha.win.ring.last; have hha_win_ring_counts := ha.win.ring.counts; have hha_eps_now_len := ha.eps.now.len; have hha_eps_next_len := ha.eps.next.len; have hhb_slot := hb.slot; have hhb_len := hb.len; have hhb_count := hb.count; have hhb_win_min := hb.win.min; have hhb_win_ring_last := hb.win.ring.last; have hhb_win_ring_counts := hb.win.ring.counts; have hhb_eps_now_len := hb.eps.now.len; have hhb_eps_next_len := hb.eps.next.len
  refine m_fn fun F => ?_
  refine m_new 2 fun b1 => ?_
  refine m_new 0 fun b2 => ?_
  refine m_cut (X := Nat × Nat) 4 [] (fun (x : Nat × Nat) => [(5, (.pointer (some ⟨x.1, 0, none⟩))), (6, (.pointer (some ⟨x.2, 0, none⟩)))]) (fun (x : Nat × Nat) => [(.blk b1 (a.cells) 35), (.blk b2 (b.cells) 35), (.blk x.2 ((⟨b, a⟩ : SPair).cells) 67), (.blk x.1 ((⟨a, b⟩ : SPair).cells) 67)]) (fun (x : Nat × Nat) => True) ?_ (fun x u5 hx => ?_)
  · -- in each order
    refine m_plan 0 [1, 3, 4, 5, 6, 7, 8] (.q 0 true (.q 1 true (.q 2 false (.q 3 true (.q 4 true (.q 5 false (.f (.e 6 (.e 7 (.e 8 (.e 9 .n)))) (.e 7 (.e 6 (.e 8 (.e 9 .n))))))))))) [1, 0] ?_
    refine m_ldW 0 1 b1 35 363 (a.cells) (SState.size _) ?_
    refine m_ldW 0 2 b2 35 363 (b.cells) (SState.size _) ?_
    refine m_ldW 1 2 b2 35 363 (b.cells) (SState.size _) ?_
    refine m_ldW 0 1 b1 35 363 (a.cells) (SState.size _) ?_
    refine m_fork 1 ?_ ?_
    · -- one of them
      refine m_new 0 fun b6 => ?_
      refine m_new 0 fun b7 => ?_
      refine m_stW 0 1 726 ((⟨a, b⟩ : SPair).cells) (SPair.size _) (SPair.ones _) ?_
      refine m_thaw 0 ?_
      refine m_stW 0 2 726 ((⟨b, a⟩ : SPair).cells) (SPair.size _) (SPair.ones _) ?_
      refine m_thaw 1 ?_
      exact m_back 0 (b6, b7) [0, 0, 0, 0] trivial
    · -- one of them
      refine m_new 0 fun b8 => ?_
      refine m_new 0 fun b9 => ?_
      refine m_stW 0 0 726 ((⟨a, b⟩ : SPair).cells) (SPair.size _) (SPair.ones _) ?_
      refine m_thaw 0 ?_
      refine m_stW 0 3 726 ((⟨b, a⟩ : SPair).cells) (SPair.size _) (SPair.ones _) ?_
      refine m_thaw 1 ?_
      exact m_back 0 (b9, b8) [0, 0, 1, 0] trivial
  · -- behind it
    obtain ⟨b3, b4⟩ := x; try dsimp only at hx
    refine m_ldW 3 4 b3 67 726 ((⟨a, b⟩ : SPair).cells) (SPair.size _) ?_
    refine m_call 0 [] (beside_j a b ha hb) .nil ?_
    rintro _ _ ⟨rfl, rfl⟩
    refine m_sp 0 (besideQ a b) (fun c10 => ?_) (fun c10 => ?_)
    · -- yes
      exact m_ret 11 (.bool true) [] ⟨(by rw [decide_eq_true (show nearQ a b from by first | exact .inl (by assumption) | exact .inr (.inl (by assumption)) | exact .inr (.inr (by assumption)))]), by kernel_rfl⟩
    · -- no
      refine m_ldW 0 4 b3 67 726 ((⟨a, b⟩ : SPair).cells) (SPair.size _) ?_
      refine m_call 0 [] (behind_j a b ha hb) .nil ?_
      rintro _ _ ⟨rfl, rfl⟩
      refine m_sp 1 (behindQ a b) (fun c11 => ?_) (fun c11 => ?_)
      · -- yes
        exact m_ret 7 (.bool true) [] ⟨(by rw [decide_eq_true (show nearQ a b from by first | exact .inl (by assumption) | exact .inr (.inl (by assumption)) | exact .inr (.inr (by assumption)))]), by kernel_rfl⟩
      · -- no
        refine m_ldW 0 3 b4 67 726 ((⟨b, a⟩ : SPair).cells) (SPair.size _) ?_
        refine m_call 0 [] (behind_j b a hb ha) .nil ?_
        rintro _ _ ⟨rfl, rfl⟩
        exact m_ret 5 (.bool (decide (behindQ b a))) [] ⟨(by refine congrArg Value.bool (decide_eq_decide.2 ⟨fun h => .inr (.inr h), fun h => h.elim (fun h => absurd h (by assumption)) (fun h => h.elim (fun h => absurd h (by assumption)) id)⟩)), by kernel_rfl⟩

set_option maxRecDepth 100000 in
theorem pden_j (a : SState) (b : SState) (ha : SState.Ok a) (hb : SState.Ok b) (hRa : SState.Right a) (hRb : SState.Right b) :
    Does Tryz.prog 18 #[(.agg ((aj (a.cells) (b.cells))))] [] [] (fun v H => v = (.tuple #[(.int .u32 ((denA a b : Nat) : Int)), (.int .u32 ((denA b a : Nat) : Int))]) ∧ H = []) := by
  have hRA := hRa.1.2; have hRB := hRb.1.2
  have hha_slot := ha.slot; have hha_len := ha.len; have hha_count := ha.count; have hha_win_min := ha.win.min; have hha_win_ring_last := ha.win.ring.last; have hha_win_ring_counts := ha.win.ring.counts; have hha_eps_now_len := ha.eps.now.len; have hha_eps_next_len := ha.eps.next.len; have hhb_slot := hb.slot; have hhb_len := hb.len; have hhb_count := hb.count; have hhb_win_min := hb.win.min; have hhb_win_ring_last := hb.win.ring.last; have hhb_win_ring_counts := hb.win.ring.counts; have hhb_eps_now_len := hb.eps.now.len; have hhb_eps_next_len := hb.eps.next.len
  refine m_fn fun F => ?_
  refine m_new 2 fun b1 => ?_
  refine m_ld 8 1 ?_
  refine m_ld 2 1 ?_
  refine m_max 0 .u32 a.slot b.slot (max a.slot b.slot) rfl ?_
  refine m_plan 4 [3, 4, 5, 6, 7, 8] (.q 0 false (.q 1 false (.q 2 true (.q 3 false (.q 5 false (.q 6 false (.q 7 true (.q 8 false (.e 4 (.e 9 (.q 10 false (.q 11 false .n)))))))))))) [0] ?_
  refine m_ld 2 1 ?_
  refine m_ld 3 1 ?_
  refine m_call 1 [] (wrel_j a.win (max a.slot b.slot) ha.win (by assumption) (by omega)) .nil ?_
  rintro _ _ ⟨rfl, rfl⟩
  refine m_thaw 0 ?_
  refine m_call 0 [] (wrel_j b.win (max a.slot b.slot) hb.win (by assumption) (by omega)) .nil ?_
  rintro _ _ ⟨rfl, rfl⟩
  refine m_thaw 3 ?_
  exact m_ret 2 (.tuple #[(.int .u32 ((winRel a.win (max a.slot b.slot) : Nat) : Int)), (.int .u32 ((winRel b.win (max a.slot b.slot) : Nat) : Int))]) [] ⟨(by rw [← max_sym a b]; rfl), by kernel_rfl⟩

set_option maxRecDepth 100000 in
theorem den_j (a : SState) (b : SState) (ha : SState.Ok a) (hb : SState.Ok b) (hRa : SState.Right a) (hRb : SState.Right b) :
    Does Tryz.prog 6 #[(.agg (a.cells)), (.agg (b.cells))] [] [] (fun v H => v = (.tuple #[(.int .u32 ((denA a b : Nat) : Int)), (.int .u32 ((denA b a : Nat) : Int))]) ∧ H = []) := by
  have hha_slot := ha.slot; have hha_len := ha.len; have hha_count := ha.count; have hha_win_min := ha.win.min; have hha_win_ring_last := ha.win.ring.last; have hha_win_ring_counts := ha.win.ring.counts; have hha_eps_now_len := ha.eps.now.len; have hha_eps_next_len := ha.eps.next.len; have hhb_slot := hb.slot; have hhb_len := hb.len; have hhb_count := hb.count; have hhb_win_min := hb.win.min; have hhb_win_ring_last := hb.win.ring.last; have hhb_win_ring_counts := hb.win.ring.counts; have hhb_eps_now_len := hb.eps.now.len; have hhb_eps_next_len := hb.eps.next.len
  refine m_fn fun F => ?_
  refine m_new 2 fun b1 => ?_
  refine m_new 0 fun b2 => ?_
  refine m_ldW 6 2 b1 35 363 (a.cells) (SState.size _) ?_
  refine m_ldW 0 1 b2 35 363 (b.cells) (SState.size _) ?_
  refine m_call 1 [] (pden_j a b ha hb (by first | with_reducible assumption | omega | decide) (by first | with_reducible assumption | omega | decide)) .nil ?_
  rintro _ _ ⟨rfl, rfl⟩
  exact m_ret 7 (.tuple #[(.int .u32 ((denA a b : Nat) : Int)), (.int .u32 ((denA b a : Nat) : Int))]) [] ⟨(rfl), by kernel_rfl⟩

set_option maxRecDepth 100000 in
theorem fwins_j (a : SState) (b : SState) (ha : SState.Ok a) (hb : SState.Ok b) (hRa : SState.Right a) (hRb : SState.Right b) :
    Does Tryz.prog 24 #[(.agg ((aj (a.cells) (b.cells))))] [(.rd (some ⟨0, 0, none⟩) ((hw KL).toList))] [] (fun v H => v = (.bool (decide (winsQ a b))) ∧ H = []) := by
  have hha_slot := ha.slot; have hha_len := ha.len; have hha_count := ha.count; have hha_win_min := ha.win.min; have hha_win_ring_last := ha.win.ring.last; have hha_win_ring_counts := ha.win.ring.counts; have hha_eps_now_len := ha.eps.now.len; have hha_eps_next_len := ha.eps.next.len; have hhb_slot := hb.slot; have hhb_len := hb.len; have hhb_count := hb.count; have hhb_win_min := hb.win.min; have hhb_win_ring_last := hb.win.ring.last; have hhb_win_ring_counts := hb.win.ring.counts; have hhb_eps_now_len := hb.eps.now.len; have hhb_eps_next_len := hb.eps.next.len
  refine m_fn fun F => ?_
  refine m_new 2 fun b1 => ?_
  refine m_ld 8 2 ?_
  refine m_ld 2 2 ?_
  refine m_call 0 [] (near_j a b ha hb) .nil ?_
  rintro _ _ ⟨rfl, rfl⟩
  refine m_ifn 3 (nearQ a b) (fun c2 => ?_) (fun c2 => ?_)
  · -- no
    refine m_plan 3 [3, 4, 5, 6] (.q 0 false (.q 1 false (.q 2 true (.q 4 false (.q 5 false (.q 6 true (.e 3 (.e 7 (.e 8 (.q 9 false (.q 10 false .n))))))))))) [0] ?_
    refine m_ld 2 2 ?_
    refine m_ld 2 2 ?_
    refine m_call 0 [] (kof_j b hb) (.cons 1 (.refl) .nil) ?_
    rintro _ _ ⟨rfl, rfl⟩
    refine m_thaw 0 ?_
    refine m_call 0 [] (kof_j a ha) (.cons 1 (.refl) .nil) ?_
    rintro _ _ ⟨rfl, rfl⟩
    refine m_call 0 [] (ocmp_j (⟨b.len, b.draw, stH b⟩ : OKey) (⟨a.len, a.draw, stH a⟩ : OKey) ⟨(by first | omega | decide | exact nar_lt _ | with_reducible assumption | (dsimp only; first | omega | exact nar_lt _)), hb.draw, (stH_ok _)⟩ ⟨(by first | omega | decide | exact nar_lt _ | with_reducible assumption | (dsimp only; first | omega | exact nar_lt _)), ha.draw, (stH_ok _)⟩) .nil ?_
    rintro _ _ ⟨rfl, rfl⟩
    refine m_thaw 3 ?_
    exact m_ret 2 (.bool (decide ((cmpK (⟨b.len, b.draw, stH b⟩ : OKey) (⟨a.len, a.draw, stH a⟩ : OKey)) > (0 : Int)))) [] ⟨(by refine congrArg Value.bool (decide_eq_decide.2 ?_); unfold winsQ; rw [if_pos (by first | exact .inl (by assumption) | exact .inr (by omega))]; rfl), by kernel_rfl⟩
  · -- yes
    refine m_ld 3 2 ?_
    refine m_call 0 [] (pden_j a b ha hb (by first | with_reducible assumption | omega | decide) (by first | with_reducible assumption | omega | decide)) .nil ?_
    rintro _ _ ⟨rfl, rfl⟩
    refine m_ifn 14 (((denA a b : Nat) : Int) = ((denA b a : Nat) : Int)) (fun c3 => ?_) (fun c3 => ?_)
    · -- no
      refine m_plan 3 [3, 4, 5, 6] (.q 0 false (.q 1 false (.q 2 true (.q 4 false (.q 5 false (.q 6 true (.e 3 (.e 7 (.e 8 (.q 9 false (.q 10 false .n))))))))))) [0] ?_
      refine m_ld 2 2 ?_
      refine m_ld 2 2 ?_
      refine m_call 0 [] (kof_j b hb) (.cons 1 (.refl) .nil) ?_
      rintro _ _ ⟨rfl, rfl⟩
      refine m_thaw 0 ?_
      refine m_call 0 [] (kof_j a ha) (.cons 1 (.refl) .nil) ?_
      rintro _ _ ⟨rfl, rfl⟩
      refine m_call 0 [] (ocmp_j (⟨b.len, b.draw, stH b⟩ : OKey) (⟨a.len, a.draw, stH a⟩ : OKey) ⟨(by first | omega | decide | exact nar_lt _ | with_reducible assumption | (dsimp only; first | omega | exact nar_lt _)), hb.draw, (stH_ok _)⟩ ⟨(by first | omega | decide | exact nar_lt _ | with_reducible assumption | (dsimp only; first | omega | exact nar_lt _)), ha.draw, (stH_ok _)⟩) .nil ?_
      rintro _ _ ⟨rfl, rfl⟩
      refine m_thaw 3 ?_
      exact m_ret 2 (.bool (decide ((cmpK (⟨b.len, b.draw, stH b⟩ : OKey) (⟨a.len, a.draw, stH a⟩ : OKey)) > (0 : Int)))) [] ⟨(by refine congrArg Value.bool (decide_eq_decide.2 ?_); unfold winsQ; rw [if_pos (by first | exact .inl (by assumption) | exact .inr (by omega))]; rfl), by kernel_rfl⟩
    · -- yes
      exact m_ret 10 (.bool (decide (((denA b a : Nat) : Int) > ((denA a b : Nat) : Int)))) [] ⟨(by refine congrArg Value.bool (decide_eq_decide.2 ?_); unfold winsQ; rw [if_neg (fun q => q.elim (by assumption) (by omega))]; omega), by kernel_rfl⟩

set_option maxRecDepth 100000 in
theorem wins_j (a : SState) (b : SState) (ha : SState.Ok a) (hb : SState.Ok b) (hRa : SState.Right a) (hRb : SState.Right b) :
    Does Tryz.prog 13 #[(.agg (a.cells)), (.agg (b.cells))] [(.rd (some ⟨0, 0, none⟩) ((hw KL).toList))] [] (fun v H => v = (.bool (decide (winsQ a b))) ∧ H = []) := by
  have hha_slot := ha.slot; have hha_len := ha.len; have hha_count := ha.count; have hha_win_min := ha.win.min; have hha_win_ring_last := ha.win.ring.last; have hha_win_ring_counts := ha.win.ring.counts; have hha_eps_now_len := ha.eps.now.len; have hha_eps_next_len := ha.eps.next.len; have hhb_slot := hb.slot; have hhb_len := hb.len; have hhb_count := hb.count; have hhb_win_min := hb.win.min; have hhb_win_ring_last := hb.win.ring.last; have hhb_win_ring_counts := hb.win.ring.counts; have hhb_eps_now_len := hb.eps.now.len; have hhb_eps_next_len := hb.eps.next.len
  refine m_fn fun F => ?_
  refine m_new 2 fun b1 => ?_
  refine m_new 0 fun b2 => ?_
  refine m_ldW 5 3 b1 35 363 (a.cells) (SState.size _) ?_
  refine m_ldW 0 2 b2 35 363 (b.cells) (SState.size _) ?_
  refine m_call 2 [] (fwins_j a b ha hb (by first | with_reducible assumption | omega | decide) (by first | with_reducible assumption | omega | decide)) (.cons 1 (.refl) .nil) ?_
  rintro _ _ ⟨rfl, rfl⟩
  exact m_ret 4 (.bool (decide (winsQ a b))) [] ⟨(rfl), by kernel_rfl⟩

set_option maxRecDepth 100000 in
theorem fold_j (t : SState) (ao : Option Addr) (cap : Nat) (l : List SState) (ht : SState.Ok t) (hRt : SState.Right t) (hl : AllS l) (hlR : AllRt l) (hn : l.length ≤ 1000000) :
    Does Tryz.prog 9 #[(.agg (t.cells)), (.slice ao l.length cap)] [(.rd ao (RL SState.cells l)), (.rd (some ⟨0, 0, none⟩) ((hw KL).toList))] [] (fun v H => v = (.tuple #[(.agg (((foldS t l 0).1).cells)), (.int .i64 (((foldS t l 0).2 : Nat) : Int))]) ∧ H = []) := by
  have hht_slot := ht.slot; have hht_len := ht.len; have hht_count := ht.count; have hht_win_min := ht.win.min; have hht_win_ring_last := ht.win.ring.last; have hht_win_ring_counts := ht.win.ring.counts; have hht_eps_now_len := ht.eps.now.len; have hht_eps_next_len := ht.eps.next.len
  refine m_fn fun F => ?_
  refine m_new 2 fun b1 => ?_
  refine m_new 0 fun b2 => ?_
  refine m_loop (X := Nat × SState × Nat) 17 [2, 4, 9, 10] (fun (x : Nat × SState × Nat) => [(6, (.int .i64 ((x.2.2 : Nat) : Int))), (11, (.int .i64 ((x.1 : Nat) : Int)))]) [1] (fun (x : Nat × SState × Nat) => [(.blk b1 (x.2.1.cells) 35)]) (fun (x : Nat × SState × Nat) => (x.1 ≤ l.length) ∧ (SState.Ok x.2.1) ∧ (SState.Right x.2.1) ∧ (x.2.2 ≤ x.1) ∧ (foldS t l 0 = foldS x.2.1 (l.drop x.1) x.2.2)) (fun (x : Nat × SState × Nat) => l.length - x.1) (0, t, 0) (⟨Nat.zero_le _, ht, hRt, Nat.le_refl 0, rfl⟩) (fun x u3 hx => ?_)
  obtain ⟨i, x, k⟩ := x; dsimp only at hx
  obtain ⟨hi, hx, hxR, hk, hq⟩ := hx
  refine m_if 6 (((i : Nat) : Int) < ((l.length : Nat) : Int)) (fun c4 => ?_) (fun c4 => ?_)
  · -- yes
    refine m_ix 6 1 363 l.length i (RL SState.cells l) .i64 (by omega) (by rw [RL_length SState.size]; omega) ?_
    refine m_lxN 0 1 (i * 363) 363 (RL SState.cells l) ((l.getD i default).cells) (RL_whole (f := SState.cells) (sz := 363) (l := l) (k := i) SState.size default (by omega)) (SState.size _) ?_
    refine m_new 0 fun b5 => ?_
    refine m_stW 0 0 363 ((l.getD i default).cells) (SState.size _) (SState.ones _) ?_
    refine m_ldW 4 4 b1 35 363 (x.cells) (SState.size _) ?_
    refine m_ldW 0 3 b5 35 363 ((l.getD i default).cells) (SState.size _) ?_
    refine m_call 0 [] (wins_j x (l.getD i default) hx (AllS.get hl (by omega)) (by exact hxR) (by exact hlR.get (by omega))) (.cons 2 (.refl) .nil) ?_
    rintro _ _ ⟨rfl, rfl⟩
    refine m_if 2 (winsQ x (l.getD i default)) (fun c6 => ?_) (fun c6 => ?_)
    · -- yes
      refine m_ldW 2 3 b5 35 363 ((l.getD i default).cells) (SState.size _) ?_
      refine m_stW 0 1 363 ((l.getD i default).cells) (SState.size _) (SState.ones _) ?_
      refine m_i64 4 (((k : Nat) : Int) + (1 : Int)) (k + 1) (by omega) ?_
      refine m_i64 5 (((i : Nat) : Int) + (1 : Int)) (i + 1) (by omega) ?_
      exact m_back 2 (i + 1, l.getD i default, k + 1) [1, 1] ⟨⟨(by omega), (by exact hl.get (by omega)), (by exact hlR.get (by omega)), (by show k + 1 ≤ i + 1; omega), hq.trans (foldS_yes (by omega) (by assumption))⟩, (by omega)⟩
    · -- no
      refine m_i64 4 (((i : Nat) : Int) + (1 : Int)) (i + 1) (by omega) ?_
      exact m_back 2 (i + 1, x, k) [1, 1] ⟨⟨(by omega), hx, hxR, (by show k ≤ i + 1; omega), hq.trans (foldS_no (by omega) (by assumption))⟩, (by omega)⟩
  · -- no
    refine m_ldW 7 3 b1 35 363 (x.cells) (SState.size _) ?_
    refine m_stW 1 1 363 (x.cells) (SState.size _) (SState.ones _) ?_
    exact m_retCW 4 4 [0] 363 b2 35 (x.cells) (SState.size _) (.tuple #[(.agg (x.cells)), (.int .i64 ((k : Nat) : Int))]) [] ⟨(by rw [hq, foldS_end (by omega)]; first | done | kernel_rfl), by kernel_rfl⟩

end Go.Proofs.YtinmmamnldephaaGreatDoor
