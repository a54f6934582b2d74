/- Layer 10's laws. -/
import Derived.Test.YtddblcihkpnpmaaDoorL10a
import Derived.Test.YtddblcihkpnpmaaDoorLib5
import Derived.Test.YtddblcihkpnpmaaDoorLib6
namespace Go.Proofs.YtddblcihkpnpmaaDoor
open Go Go.RowKit Go.Alm
set_option maxRecDepth 100000 in
theorem growTells_j (s : SState) (b : GBlk) (hs : SState.Ok s) (hb : GBlk.Ok b) :
    Does Tryd.prog 5 #[(.agg (s.cells)), (.agg (b.cells))] [(.rd (some ⟨0, 0, none⟩) ((hw KL).toList)), (.rd (some ⟨1, 0, none⟩) ((hw KL).toList))] [] (fun v H => v = (.bool true) ∧ H = []) := by
  have hhs_slot := hs.slot; have hhs_len := hs.len; have hhs_count := hs.count; have hhs_win_min := hs.win.min; have hhs_win_ring_last := hs.win.ring.last; have hhs_win_ring_counts := hs.win.ring.counts; have hhs_eps_now_len := hs.eps.now.len; have hhs_eps_next_len := hs.eps.next.len; have hhb_slot := hb.slot
  refine m_fn fun F => ?_
  refine m_new 2 fun b1 => ?_
  refine m_new 0 fun b2 => ?_
  refine m_call 6 [] (awake10_j) (.cons 2 (.refl) .nil) ?_
  rintro _ _ ⟨rfl, rfl⟩
  refine m_ldW 9 4 b1 35 363 (s.cells) (SState.size _) ?_
  refine m_call 0 [] (own10_j s hs) .nil ?_
  rintro _ _ ⟨rfl, rfl⟩
  refine m_call 0 [] (rstR_j s hs) .nil ?_
  rintro _ _ ⟨rfl, rfl⟩
  refine m_ifn 3 (SState.Right s) (fun c3 => ?_) (fun c3 => ?_)
  · -- no
    refine m_ldW 4 4 b1 35 363 (s.cells) (SState.size _) ?_
    refine m_ld 0 3 ?_
    refine m_call 0 [] (child_j s b hs (by first | with_reducible assumption | omega | decide) hb) (.cons 2 (.refl) .nil) ?_
    rintro _ _ ⟨rfl, rfl⟩
    refine m_new 3 fun b4 => ?_
    refine m_stW 0 0 363 ((childS s b).cells) (SState.size _) (SState.ones _) ?_
    refine m_cut (X := Nat) 4 [5, 6] (fun (x : Nat) => [(7, (.pointer (some ⟨x, 0, none⟩))), (8, (.int .i64 ((childE s b : Nat) : Int)))]) (fun (x : Nat) => [(.blk b1 (s.cells) 35), (.blk b2 (b.cells) 59), (.blk x ((childS s b).cells) 46), (.blk b4 ((childS s b).cells) 35)]) (fun (x : Nat) => True) ?_ (fun x u6 hx => ?_)
    · -- in each order
      refine m_plan 0 [1, 2, 7] (.q 0 true (.q 2 true (.f (.e 1 (.f (.e 3 (.q 4 false (.q 5 false (.q 6 false (.e 7 (.e 8 (.q 9 false .n))))))) (.e 7 (.e 3 (.q 4 false (.q 5 false (.q 6 false (.e 8 (.q 9 false .n))))))))) (.e 7 (.e 1 (.e 3 (.q 4 false (.q 5 false (.q 6 false (.e 8 (.q 9 false .n))))))))))) [2, 1] ?_
      refine m_ldW 0 3 b1 35 363 (s.cells) (SState.size _) ?_
      refine m_ld 0 4 ?_
      refine m_fork 0 ?_ ?_
      · -- one of them
        refine m_call 0 [] (own10_j s hs) .nil ?_
        rintro _ _ ⟨rfl, rfl⟩
        refine m_fork 0 ?_ ?_
        · -- one of them
          refine m_call 0 [] (rchild_j s b hs (by first | with_reducible assumption | omega | decide) hb) (.cons 1 (.refl) .nil) ?_
          rintro _ _ ⟨rfl, rfl⟩
          refine m_new 3 fun b7 => ?_
          refine m_thaw 0 ?_
          refine m_stW 0 2 363 ((childS s b).cells) (SState.size _) (SState.ones _) ?_
          refine m_thaw 2 ?_
          exact m_back 0 b7 [0, 0, 0, 0] trivial
        · -- one of them
          refine m_new 0 fun b8 => ?_
          refine m_thaw 0 ?_
          refine m_call 0 [] (rchild_j s b hs (by first | with_reducible assumption | omega | decide) hb) (.cons 1 (.refl) .nil) ?_
          rintro _ _ ⟨rfl, rfl⟩
          refine m_stW 3 2 363 ((childS s b).cells) (SState.size _) (SState.ones _) ?_
          refine m_thaw 2 ?_
          exact m_back 0 b8 [0, 0, 0, 0] trivial
      · -- one of them
        refine m_new 0 fun b9 => ?_
        refine m_call 0 [] (own10_j s hs) .nil ?_
        rintro _ _ ⟨rfl, rfl⟩
        refine m_thaw 0 ?_
        refine m_call 0 [] (rchild_j s b hs (by first | with_reducible assumption | omega | decide) hb) (.cons 1 (.refl) .nil) ?_
        rintro _ _ ⟨rfl, rfl⟩
        refine m_stW 3 2 363 ((childS s b).cells) (SState.size _) (SState.ones _) ?_
        refine m_thaw 2 ?_
        exact m_back 0 b9 [0, 0, 0, 0] trivial
    · -- behind it
      obtain ⟨b5, rfl⟩ : ∃ y, y = x := ⟨x, rfl⟩
      refine m_plan 2 [1, 2] (.q 0 true (.q 2 true (.e 1 (.q 3 false (.q 4 false (.q 5 false (.q 6 false (.q 7 false (.q 8 false (.q 9 false .n)))))))))) [3, 2] ?_
      refine m_ldW 0 3 b4 35 363 ((childS s b).cells) (SState.size _) ?_
      refine m_ldW 0 4 b5 46 363 ((childS s b).cells) (SState.size _) ?_
      refine m_call 0 [] (own10_j (childS s b) (childS_ok hs (by assumption) hb)) .nil ?_
      rintro _ _ ⟨rfl, rfl⟩
      refine m_eqT 0 true ((childS s b).cells) (SState.wf (childS_ok hs (by assumption) hb)) ?_
      refine m_as 3 (.bool (decide (((childE s b : Nat) : Int) = ((childE s b : Nat) : Int)))) (.bool true) (by rw [decide_eq_true rfl]) ?_
      refine m_thaw 3 ?_
      exact m_ret 2 (.bool true) [] ⟨(rfl), by kernel_rfl⟩
  · -- yes
    exact m_ret 7 (.bool true) [] ⟨(rfl), by kernel_rfl⟩

set_option maxRecDepth 100000 in
theorem growRight_j (s : SState) (b : GBlk) (hs : SState.Ok s) (hb : GBlk.Ok b) :
    Does Tryd.prog 6 #[(.agg (s.cells)), (.agg (b.cells))] [(.rd (some ⟨1, 0, none⟩) ((hw KL).toList))] [] (fun v H => v = (.bool true) ∧ H = []) := by
  have hhs_slot := hs.slot; have hhs_len := hs.len; have hhs_count := hs.count; have hhs_win_min := hs.win.min; have hhs_win_ring_last := hs.win.ring.last; have hhs_win_ring_counts := hs.win.ring.counts; have hhs_eps_now_len := hs.eps.now.len; have hhs_eps_next_len := hs.eps.next.len; have hhb_slot := hb.slot
  refine m_fn fun F => ?_
  refine m_new 2 fun b1 => ?_
  refine m_new 0 fun b2 => ?_
  refine m_call 6 [] (awake10_j) (.cons 1 (.refl) .nil) ?_
  rintro _ _ ⟨rfl, rfl⟩
  refine m_ldW 9 3 b1 35 363 (s.cells) (SState.size _) ?_
  refine m_call 0 [] (stR_j s hs) .nil ?_
  rintro _ _ ⟨rfl, rfl⟩
  refine m_ifn 3 (SState.Right s) (fun c3 => ?_) (fun c3 => ?_)
  · -- no
    refine m_ldW 4 3 b1 35 363 (s.cells) (SState.size _) ?_
    refine m_ld 0 2 ?_
    refine m_call 0 [] (child_j s b hs (by first | with_reducible assumption | omega | decide) hb) (.cons 1 (.refl) .nil) ?_
    rintro _ _ ⟨rfl, rfl⟩
    refine m_new 3 fun b4 => ?_
    refine m_stW 0 0 363 ((childS s b).cells) (SState.size _) (SState.ones _) ?_
    refine m_ifn 10 (((childE s b : Nat) : Int) = (0 : Int)) (fun c5 => ?_) (fun c5 => ?_)
    · -- no
      obtain ⟨f1, f2, f3, f4, f5, f6, f7, f8, f9, f10, f11, _, _⟩ := childS_facts (s := s) (b := b) (by omega)
      refine m_plan 3 [5, 6, 7, 13, 14, 20, 21, 27, 28, 32, 33, 34, 35, 36, 37, 38, 39, 40, 41, 42, 43, 44, 45, 46, 47, 48, 49, 50, 51, 52, 53, 54, 55, 56, 57, 58, 59, 60, 61, 62, 63, 64, 65, 66, 67, 68] (.q 0 true (.e 1 (.q 2 false (.q 3 false (.q 4 true (.q 5 false (.q 6 true (.q 7 false (.q 8 false (.q 9 false (.q 10 false (.q 11 false (.q 12 true (.q 13 false (.q 14 true (.q 15 false (.q 16 false (.q 17 false (.q 18 false (.q 19 true (.q 20 false (.q 21 true (.q 22 false (.q 23 false (.q 24 false (.q 25 false (.q 26 true (.q 27 true (.e 28 (.q 29 false (.q 30 false (.q 31 false (.q 32 false (.q 33 true (.q 34 false (.q 35 true (.q 36 false (.q 37 false (.q 38 false (.q 39 false (.q 40 true (.q 41 false (.q 42 true (.q 43 false (.q 44 false (.q 45 false (.q 46 false (.q 47 false (.q 48 true (.q 49 false (.q 50 false (.q 51 true (.q 52 false (.q 53 false (.q 54 false (.q 55 false (.q 56 true (.q 57 false (.q 58 true (.q 59 false (.q 60 false (.q 61 false (.q 62 true (.q 63 false (.q 64 true (.q 65 false (.q 66 false (.q 67 false (.q 68 false (.q 69 false .n)))))))))))))))))))))))))))))))))))))))))))))))))))))))))))))))))))))) [0, 1, 0] ?_
      refine m_ldW 0 2 b4 35 363 ((childS s b).cells) (SState.size _) ?_
      refine m_call 0 [] (stR_j (childS s b) (childS_ok hs (by assumption) hb)) .nil ?_
      rintro _ _ ⟨rfl, rfl⟩
      refine m_sp 0 (SState.Right (childS s b)) (fun c6 => ?_) (fun c6 => absurd (childS_right c3 (by omega)) c6)
      refine m_ld 1 2 ?_
      refine m_ld 1 3 ?_
      refine m_u32 0 (((s.len : Nat) : Int) + (1 : Int)) (s.len + 1) (by omega) ?_
      refine m_sp 2 ((((childS s b).len : Nat) : Int) = ((s.len + 1 : Nat) : Int)) (fun c7 => ?_) (fun c7 => absurd (by omega) c7)
      refine m_ld 1 2 ?_
      refine m_ld 1 3 ?_
      refine m_sp 2 ((((childS s b).slot : Nat) : Int) > ((s.slot : Nat) : Int)) (fun c8 => ?_) (fun c8 => absurd (by omega) c8)
      refine m_ld 1 2 ?_
      refine m_ld 1 4 ?_
      refine m_sp 2 ((((childS s b).slot : Nat) : Int) = ((b.slot : Nat) : Int)) (fun c9 => ?_) (fun c9 => absurd (by omega) c9)
      refine m_ld 1 2 ?_
      refine m_ldW 0 3 b1 35 363 (s.cells) (SState.size _) ?_
      refine m_call 0 [] (stH_j s hs) (.cons 1 (.refl) .nil) ?_
      rintro _ _ ⟨rfl, rfl⟩
      refine m_eqs 0 true (hv ((childS s b).prev)) (hv (stH s)) ((childS s b).prev = stH s) (hv_iff ((childS_ok hs (by assumption) hb).prev).len (stH_ok _).len) (H32.wf ((childS_ok hs (by assumption) hb).prev)) (H32.wf (stH_ok _)) (fun _ => ?_) (fun c10 => absurd (f3) c10)
      refine m_ld 3 2 ?_
      refine m_ld 1 4 ?_
      refine m_eqs 0 true (hv ((childS s b).led)) (hv b.led) ((childS s b).led = b.led) (hv_iff ((childS_ok hs (by assumption) hb).led).len hb.led.len) (H32.wf ((childS_ok hs (by assumption) hb).led)) (H32.wf hb.led) (fun _ => ?_) (fun c11 => absurd (f4) c11)
      refine m_ld 3 2 ?_
      refine m_ld 1 4 ?_
      refine m_eqs 0 true (hv ((childS s b).draw)) (hv b.draw) ((childS s b).draw = b.draw) (hv_iff ((childS_ok hs (by assumption) hb).draw).len hb.draw.len) (H32.wf ((childS_ok hs (by assumption) hb).draw)) (H32.wf hb.draw) (fun _ => ?_) (fun c12 => absurd (f5) c12)
      refine m_ld 4 2 ?_
      refine m_ld 2 3 ?_
      refine m_sp 2 (((((childS s b).win).min : Nat) : Int) ≤ ((s.win.min : Nat) : Int)) (fun c13 => ?_) (fun c13 => absurd (by omega) c13)
      refine m_ld 1 2 ?_
      refine m_ld 1 3 ?_
      refine m_sp 1 ((((childS s b).count : Nat) : Int) = ((s.count : Nat) : Int)) (fun c14 => ?_) (fun c14 => ?_)
      · -- yes
        refine m_thaw 10 ?_
        exact m_ret 2 (.bool true) [] ⟨(rfl), by kernel_rfl⟩
      · -- no
        refine m_ld 1 2 ?_
        refine m_ld 1 3 ?_
        refine m_u32 0 (((s.count : Nat) : Int) + (1 : Int)) (s.count + 1) (by omega) ?_
        refine m_thaw 5 ?_
        exact m_ret 2 (.bool (decide ((((childS s b).count : Nat) : Int) = ((s.count + 1 : Nat) : Int)))) [] ⟨(congrArg Value.bool (decide_eq_true (by first | omega | (have := childE_kind (s := s) (b := b); omega)))), by kernel_rfl⟩
    · -- yes
      refine m_ldW 2 2 b4 35 363 ((childS s b).cells) (SState.size _) ?_
      refine m_eqsW 1 363 true ((childS s b).cells) ((⟨Z32, Z32, Z32, 0, 0, 0, (⟨0, (⟨0, [0, 0, 0, 0]⟩ : RRing)⟩ : RWin), (⟨(⟨Z32, Z32, Z32, Z32, 0⟩ : EData), (⟨Z32, Z32, Z32, Z32, 0⟩ : EData)⟩ : EPair)⟩ : SState).cells) (childS s b = (⟨Z32, Z32, Z32, 0, 0, 0, (⟨0, (⟨0, [0, 0, 0, 0]⟩ : RRing)⟩ : RWin), (⟨(⟨Z32, Z32, Z32, Z32, 0⟩ : EData), (⟨Z32, Z32, Z32, Z32, 0⟩ : EData)⟩ : EPair)⟩ : SState)) (SState.inj (childS_ok hs (by assumption) hb) ⟨H32.zero, H32.zero, H32.zero, (by first | omega | decide | exact nar_lt _ | with_reducible assumption | (dsimp only; first | omega | exact nar_lt _)), (by first | omega | decide | exact nar_lt _ | with_reducible assumption | (dsimp only; first | omega | exact nar_lt _)), (by first | omega | decide | exact nar_lt _ | with_reducible assumption | (dsimp only; first | omega | exact nar_lt _)), ⟨(by first | omega | decide | exact nar_lt _ | with_reducible assumption | (dsimp only; first | omega | exact nar_lt _)), ⟨(by first | omega | decide | exact nar_lt _ | with_reducible assumption | (dsimp only; first | omega | exact nar_lt _)), (show N4 [0, 0, 0, 0] from by decide)⟩⟩, ⟨⟨H32.zero, H32.zero, H32.zero, H32.zero, (by first | omega | decide | exact nar_lt _ | with_reducible assumption | (dsimp only; first | omega | exact nar_lt _))⟩, ⟨H32.zero, H32.zero, H32.zero, H32.zero, (by first | omega | decide | exact nar_lt _ | with_reducible assumption | (dsimp only; first | omega | exact nar_lt _))⟩⟩⟩) (SState.wf (childS_ok hs (by assumption) hb)) (SState.wf ⟨H32.zero, H32.zero, H32.zero, (by first | omega | decide | exact nar_lt _ | with_reducible assumption | (dsimp only; first | omega | exact nar_lt _)), (by first | omega | decide | exact nar_lt _ | with_reducible assumption | (dsimp only; first | omega | exact nar_lt _)), (by first | omega | decide | exact nar_lt _ | with_reducible assumption | (dsimp only; first | omega | exact nar_lt _)), ⟨(by first | omega | decide | exact nar_lt _ | with_reducible assumption | (dsimp only; first | omega | exact nar_lt _)), ⟨(by first | omega | decide | exact nar_lt _ | with_reducible assumption | (dsimp only; first | omega | exact nar_lt _)), (show N4 [0, 0, 0, 0] from by decide)⟩⟩, ⟨⟨H32.zero, H32.zero, H32.zero, H32.zero, (by first | omega | decide | exact nar_lt _ | with_reducible assumption | (dsimp only; first | omega | exact nar_lt _))⟩, ⟨H32.zero, H32.zero, H32.zero, H32.zero, (by first | omega | decide | exact nar_lt _ | with_reducible assumption | (dsimp only; first | omega | exact nar_lt _))⟩⟩⟩) (SState.size _) (SState.size _) (SState.kinds _) (SState.kinds _) (fun _ => ?_) (fun c15 => absurd (childS_bad (by omega)) c15)
      refine m_sp 3 (((childE s b : Nat) : Int) = (6 : Int)) (fun c16 => ?_) (fun c16 => ?_)
      · -- yes
        exact m_ret 13 (.bool true) [] ⟨(rfl), by kernel_rfl⟩
      · -- no
        refine m_sp 3 (((childE s b : Nat) : Int) = (5 : Int)) (fun c17 => ?_) (fun c17 => ?_)
        · -- yes
          exact m_ret 9 (.bool true) [] ⟨(rfl), by kernel_rfl⟩
        · -- no
          exact m_ret 9 (.bool (decide (((childE s b : Nat) : Int) = (11 : Int)))) [] ⟨(congrArg Value.bool (decide_eq_true (by first | omega | (have := childE_kind (s := s) (b := b); omega)))), by kernel_rfl⟩
  · -- yes
    exact m_ret 7 (.bool true) [] ⟨(rfl), by kernel_rfl⟩

end Go.Proofs.YtddblcihkpnpmaaDoor
