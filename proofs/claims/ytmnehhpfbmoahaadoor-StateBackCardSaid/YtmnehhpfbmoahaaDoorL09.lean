/- Layer 9's laws. -/
import Derived.Test.YtmnehhpfbmoahaaDoorSR
import Derived.Test.YtmnehhpfbmoahaaDoorLib6
namespace Go.Proofs.YtmnehhpfbmoahaaDoor
open Go Go.RowKit Go.Alm
set_option maxRecDepth 100000 in
theorem own09_j (s : SState) (hs : SState.Ok s) :
    Does Tryd.prog 60 #[(.agg (s.cells))] [] [] (fun v H => v = (.agg (s.cells)) ∧ H = []) := by
  have hhs_slot := hs.slot; have hhs_len := hs.len; have hhs_count := hs.count; have hhs_win_min := hs.win.min; have hhs_win_ring_last := hs.win.ring.last; have hhs_win_ring_counts := hs.win.ring.counts; have hhs_eps_now_len := hs.eps.now.len; have hhs_eps_next_len := hs.eps.next.len
  refine m_fn fun F => ?_
  refine m_new 2 fun b1 => ?_
  refine m_new 0 fun b2 => ?_
  refine m_ld 5 2 ?_
  refine m_ld 1 2 ?_
  refine m_ld 1 2 ?_
  refine m_ld 1 2 ?_
  refine m_ld 1 2 ?_
  refine m_ld 1 2 ?_
  refine m_ld 2 2 ?_
  refine m_ld 2 2 ?_
  refine m_ld 3 2 ?_
  refine m_ld 2 2 ?_
  refine m_st 2 0 ?_
  exact m_retC 3 [1] (.agg (s.cells)) [] ⟨(rfl), by kernel_rfl⟩

set_option maxRecDepth 100000 in
theorem awake09_j :
    Does Tryd.prog 59 #[] [(.rd (some ⟨1, 0, none⟩) ((hw KL).toList))] [] (fun v H => v = (.bool true) ∧ H = []) := by
  refine m_fn fun F => ?_
  refine m_call 8 [] (stateG_j (hlit 5) (hlit_ok (n := 5) (by decide))) .nil ?_
  rintro _ _ ⟨rfl, rfl⟩
  refine m_new 0 fun b1 => ?_
  refine m_st 0 0 ?_
  refine m_ld 4 2 ?_
  refine m_call 0 [] (stbytes_j (stateF (hlit 5)) (stateF_ok (hlit_ok (n := 5) (by decide)))) .nil ?_
  rintro _ _ ⟨ao2, cap3, rfl, rfl⟩
  refine m_call 6 [] (stread_j ao2 cap3 ((stateF (hlit 5)).bytes) (bytes_byt (stateF_ok (hlit_ok (n := 5) (by decide)))) (by first | (rw [bytes_len (stateF_ok (hlit_ok (n := 5) (by decide)))]; decide) | decide)) (.cons 2 (.rd) .nil) ?_
  rintro _ _ ⟨hv4, rfl⟩
  rw [show ((.tuple #[(.agg ((stRd ((stateF (hlit 5)).bytes)).cells)), (.int .i64 ((stE ((stateF (hlit 5)).bytes) : Nat) : Int))]) : Value) = (.tuple #[(.agg ((stateF (hlit 5)).cells)), (.int .i64 0)]) from by rw [(read_back (stateF_ok (hlit_ok (n := 5) (by decide))) (genesis_right _)).1, (read_back (stateF_ok (hlit_ok (n := 5) (by decide))) (genesis_right _)).2]; rfl] at hv4; subst hv4
  refine m_new 3 fun b5 => ?_
  refine m_st 0 0 ?_
  refine m_call 5 [] (stread_j none 0 [] Byt.nil (by first | (rw [bytes_len (stateF_ok (hlit_ok (n := 5) (by decide)))]; decide) | decide)) (.cons 999 (.refl) .nil) ?_
  rintro _ _ ⟨hv6, rfl⟩
  rw [show ((.tuple #[(.agg ((stRd []).cells)), (.int .i64 ((stE [] : Nat) : Int))]) : Value) = (.tuple #[(.agg (state0.cells)), (.int .i64 3)]) from by rw [read_nil.1, read_nil.2]; rfl] at hv6; subst hv6
  refine m_new 3 fun b7 => ?_
  refine m_st 0 0 ?_
  refine m_sp 8 ((((stateF (hlit 5)).bytes.length : Nat) : Int) = (396 : Int)) (fun c8 => ?_) (fun c8 => absurd (by rw [bytes_len (stateF_ok (hlit_ok (n := 5) (by decide)))]; rfl) c8)
  refine m_ld 4 3 ?_
  refine m_ld 0 5 ?_
  refine m_eqT 0 true ((stateF (hlit 5)).cells) (SState.wf (stateF_ok (hlit_ok (n := 5) (by decide)))) ?_
  refine m_ld 2 5 ?_
  refine m_call 0 [] (stR_j (stateF (hlit 5)) (stateF_ok (hlit_ok (n := 5) (by decide)))) .nil ?_
  rintro _ _ ⟨rfl, rfl⟩
  refine m_sp 1 (SState.Right (stateF (hlit 5))) (fun c9 => ?_) (fun c9 => absurd (genesis_right _) c9)
  refine m_ld 1 5 ?_
  refine m_sp 2 ((((stateF (hlit 5)).len : Nat) : Int) = (1 : Int)) (fun c10 => ?_) (fun c10 => absurd (rfl) c10)
  refine m_ld 2 5 ?_
  refine m_sp 2 (((((stateF (hlit 5)).led).getD 0 0 : Nat) : Int) = (5 : Int)) (fun c11 => ?_) (fun c11 => absurd (rfl) c11)
  refine m_call 5 [] (stR_j (⟨Z32, Z32, Z32, 0, 0, 0, (⟨0, (⟨0, [0, 0, 0, 0]⟩ : RRing)⟩ : RWin), (⟨(⟨Z32, Z32, Z32, Z32, 0⟩ : EData), (⟨Z32, Z32, Z32, Z32, 0⟩ : EData)⟩ : EPair)⟩ : SState) ⟨H32.zero, H32.zero, H32.zero, (by first | omega | decide | exact nar_lt _ | with_reducible assumption | (dsimp only; first | omega | exact nar_lt _)), (by first | omega | decide | exact nar_lt _ | with_reducible assumption | (dsimp only; first | omega | exact nar_lt _)), (by first | omega | decide | exact nar_lt _ | with_reducible assumption | (dsimp only; first | omega | exact nar_lt _)), ⟨(by first | omega | decide | exact nar_lt _ | with_reducible assumption | (dsimp only; first | omega | exact nar_lt _)), ⟨(by first | omega | decide | exact nar_lt _ | with_reducible assumption | (dsimp only; first | omega | exact nar_lt _)), (show N4 [0, 0, 0, 0] from by decide)⟩⟩, ⟨⟨H32.zero, H32.zero, H32.zero, H32.zero, (by first | omega | decide | exact nar_lt _ | with_reducible assumption | (dsimp only; first | omega | exact nar_lt _))⟩, ⟨H32.zero, H32.zero, H32.zero, H32.zero, (by first | omega | decide | exact nar_lt _ | with_reducible assumption | (dsimp only; first | omega | exact nar_lt _))⟩⟩⟩) .nil ?_
  rintro _ _ ⟨rfl, rfl⟩
  refine m_spn 2 (SState.Right (⟨Z32, Z32, Z32, 0, 0, 0, (⟨0, (⟨0, [0, 0, 0, 0]⟩ : RRing)⟩ : RWin), (⟨(⟨Z32, Z32, Z32, Z32, 0⟩ : EData), (⟨Z32, Z32, Z32, Z32, 0⟩ : EData)⟩ : EPair)⟩ : SState)) (fun c12 => absurd c12 (by decide)) (fun c12 => ?_)
  refine m_ld 0 5 ?_
  refine m_call 0 [] (stH_j (stateF (hlit 5)) (stateF_ok (hlit_ok (n := 5) (by decide)))) (.cons 1 (.refl) .nil) ?_
  rintro _ _ ⟨rfl, rfl⟩
  refine m_eqs 1 false (hv (stH (stateF (hlit 5)))) (hv Z32) (stH (stateF (hlit 5)) = Z32) (hv_iff (stH_ok _).len H32.zero.len) (H32.wf (stH_ok _)) (H32.wf H32.zero) (fun c13 => absurd c13 (fun h => absurd (congrArg (fun l => l.getD 0 0) h) (by rw [st_nz]; decide))) (fun _ => ?_)
  exact m_ret 5 (.bool true) [] ⟨(rfl), by kernel_rfl⟩

set_option maxRecDepth 100000 in
theorem stateTells_j (s : SState) (led : List Nat) (hs : SState.Ok s) (hl : H32 led) :
    Does Tryd.prog 14 #[(.agg (s.cells)), (.agg (hv led))] [(.rd (some ⟨0, 0, none⟩) ((hw KL).toList)), (.rd (some ⟨1, 0, none⟩) ((hw KL).toList))] [] (fun v H => v = (.bool true) ∧ H = []) := by
  have hbl := bytes_len hs
  have hhs_slot := hs.slot; have hhs_len := hs.len; have hhs_count := hs.count; have hhs_win_min := hs.win.min; have hhs_win_ring_last := hs.win.ring.last; have hhs_win_ring_counts := hs.win.ring.counts; have hhs_eps_now_len := hs.eps.now.len; have hhs_eps_next_len := hs.eps.next.len
  refine m_fn fun F => ?_
  refine m_new 2 fun b1 => ?_
  refine m_new 0 fun b2 => ?_
  refine m_call 6 [] (awake09_j) (.cons 2 (.refl) .nil) ?_
  rintro _ _ ⟨rfl, rfl⟩
  refine m_plan 7 [1, 2, 3, 8, 9, 16, 17, 24, 25] (.q 0 true (.q 3 true (.e 1 (.e 2 (.e 4 (.q 5 false (.q 6 false (.q 7 true (.q 9 true (.e 8 (.e 10 (.e 11 (.q 12 false (.q 13 false (.q 14 false (.q 15 true (.q 17 true (.e 16 (.e 18 (.e 19 (.e 20 (.q 21 false (.q 22 false (.q 23 true (.q 25 true (.e 24 (.e 26 (.e 27 (.q 28 false (.q 29 false (.q 30 false .n))))))))))))))))))))))))))))))) [0, 0] ?_
  refine m_ld 0 3 ?_
  refine m_ld 0 3 ?_
  refine m_call 0 [] (stateG_j led hl) .nil ?_
  rintro _ _ ⟨rfl, rfl⟩
  refine m_call 0 [] (own09_j (stateF led) (stateF_ok hl)) .nil ?_
  rintro _ _ ⟨rfl, rfl⟩
  refine m_call 0 [] (rstateG_j led hl) .nil ?_
  rintro _ _ ⟨rfl, rfl⟩
  refine m_eqT 0 true ((stateF led).cells) (SState.wf (stateF_ok hl)) ?_
  refine m_ld 1 4 ?_
  refine m_ld 0 4 ?_
  refine m_call 0 [] (stR_j s hs) .nil ?_
  rintro _ _ ⟨rfl, rfl⟩
  refine m_call 0 [] (own09_j s hs) .nil ?_
  rintro _ _ ⟨rfl, rfl⟩
  refine m_call 0 [] (rstR_j s hs) .nil ?_
  rintro _ _ ⟨rfl, rfl⟩
  refine m_spb 2 ((decide (SState.Right s)) == (decide (SState.Right s))) (fun c3 => ?_) (fun c3 => absurd (c3.symm.trans (beq_self_eq_true _)) (by decide))
  refine m_ld 0 4 ?_
  refine m_ld 0 4 ?_
  refine m_call 0 [] (stbytes_j s hs) .nil ?_
  rintro _ _ ⟨ao4, cap5, rfl, rfl⟩
  refine m_call 0 [] (own09_j s hs) .nil ?_
  rintro _ _ ⟨rfl, rfl⟩
  refine m_call 0 [] (r9bytes_j s hs) .nil ?_
  rintro _ _ ⟨ao6, cap7, rfl, rfl⟩
  refine m_call 0 [] (same_o ao4 cap5 s.bytes ao6 cap7 s.bytes (by omega) (by omega)) (.cons 6 (.rd) (.cons 5 (.rd) .nil)) ?_
  rintro _ _ ⟨rfl, rfl⟩
  refine m_sp 1 (s.bytes = s.bytes) (fun c9 => ?_) (fun c9 => absurd (rfl) c9)
  refine m_ld 0 4 ?_
  refine m_ld 0 4 ?_
  refine m_call 0 [] (stH_j s hs) (.cons 2 (.refl) .nil) ?_
  rintro _ _ ⟨rfl, rfl⟩
  refine m_thaw 0 ?_
  refine m_call 0 [] (own09_j s hs) .nil ?_
  rintro _ _ ⟨rfl, rfl⟩
  refine m_call 0 [] (r9H_j s hs) (.cons 1 (.refl) .nil) ?_
  rintro _ _ ⟨rfl, rfl⟩
  refine m_eqT 0 true (hv (stH s)) (H32.wf (stH_ok _)) ?_
  refine m_thaw 3 ?_
  exact m_ret 2 (.bool true) [] ⟨(rfl), by kernel_rfl⟩

set_option maxRecDepth 100000 in
theorem stateReads_j (ao : Option Addr) (cap : Nat) (l : List Nat) (hB : Byt l) (hc : l.length ≤ cap) :
    Does Tryd.prog 15 #[(.slice ao l.length cap)] [(.rd ao (B l)), (.rd (some ⟨1, 0, none⟩) ((hw KL).toList))] [] (fun v H => v = (.bool true) ∧ H = []) := by
  refine m_fn fun F => ?_
  refine m_call 8 [] (awake09_j) (.cons 2 (.refl) .nil) ?_
  rintro _ _ ⟨rfl, rfl⟩
  refine m_if 14 (((l.length : Nat) : Int) > (1000 : Int)) (fun c1 => ?_) (fun c1 => ?_)
  · -- yes
    exact m_ret 7 (.bool true) [] ⟨(rfl), by kernel_rfl⟩
  · -- no
    refine m_call 5 [] (stread_j ao cap l hB (by first | with_reducible assumption | omega | decide)) (.cons 1 (.refl) .nil) ?_
    rintro _ _ ⟨rfl, rfl⟩
    refine m_new 3 fun b2 => ?_
    refine m_st 0 0 ?_
    refine m_call 6 [] (r9read_j ao cap l hB (by first | with_reducible assumption | omega | decide) (by first | with_reducible assumption | omega | decide)) (.cons 1 (.refl) .nil) ?_
    rintro _ _ ⟨rfl, rfl⟩
    refine m_new 3 fun b3 => ?_
    refine m_st 0 0 ?_
    refine m_plan 4 [1, 2] (.q 0 true (.q 2 true (.e 1 (.q 3 false (.q 4 false (.q 5 false (.q 6 false (.q 7 false (.q 8 false (.q 9 false .n)))))))))) [1, 0] ?_
    refine m_ld 0 3 ?_
    refine m_ld 0 4 ?_
    refine m_call 0 [] (own09_j (stRd l) (stRd_ok hB)) .nil ?_
    rintro _ _ ⟨rfl, rfl⟩
    refine m_eqT 0 true ((stRd l).cells) (SState.wf (stRd_ok hB)) ?_
    refine m_as 3 (.bool (decide (((stE l : Nat) : Int) = ((stE l : Nat) : Int)))) (.bool true) (by rw [decide_eq_true rfl]) ?_
    refine m_thaw 3 ?_
    exact m_ret 2 (.bool true) [] ⟨(rfl), by kernel_rfl⟩

end Go.Proofs.YtmnehhpfbmoahaaDoor
