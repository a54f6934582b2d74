/- Layer 10's laws. -/
import Derived.Test.YtinmmamnldephaaDoorGJ
import Derived.Test.YtinmmamnldephaaDoorLib5
import Derived.Test.YtinmmamnldephaaDoorLib6
namespace Go.Proofs.YtinmmamnldephaaDoor
open Go Go.RowKit Go.Alm
set_option maxRecDepth 100000 in
theorem chain_j (led : List Nat) (ao : Option Addr) (cap : Nat) (l : List GBlk) (hled : H32 led) (hl : AllB l) (hn : l.length ≤ 9223372036854775807) :
    Does Tryd.prog 28 #[(.agg (hv led)), (.slice ao l.length cap)] [(.rd ao (RL GBlk.cells l)), (.rd (some ⟨1, 0, none⟩) ((hw KL).toList))] [] (fun v H => v = (.tuple #[(.agg (((chainC (stateF led) l 0).1).cells)), (.int .i64 (((chainC (stateF led) l 0).2.1 : Nat) : Int)), (.int .i64 (((chainC (stateF led) l 0).2.2 : Nat) : Int))]) ∧ H = []) := by
  refine m_fn fun F => ?_
  refine m_new 2 fun b1 => ?_
  refine m_new 0 fun b2 => ?_
  refine m_ld 6 4 ?_
  refine m_call 0 [] (stateG_j led hled) .nil ?_
  rintro _ _ ⟨rfl, rfl⟩
  refine m_new 0 fun b3 => ?_
  refine m_stW 0 0 363 ((stateF led).cells) (SState.size _) (SState.ones _) ?_
  refine m_loop (X := Nat × SState) 11 [1, 4, 7, 14, 15] (fun (x : Nat × SState) => [(16, (.int .i64 ((x.1 : Nat) : Int)))]) [0] (fun (x : Nat × SState) => [(.blk b3 (x.2.cells) 38)]) (fun (x : Nat × SState) => (x.1 ≤ l.length) ∧ (SState.Ok x.2) ∧ (SState.Right x.2) ∧ ((chainC (stateF led) l 0) = chainC x.2 (l.drop x.1) x.1)) (fun (x : Nat × SState) => l.length - x.1) (0, stateF led) (⟨Nat.zero_le _, stateF_ok hled, stateF_right led, rfl⟩) (fun x u4 hx => ?_)
  obtain ⟨i, x⟩ := x; dsimp only at hx
  obtain ⟨hi, hx, hxR, hq⟩ := hx
  refine m_if 6 (((i : Nat) : Int) < ((l.length : Nat) : Int)) (fun c5 => ?_) (fun c5 => ?_)
  · -- yes
    refine m_ix 7 1 65 l.length i (RL GBlk.cells l) .i64 (by omega) (by rw [RL_length GBlk.size]; omega) ?_
    refine m_lxN 0 1 (i * 65) 65 (RL GBlk.cells l) ((l.getD i default).cells) (RL_whole (f := GBlk.cells) (sz := 65) (l := l) (k := i) GBlk.size default (by omega)) (GBlk.size _) ?_
    refine m_new 0 fun b6 => ?_
    refine m_st 1 0 ?_
    refine m_ldW 4 4 b3 38 363 (x.cells) (SState.size _) ?_
    refine m_ld 0 3 ?_
    refine m_call 0 [] (child_j x (l.getD i default) hx (by first | with_reducible assumption | omega | decide) (AllB.get hl (by omega))) (.cons 2 (.refl) .nil) ?_
    rintro _ _ ⟨rfl, rfl⟩
    refine m_new 3 fun b7 => ?_
    refine m_stW 0 0 363 ((childS x (l.getD i default)).cells) (SState.size _) (SState.ones _) ?_
    refine m_ifn 10 (((childE x (l.getD i default) : Nat) : Int) = (0 : Int)) (fun c8 => ?_) (fun c8 => ?_)
    · -- no
      refine m_ldW 3 3 b7 38 363 ((childS x (l.getD i default)).cells) (SState.size _) ?_
      refine m_stW 0 2 363 ((childS x (l.getD i default)).cells) (SState.size _) (SState.ones _) ?_
      refine m_i64 4 (((i : Nat) : Int) + (1 : Int)) (i + 1) (by omega) ?_
      exact m_back 2 (i + 1, childS x (l.getD i default)) [2, 2, 2] ⟨⟨(by omega), childS_ok hx hxR (hl.get (by omega)), childS_right hxR (by omega), hq.trans (chainC_ok (by omega) (by omega))⟩, (by omega)⟩
    · -- yes
      refine m_ldW 2 5 b3 38 363 (x.cells) (SState.size _) ?_
      refine m_stW 2 3 363 (x.cells) (SState.size _) (SState.ones _) ?_
      exact m_retCW 11 6 [0, 0] 363 b2 38 (x.cells) (SState.size _) (.tuple #[(.agg (x.cells)), (.int .i64 ((i : Nat) : Int)), (.int .i64 ((childE x (l.getD i default) : Nat) : Int))]) [] ⟨(by rw [hq, chainC_bad (by omega) (by omega)]), by kernel_rfl⟩
  · -- no
    refine m_ldW 7 3 b3 38 363 (x.cells) (SState.size _) ?_
    refine m_stW 2 1 363 (x.cells) (SState.size _) (SState.ones _) ?_
    exact m_retCW 5 4 [0, 0] 363 b2 38 (x.cells) (SState.size _) (.tuple #[(.agg (x.cells)), (.int .i64 ((l.length : Nat) : Int)), (.int .i64 0)]) [] ⟨(by rw [hq, chainC_end (by omega), show i = l.length from by omega]; kernel_rfl), by kernel_rfl⟩

set_option maxRecDepth 100000 in
theorem awake10_j :
    Does Tryd.prog 7 #[] [(.rd (some ⟨1, 0, none⟩) ((hw KL).toList))] [] (fun v H => v = (.bool true) ∧ H = []) := by
  refine m_fn fun F => ?_
  refine m_new 12 fun b1 => ?_
  refine m_call 0 [] (chain_j (hlit 1) (some ⟨b1, 0, none⟩) 3 [(⟨3, Z32, Z32⟩ : GBlk), (⟨30, Z32, Z32⟩ : GBlk), (⟨50, Z32, (hlit 7)⟩ : GBlk)] (hlit_ok (n := 1) (by decide)) (awk_all) (by decide)) (.cons 2 (.rd) (.cons 1 (.refl) .nil)) ?_
  rintro _ _ ⟨hv2, rfl⟩
  rw [show ((.tuple #[(.agg (((chainC (stateF (hlit 1)) [(⟨3, Z32, Z32⟩ : GBlk), (⟨30, Z32, Z32⟩ : GBlk), (⟨50, Z32, (hlit 7)⟩ : GBlk)] 0).1).cells)), (.int .i64 (((chainC (stateF (hlit 1)) [(⟨3, Z32, Z32⟩ : GBlk), (⟨30, Z32, Z32⟩ : GBlk), (⟨50, Z32, (hlit 7)⟩ : GBlk)] 0).2.1 : Nat) : Int)), (.int .i64 (((chainC (stateF (hlit 1)) [(⟨3, Z32, Z32⟩ : GBlk), (⟨30, Z32, Z32⟩ : GBlk), (⟨50, Z32, (hlit 7)⟩ : GBlk)] 0).2.2 : Nat) : Int))]) : Value) = (.tuple #[(.agg (awkS.cells)), (.int .i64 3), (.int .i64 0)]) from awk10] at hv2; subst hv2
  refine m_new 4 fun b3 => ?_
  refine m_stW 0 0 363 (awkS.cells) (SState.size _) (SState.ones _) ?_
  refine m_ldW 6 2 b3 38 363 (awkS.cells) (SState.size _) ?_
  refine m_call 1 [] (child_j awkS (⟨50, Z32, Z32⟩ : GBlk) awkS_ok (awkS_right) ⟨(by first | omega | decide | exact nar_lt _ | with_reducible assumption | (dsimp only; first | omega | exact nar_lt _)), H32.zero, H32.zero⟩) (.cons 1 (.refl) .nil) ?_
  rintro _ _ ⟨hv4, rfl⟩
  rw [show ((.tuple #[(.agg ((childS awkS (⟨50, Z32, Z32⟩ : GBlk)).cells)), (.int .i64 ((childE awkS (⟨50, Z32, Z32⟩ : GBlk) : Nat) : Int))]) : Value) = (.tuple #[(.agg ((childS awkS (⟨50, Z32, Z32⟩ : GBlk)).cells)), (.int .i64 6)]) from by rw [awkB]; kernel_rfl] at hv4; subst hv4
  refine m_new 3 fun b5 => ?_
  refine m_stW 0 0 363 ((childS awkS (⟨50, Z32, Z32⟩ : GBlk)).cells) (SState.size _) (SState.ones _) ?_
  refine m_call 6 [] (stateG_j (hlit 1) (hlit_ok (n := 1) (by decide))) .nil ?_
  rintro _ _ ⟨rfl, rfl⟩
  refine m_new 0 fun b6 => ?_
  refine m_stW 0 0 363 ((stateF (hlit 1)).cells) (SState.size _) (SState.ones _) ?_
  refine m_ldW 4 2 b6 38 363 ((stateF (hlit 1)).cells) (SState.size _) ?_
  refine m_call 1 [] (child_j (stateF (hlit 1)) (⟨3, Z32, Z32⟩ : GBlk) (stateF_ok (hlit_ok (n := 1) (by decide))) (stateF_right _) ⟨(by first | omega | decide | exact nar_lt _ | with_reducible assumption | (dsimp only; first | omega | exact nar_lt _)), H32.zero, H32.zero⟩) (.cons 1 (.refl) .nil) ?_
  rintro _ _ ⟨hv7, rfl⟩
  rw [show ((.tuple #[(.agg ((childS (stateF (hlit 1)) (⟨3, Z32, Z32⟩ : GBlk)).cells)), (.int .i64 ((childE (stateF (hlit 1)) (⟨3, Z32, Z32⟩ : GBlk) : Nat) : Int))]) : Value) = (.tuple #[(.agg ((childS (stateF (hlit 1)) (⟨3, Z32, Z32⟩ : GBlk)).cells)), (.int .i64 0)]) from by rw [awkG]; kernel_rfl] at hv7; subst hv7
  refine m_new 3 fun b8 => ?_
  refine m_stW 0 0 363 ((childS (stateF (hlit 1)) (⟨3, Z32, Z32⟩ : GBlk)).cells) (SState.size _) (SState.ones _) ?_
  refine m_plan 4 [38, 39, 42, 43, 44, 45] (.q 0 false (.q 1 false (.q 2 false (.q 3 false (.q 4 false (.q 5 false (.q 6 false (.q 7 false (.q 8 true (.q 9 false (.q 10 false (.q 11 false (.q 12 false (.q 13 true (.q 14 false (.q 15 false (.q 16 false (.q 17 false (.q 18 true (.q 19 false (.q 20 false (.q 21 false (.q 22 false (.q 23 false (.q 24 true (.q 25 false (.q 26 false (.q 27 false (.q 28 false (.q 29 false (.q 30 false (.q 31 false (.q 32 false (.q 33 false (.q 34 false (.q 35 false (.q 36 false (.q 37 true (.q 38 true (.e 39 (.q 40 false (.q 41 false (.q 42 false (.q 43 true (.e 44 (.q 45 false (.q 46 false .n))))))))))))))))))))))))))))))))))))))))))))))) [3, 0, 0] ?_
  refine m_ld 8 2 ?_
  refine m_sp 2 (((awkS.slot : Nat) : Int) = (50 : Int)) (fun c9 => ?_) (fun c9 => absurd (by kernel_rfl) c9)
  refine m_ld 1 2 ?_
  refine m_sp 2 (((awkS.len : Nat) : Int) = (4 : Int)) (fun c10 => ?_) (fun c10 => absurd (by kernel_rfl) c10)
  refine m_ld 1 2 ?_
  refine m_sp 2 (((awkS.count : Nat) : Int) = (2 : Int)) (fun c11 => ?_) (fun c11 => absurd (by kernel_rfl) c11)
  refine m_ld 2 2 ?_
  refine m_sp 2 (((awkS.draw.getD 0 0 : Nat) : Int) = (7 : Int)) (fun c12 => ?_) (fun c12 => absurd (by kernel_rfl) c12)
  refine m_ld 9 3 ?_
  refine m_ldW 0 4 b6 38 363 ((stateF (hlit 1)).cells) (SState.size _) ?_
  refine m_call 0 [] (stH_j (stateF (hlit 1)) (stateF_ok (hlit_ok (n := 1) (by decide)))) (.cons 1 (.refl) .nil) ?_
  rintro _ _ ⟨rfl, rfl⟩
  refine m_eqs 0 true (hv ((childS (stateF (hlit 1)) (⟨3, Z32, Z32⟩ : GBlk)).prev)) (hv (stH (stateF (hlit 1)))) ((childS (stateF (hlit 1)) (⟨3, Z32, Z32⟩ : GBlk)).prev = stH (stateF (hlit 1))) (hv_iff ((childS_ok (stateF_ok (hlit_ok (n := 1) (by decide))) (stateF_right _) ⟨(by first | omega | decide | exact nar_lt _ | with_reducible assumption | (dsimp only; first | omega | exact nar_lt _)), H32.zero, H32.zero⟩).prev).len (stH_ok _).len) (H32.wf ((childS_ok (stateF_ok (hlit_ok (n := 1) (by decide))) (stateF_right _) ⟨(by first | omega | decide | exact nar_lt _ | with_reducible assumption | (dsimp only; first | omega | exact nar_lt _)), H32.zero, H32.zero⟩).prev)) (H32.wf (stH_ok _)) (fun _ => ?_) (fun c13 => absurd ((childS_facts awkG).2.2.1) c13)
  refine m_ldW 2 2 b3 38 363 (awkS.cells) (SState.size _) ?_
  refine m_call 0 [] (stR_j awkS awkS_ok) .nil ?_
  rintro _ _ ⟨rfl, rfl⟩
  refine m_thaw 3 ?_
  exact m_ret 2 (.bool (decide (SState.Right awkS))) [] ⟨(congrArg Value.bool (decide_eq_true awkS_right)), by kernel_rfl⟩

end Go.Proofs.YtinmmamnldephaaDoor
