/- Layer 10's laws. -/
import Derived.Test.YtddblcihkpnpmaaDoorL10a
import Derived.Test.YtddblcihkpnpmaaDoorLib5
import Derived.Test.YtddblcihkpnpmaaDoorLib6
namespace Go.Proofs.YtddblcihkpnpmaaDoor
open Go Go.RowKit Go.Alm
set_option maxRecDepth 100000 in
theorem growChain_j (led : List Nat) (ao : Option Addr) (cap : Nat) (l : List GBlk) (hled : H32 led) (hl : AllB l) (hn : l.length ≤ 9223372036854775807) :
    Does Tryd.prog 7 #[(.agg (hv led)), (.slice ao l.length cap)] [(.rd ao (RL GBlk.cells l)), (.rd (some ⟨1, 0, none⟩) ((hw KL).toList))] [] (fun v H => v = (.bool true) ∧ H = []) := by
  refine m_fn fun F => ?_
  refine m_new 2 fun b1 => ?_
  refine m_call 6 [] (awake10_j) (.cons 2 (.refl) .nil) ?_
  rintro _ _ ⟨rfl, rfl⟩
  refine m_if 14 (((l.length : Nat) : Int) > (60 : Int)) (fun c2 => ?_) (fun c2 => ?_)
  · -- yes
    exact m_ret 7 (.bool true) [] ⟨(rfl), by kernel_rfl⟩
  · -- no
    refine m_ld 4 3 ?_
    refine m_call 1 [] (chain_j led ao cap l hled (by first | with_reducible assumption | omega | decide) (by first | with_reducible assumption | omega | decide)) (.cons 1 (.refl) (.cons 2 (.refl) .nil)) ?_
    rintro _ _ ⟨rfl, rfl⟩
    refine m_new 4 fun b3 => ?_
    refine m_stW 0 0 363 (((chainC (stateF led) l 0).1).cells) (SState.size _) (SState.ones _) ?_
    refine m_ld 6 4 ?_
    refine m_call 0 [] (stateG_j led hled) .nil ?_
    rintro _ _ ⟨rfl, rfl⟩
    refine m_new 0 fun b4 => ?_
    refine m_stW 0 0 363 ((stateF led).cells) (SState.size _) (SState.ones _) ?_
    refine m_loop (X := Nat × SState) 11 [1, 5, 6, 7, 8, 27, 28] (fun (x : Nat × SState) => [(29, (.int .i64 ((x.1 : Nat) : Int)))]) [0] (fun (x : Nat × SState) => [(.blk b4 (x.2.cells) 35)]) (fun (x : Nat × SState) => (x.1 ≤ l.length) ∧ (SState.Ok x.2) ∧ (SState.Right x.2) ∧ ((chainC (stateF led) l 0) = chainC x.2 (l.drop x.1) x.1)) (fun (x : Nat × SState) => l.length - x.1) (0, stateF led) (⟨Nat.zero_le _, stateF_ok hled, stateF_right led, rfl⟩) (fun x u5 hx => ?_)
    obtain ⟨i, x⟩ := x; dsimp only at hx
    obtain ⟨hi, hx, hxR, hq⟩ := hx
    refine m_if 6 (((i : Nat) : Int) < ((l.length : Nat) : Int)) (fun c6 => ?_) (fun c6 => ?_)
    · -- yes
      refine m_ix 7 1 65 l.length i (RL GBlk.cells l) .i64 (by omega) (by rw [RL_length GBlk.size]; omega) ?_
      refine m_lxN 0 1 (i * 65) 65 (RL GBlk.cells l) ((l.getD i default).cells) (RL_whole (f := GBlk.cells) (sz := 65) (l := l) (k := i) GBlk.size default (by omega)) (GBlk.size _) ?_
      refine m_new 0 fun b7 => ?_
      refine m_st 1 0 ?_
      refine m_ldW 4 4 b4 35 363 (x.cells) (SState.size _) ?_
      refine m_ld 0 3 ?_
      refine m_call 0 [] (child_j x (l.getD i default) hx (by first | with_reducible assumption | omega | decide) (AllB.get hl (by omega))) (.cons 2 (.refl) .nil) ?_
      rintro _ _ ⟨rfl, rfl⟩
      refine m_new 3 fun b8 => ?_
      refine m_stW 0 0 363 ((childS x (l.getD i default)).cells) (SState.size _) (SState.ones _) ?_
      refine m_ifn 10 (((childE x (l.getD i default) : Nat) : Int) = (0 : Int)) (fun c9 => ?_) (fun c9 => ?_)
      · -- no
        refine m_ldW 3 3 b8 35 363 ((childS x (l.getD i default)).cells) (SState.size _) ?_
        refine m_stW 0 2 363 ((childS x (l.getD i default)).cells) (SState.size _) (SState.ones _) ?_
        refine m_i64 4 (((i : Nat) : Int) + (1 : Int)) (i + 1) (by omega) ?_
        exact m_back 2 (i + 1, childS x (l.getD i default)) [2, 2, 2] ⟨⟨(by omega), childS_ok hx hxR (hl.get (by omega)), childS_right hxR (by omega), hq.trans (chainC_ok (by omega) (by omega))⟩, (by omega)⟩
      · -- yes
        refine m_ldW 2 6 b3 35 363 (((chainC (stateF led) l 0).1).cells) (SState.size _) ?_
        refine m_ldW 0 5 b4 35 363 (x.cells) (SState.size _) ?_
        refine m_eqsW 0 363 true (((chainC (stateF led) l 0).1).cells) (x.cells) ((chainC (stateF led) l 0).1 = x) (SState.inj ((chainC_spec _ _ _ (by first | exact stateF_ok hled | assumption) (by first | exact stateF_right _ | assumption) (by first | assumption | exact hl)).1) hx) (SState.wf ((chainC_spec _ _ _ (by first | exact stateF_ok hled | assumption) (by first | exact stateF_right _ | assumption) (by first | assumption | exact hl)).1)) (SState.wf hx) (SState.size _) (SState.size _) (SState.kinds _) (SState.kinds _) (fun _ => ?_) (fun c10 => absurd (by rw [hq, chainC_bad (by omega) (by omega)]) c10)
        refine m_sp 5 ((((chainC (stateF led) l 0).2.1 : Nat) : Int) = ((i : Nat) : Int)) (fun c11 => ?_) (fun c11 => absurd (by rw [hq, chainC_bad (by omega) (by omega)]) c11)
        exact m_ret 14 (.bool (decide ((((chainC (stateF led) l 0).2.2 : Nat) : Int) = ((childE x (l.getD i default) : Nat) : Int)))) [] ⟨(congrArg Value.bool (decide_eq_true (by rw [hq, chainC_bad (by omega) (by omega)]))), by kernel_rfl⟩
    · -- no
      refine m_ldW 7 4 b3 35 363 (((chainC (stateF led) l 0).1).cells) (SState.size _) ?_
      refine m_ldW 0 3 b4 35 363 (x.cells) (SState.size _) ?_
      refine m_eqsW 0 363 true (((chainC (stateF led) l 0).1).cells) (x.cells) ((chainC (stateF led) l 0).1 = x) (SState.inj ((chainC_spec _ _ _ (by first | exact stateF_ok hled | assumption) (by first | exact stateF_right _ | assumption) (by first | assumption | exact hl)).1) hx) (SState.wf ((chainC_spec _ _ _ (by first | exact stateF_ok hled | assumption) (by first | exact stateF_right _ | assumption) (by first | assumption | exact hl)).1)) (SState.wf hx) (SState.size _) (SState.size _) (SState.kinds _) (SState.kinds _) (fun _ => ?_) (fun c12 => absurd (by rw [hq, chainC_end (by omega)]) c12)
      refine m_sp 6 ((((chainC (stateF led) l 0).2.1 : Nat) : Int) = ((l.length : Nat) : Int)) (fun c13 => ?_) (fun c13 => absurd (by rw [hq, chainC_end (by omega)]; show ((i : Nat) : Int) = _; omega) c13)
      exact m_ret 7 (.bool (decide ((((chainC (stateF led) l 0).2.2 : Nat) : Int) = (0 : Int)))) [] ⟨(congrArg Value.bool (decide_eq_true (by rw [hq, chainC_end (by omega)]; rfl))), by kernel_rfl⟩

end Go.Proofs.YtddblcihkpnpmaaDoor
