/- Layer 15's laws. -/
import Derived.Test.YtokdfjelilhekaaDoorL15s
import Derived.Test.YtokdfjelilhekaaDoorLib7
namespace Go.Proofs.YtokdfjelilhekaaDoor
open Go Go.RowKit Go.Alm
set_option maxRecDepth 100000 in
theorem treeDoes_j (ao : Option Addr) (cap : Nat) (l : List AAct) (place : Int) (hl : AllA l) (hn : l.length ≤ 9223372036854775807) (_ : -9223372036854775808 ≤ place ∧ place ≤ 9223372036854775807) :
    Does Tryd.prog 3 #[(.slice ao l.length cap), (.int .i64 place)] [(.rd ao (RL AAct.cells l)), (.rd (some ⟨0, 0, none⟩) ((hw KL).toList)), (.rd (some ⟨1, 0, none⟩) ((hw KL).toList))] [] (fun v H => v = (.bool true) ∧ H = []) := by
  refine m_fn fun F => ?_
  refine m_call 8 [] (awake15_j) (.cons 3 (.refl) .nil) ?_
  rintro _ _ ⟨rfl, rfl⟩
  refine m_call 10 [] (large_j ao cap l (by first | with_reducible assumption | omega | decide) (by first | with_reducible assumption | omega | decide)) (.cons 1 (.refl) .nil) ?_
  rintro _ _ ⟨y1, rfl, rfl, p2⟩
  refine m_ifb 2 (y1) (fun c3 => ?_) (fun c3 => ?_)
  · -- yes
    exact m_ret 7 (.bool true) [] ⟨(rfl), by kernel_rfl⟩
  · -- no
    refine m_call 4 [] (tnew_j) (.cons 3 (.refl) .nil) ?_
    rintro _ _ ⟨tb4, mb5, rfl, rfl⟩
    refine m_new 1 fun b6 => ?_
    refine m_cells 0 b6 35 (#[(.string (⟨#[]⟩ : ByteArray)), (.int .u64 0), (.int .u32 0), (.string (⟨#[]⟩ : ByteArray)), (.int .u64 0), (.int .u32 0), (.string (⟨#[]⟩ : ByteArray)), (.int .u64 0), (.int .u32 0), (.string (⟨#[]⟩ : ByteArray)), (.int .u64 0), (.int .u32 0), (.string (⟨#[]⟩ : ByteArray)), (.int .u64 0), (.int .u32 0), (.string (⟨#[]⟩ : ByteArray)), (.int .u64 0), (.int .u32 0), (.string (⟨#[]⟩ : ByteArray)), (.int .u64 0), (.int .u32 0), (.string (⟨#[]⟩ : ByteArray)), (.int .u64 0), (.int .u32 0), (.string (⟨#[]⟩ : ByteArray)), (.int .u64 0), (.int .u32 0), (.string (⟨#[]⟩ : ByteArray)), (.int .u64 0), (.int .u32 0), (.string (⟨#[]⟩ : ByteArray)), (.int .u64 0), (.int .u32 0), (.string (⟨#[]⟩ : ByteArray)), (.int .u64 0), (.int .u32 0), (.string (⟨#[]⟩ : ByteArray)), (.int .u64 0), (.int .u32 0), (.string (⟨#[]⟩ : ByteArray)), (.int .u64 0), (.int .u32 0), (.string (⟨#[]⟩ : ByteArray)), (.int .u64 0), (.int .u32 0), (.string (⟨#[]⟩ : ByteArray)), (.int .u64 0), (.int .u32 0), (.bool false), (.bool false), (.bool false), (.bool false), (.bool false), (.bool false), (.bool false), (.bool false), (.bool false), (.bool false), (.bool false), (.bool false), (.bool false), (.bool false), (.bool false), (.bool false)]) (refM []) (by kernel_rfl) ?_
    refine m_loop (X := Nat × TM) 13 [1, 5, 6, 28, 29] (fun (x : Nat × TM) => [(30, (.int .i64 ((x.1 : Nat) : Int)))]) [2, 0] (fun (x : Nat × TM) => [(.gen (mapRe intK (fun _ => True) accV mb5 x.2)), (.blk b6 (refM x.2) 35)]) (fun (x : Nat × TM) => (x.1 ≤ l.length) ∧ (TrOk x.2)) (fun (x : Nat × TM) => l.length - x.1) (0, []) (⟨Nat.zero_le _, TrOk.nil⟩) (fun x u7 hx => ?_)
    obtain ⟨i, m⟩ := x; dsimp only at hx
    obtain ⟨hi, hm⟩ := hx
    refine m_if 6 (((i : Nat) : Int) < ((l.length : Nat) : Int)) (fun c8 => ?_) (fun c8 => ?_)
    · -- yes
      refine m_ix 6 1 5 l.length i (RL AAct.cells l) .i64 (by omega) (by rw [RL_length AAct.size]; omega) ?_
      refine m_lxN 0 1 (i * 5) 5 (RL AAct.cells l) ((l.getD i default).cells) (RL_whole (f := AAct.cells) (sz := 5) (l := l) (k := i) AAct.size default (by omega)) (AAct.size _) ?_
      refine m_new 0 fun b9 => ?_
      refine m_st 0 0 ?_
      refine m_ld 5 4 ?_
      refine m_call 0 [1] (do15_j tb4 mb5 m (l.getD i default) (AllA.get hl (by omega))) (.cons 6 (.refl) .nil) ?_
      rintro _ _ ⟨rfl, rfl⟩
      refine m_ld 17 5 ?_
      refine m_if 9 (((l.getD i default).do_) = (0 : Int)) (fun c10 => ?_) (fun c10 => ?_)
      · -- yes
        refine m_ld 3 5 ?_
        refine m_ld 1 5 ?_
        refine m_call 0 [2] (rset_j b6 m ((l.getD i default).place) ((l.getD i default).a) ((AllA.get hl (by omega)).a)) .nil ?_
        rintro _ _ ⟨rfl, rfl⟩
        refine m_spn 9 (((actE (l.getD i default) : Nat) : Int) = ((setE ((l.getD i default).place) ((l.getD i default).a) : Nat) : Int)) (fun c11 => ?_) (fun c11 => absurd (by rw [(actM_0 (M := m) (x := l.getD i default) (by omega)).2.1]; try rfl) c11)
        refine m_spb 4 ((actB m (l.getD i default)) != false) (fun c12 => absurd (c12.symm.trans (show _ = false from by rw [(actM_0 (M := m) (x := l.getD i default) (by omega)).2.2]; first | done | rfl | exact bne_self_eq_false _)) (by decide)) (fun c12 => ?_)
        refine m_call 1 [] (tlen_j tb4 mb5 (actM m (l.getD i default))) (.cons 7 (.refl) (.cons 5 (.refl) .nil)) ?_
        rintro _ _ ⟨rfl, rfl⟩
        refine m_call 1 [] (rtlen_j b6 (setT m ((l.getD i default).place) ((l.getD i default).a))) (.cons 4 (.refl) .nil) ?_
        rintro _ _ ⟨rfl, rfl⟩
        refine m_ifn 4 ((((actM m (l.getD i default)).length : Nat) : Int) = ((cntM (setT m ((l.getD i default).place) ((l.getD i default).a)) 16 : Nat) : Int)) (fun c13 => ?_) (fun c13 => absurd (by rw [(actM_0 (M := m) (x := l.getD i default) (by omega)).1, cnt_len (setT_ok hm (hl.get (by omega)).a)]) c13)
        refine m_i64 4 (((i : Nat) : Int) + (1 : Int)) (i + 1) (by omega) ?_
        refine m_cells 0 b6 35 (refM (setT m ((l.getD i default).place) ((l.getD i default).a))) (refM (actM m (l.getD i default))) (by rw [(actM_0 (M := m) (x := l.getD i default) (by omega)).1]) ?_
        exact m_back 2 (i + 1, actM m (l.getD i default)) [1, 0, 1] ⟨⟨(by omega), actM_ok hm (hl.get (by omega))⟩, (by omega)⟩
      · -- no
        refine m_if 6 (((l.getD i default).do_) = (1 : Int)) (fun c14 => ?_) (fun c14 => ?_)
        · -- yes
          refine m_ld 3 5 ?_
          refine m_call 0 [2] (rdrop_j b6 m ((l.getD i default).place) (hm)) .nil ?_
          rintro _ _ ⟨rfl, rfl⟩
          refine m_spn 9 (((actE (l.getD i default) : Nat) : Int) = (0 : Int)) (fun c15 => ?_) (fun c15 => absurd (by rw [(actM_1 (M := m) (x := l.getD i default) (by omega)).2.1]; try rfl) c15)
          refine m_spb 4 ((actB m (l.getD i default)) != (hasAt m ((l.getD i default).place))) (fun c16 => absurd (c16.symm.trans (show _ = false from by rw [(actM_1 (M := m) (x := l.getD i default) (by omega)).2.2]; first | done | rfl | exact bne_self_eq_false _)) (by decide)) (fun c16 => ?_)
          refine m_call 1 [] (tlen_j tb4 mb5 (actM m (l.getD i default))) (.cons 7 (.refl) (.cons 5 (.refl) .nil)) ?_
          rintro _ _ ⟨rfl, rfl⟩
          refine m_call 1 [] (rtlen_j b6 (delM m ((l.getD i default).place))) (.cons 4 (.refl) .nil) ?_
          rintro _ _ ⟨rfl, rfl⟩
          refine m_ifn 4 ((((actM m (l.getD i default)).length : Nat) : Int) = ((cntM (delM m ((l.getD i default).place)) 16 : Nat) : Int)) (fun c17 => ?_) (fun c17 => absurd (by rw [(actM_1 (M := m) (x := l.getD i default) (by omega)).1, cnt_len (hm.del _)]) c17)
          refine m_i64 4 (((i : Nat) : Int) + (1 : Int)) (i + 1) (by omega) ?_
          refine m_cells 0 b6 35 (refM (delM m ((l.getD i default).place))) (refM (actM m (l.getD i default))) (by rw [(actM_1 (M := m) (x := l.getD i default) (by omega)).1]) ?_
          exact m_back 2 (i + 1, actM m (l.getD i default)) [1, 0, 1] ⟨⟨(by omega), actM_ok hm (hl.get (by omega))⟩, (by omega)⟩
        · -- no
          refine m_spn 8 (((actE (l.getD i default) : Nat) : Int) = (0 : Int)) (fun c18 => ?_) (fun c18 => absurd (by rw [(actM_2 (M := m) (x := l.getD i default) (by omega) (by omega)).2.1]; try rfl) c18)
          refine m_spb 4 ((actB m (l.getD i default)) != false) (fun c19 => absurd (c19.symm.trans (show _ = false from by rw [(actM_2 (M := m) (x := l.getD i default) (by omega) (by omega)).2.2]; first | done | rfl | exact bne_self_eq_false _)) (by decide)) (fun c19 => ?_)
          refine m_call 1 [] (tlen_j tb4 mb5 (actM m (l.getD i default))) (.cons 7 (.refl) (.cons 4 (.refl) .nil)) ?_
          rintro _ _ ⟨rfl, rfl⟩
          refine m_call 1 [] (rtlen_j b6 m) (.cons 6 (.refl) .nil) ?_
          rintro _ _ ⟨rfl, rfl⟩
          refine m_ifn 4 ((((actM m (l.getD i default)).length : Nat) : Int) = ((cntM m 16 : Nat) : Int)) (fun c20 => ?_) (fun c20 => absurd (by rw [(actM_2 (M := m) (x := l.getD i default) (by omega) (by omega)).1, cnt_len hm]) c20)
          refine m_i64 4 (((i : Nat) : Int) + (1 : Int)) (i + 1) (by omega) ?_
          refine m_cells 2 b6 35 (refM m) (refM (actM m (l.getD i default))) (by rw [(actM_2 (M := m) (x := l.getD i default) (by omega) (by omega)).1]) ?_
          exact m_back 2 (i + 1, actM m (l.getD i default)) [0, 1, 1] ⟨⟨(by omega), actM_ok hm (hl.get (by omega))⟩, (by omega)⟩
    · -- no
      refine m_call 9 [] (tget_j tb4 mb5 m place) (.cons 6 (.refl) (.cons 4 (.refl) .nil)) ?_
      rintro _ _ ⟨rfl, rfl⟩
      refine m_new 3 fun b21 => ?_
      refine m_st 0 0 ?_
      refine m_call 7 [] (rget_j b6 m place (by first | with_reducible assumption | omega | decide)) (.cons 6 (.refl) .nil) ?_
      rintro _ _ ⟨rfl, rfl⟩
      refine m_new 3 fun b22 => ?_
      refine m_st 0 0 ?_
      refine m_call 7 [] (path_j tb4 mb5 m place (by first | with_reducible assumption | omega | decide)) (.cons 8 (.refl) (.cons 6 (.refl) (.cons 3 (.refl) .nil))) ?_
      rintro _ _ ⟨rfl, rfl⟩
      refine m_new 3 fun b23 => ?_
      refine m_st 0 0 ?_
      refine m_call 7 [] (rpath_j b6 m place (by first | with_reducible assumption | omega | decide)) (.cons 8 (.refl) (.cons 2 (.refl) .nil)) ?_
      rintro _ _ ⟨rfl, rfl⟩
      refine m_new 3 fun b24 => ?_
      refine m_st 0 0 ?_
      refine m_ld 5 7 ?_
      refine m_ld 0 6 ?_
      refine m_eqT 0 true ((acctAt m place).cells) (Acct.wf (acctAt_ok hm _)) ?_
      refine m_spb 5 ((hasAt m place) == (hasAt m place)) (fun c25 => ?_) (fun c25 => absurd (c25.symm.trans (beq_self_eq_true _)) (by decide))
      refine m_call 1 [] (root_j tb4 mb5 m (by first | with_reducible assumption | omega | decide)) (.cons 10 (.refl) (.cons 8 (.refl) (.cons 3 (.refl) .nil))) ?_
      rintro _ _ ⟨rfl, rfl⟩
      refine m_call 1 [] (rroot_j b6 m (by first | with_reducible assumption | omega | decide)) (.cons 9 (.refl) (.cons 2 (.refl) .nil)) ?_
      rintro _ _ ⟨rfl, rfl⟩
      refine m_eqT 0 true (hv (nodeL (getM m) 4 0)) (H32.wf (nodeL_ok _ _ _)) ?_
      refine m_ld 2 5 ?_
      refine m_ld 0 4 ?_
      refine m_eqT 0 true ((pathP (getM m) place).cells) (Path4.wf (pathP_ok _ _)) ?_
      refine m_as 4 (.bool (decide (((pathE place : Nat) : Int) = ((pathE place : Nat) : Int)))) (.bool true) (by rw [decide_eq_true rfl]) ?_
      exact m_ret 5 (.bool true) [] ⟨(rfl), by kernel_rfl⟩

end Go.Proofs.YtokdfjelilhekaaDoor
