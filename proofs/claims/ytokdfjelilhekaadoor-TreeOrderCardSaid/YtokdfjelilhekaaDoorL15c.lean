/- Layer 15's laws. -/
import Derived.Test.YtokdfjelilhekaaDoorL15s
import Derived.Test.YtokdfjelilhekaaDoorLib7
namespace Go.Proofs.YtokdfjelilhekaaDoor
open Go Go.RowKit Go.Alm
set_option maxRecDepth 100000 in
theorem treeOrder_j (ao : Option Addr) (cap : Nat) (l : List AAct) (hl : AllA l) (hn : l.length ≤ 9223372036854775807) :
    Does Tryd.prog 5 #[(.slice ao l.length cap)] [(.rd ao (RL AAct.cells l)), (.rd (some ⟨1, 0, none⟩) ((hw KL).toList))] [] (fun v H => v = (.bool true) ∧ H = []) := by
  refine m_fn fun F => ?_
  refine m_call 8 [] (awake15_j) (.cons 2 (.refl) .nil) ?_
  rintro _ _ ⟨rfl, rfl⟩
  refine m_call 10 [] (large_j ao cap l (by first | with_reducible assumption | omega | decide) (by first | with_reducible assumption | omega | decide)) (.cons 1 (.refl) .nil) ?_
  rintro _ _ ⟨y1, rfl, rfl, p2⟩
  refine m_ifb 2 (y1) (fun c3 => ?_) (fun c3 => ?_)
  · -- yes
    exact m_ret 7 (.bool true) [] ⟨(rfl), by kernel_rfl⟩
  · -- no
    refine m_call 4 [] (tnew_j) (.cons 2 (.refl) .nil) ?_
    rintro _ _ ⟨tb4, mb5, rfl, rfl⟩
    refine m_call 0 [] (tnew_j) (.cons 2 (.refl) .nil) ?_
    rintro _ _ ⟨tb6, mb7, rfl, rfl⟩
    refine m_loop (X := Nat × TM) 13 [3, 4, 18, 19] (fun (x : Nat × TM) => [(20, (.int .i64 ((x.1 : Nat) : Int)))]) [3] (fun (x : Nat × TM) => [(.gen (mapRe intK (fun _ => True) accV mb5 x.2))]) (fun (x : Nat × TM) => (x.1 ≤ l.length) ∧ (TrOk x.2)) (fun (x : Nat × TM) => l.length - x.1) (0, []) (⟨Nat.zero_le _, TrOk.nil⟩) (fun x u10 hx => ?_)
    obtain ⟨i, m⟩ := x; dsimp only at hx
    obtain ⟨hi, hm⟩ := hx
    refine m_if 6 (((i : Nat) : Int) < ((l.length : Nat) : Int)) (fun c11 => ?_) (fun c11 => ?_)
    · -- yes
      refine m_ix 6 1 5 l.length i (RL AAct.cells l) .i64 (by omega) (by rw [RL_length AAct.size]; omega) ?_
      refine m_lxN 0 1 (i * 5) 5 (RL AAct.cells l) ((l.getD i default).cells) (RL_whole (f := AAct.cells) (sz := 5) (l := l) (k := i) AAct.size default (by omega)) (AAct.size _) ?_
      refine m_new 0 fun b12 => ?_
      refine m_st 0 0 ?_
      refine m_ld 4 3 ?_
      refine m_call 0 [1] (do15_j tb4 mb5 m (l.getD i default) (AllA.get hl (by omega))) (.cons 6 (.refl) .nil) ?_
      rintro _ _ ⟨rfl, rfl⟩
      refine m_i64 4 (((i : Nat) : Int) + (1 : Int)) (i + 1) (by omega) ?_
      exact m_back 2 (i + 1, actM m (l.getD i default)) [0, 1, 1, 1] ⟨⟨(by omega), actM_ok hm (hl.get (by omega))⟩, (by omega)⟩
    · -- no
      refine m_trim 17 ?_
      refine m_loop (X := Nat × Nat × TM) 0 [3, 4] (fun (x : Nat × Nat × TM) => [(7, (.int .i64 ((x.2.1 : Nat) : Int))), (28, (.int .i64 ((x.1 : Nat) : Int)))]) [2] (fun (x : Nat × Nat × TM) => [(.gen (mapRe intK (fun _ => True) accV mb7 x.2.2))]) (fun (x : Nat × Nat × TM) => (x.1 ≤ 16) ∧ (TrOk x.2.2) ∧ (From m x.2.2 (16 - x.1)) ∧ (x.2.1 = x.2.2.length)) (fun (x : Nat × Nat × TM) => 16 - x.1) (0, 0, []) (⟨by omega, TrOk.nil, From.start m, rfl⟩) (fun x u13 hx => ?_)
      obtain ⟨i, n, U⟩ := x; dsimp only at hx
      obtain ⟨hi, hU, hF, hn1⟩ := hx
      have hnl : n ≤ 16 := by rw [hn1]; exact len_le hU
      refine m_if 6 (((i : Nat) : Int) < (16 : Int)) (fun c14 => ?_) (fun c14 => ?_)
      · -- yes
        refine m_i64 13 ((15 : Int) - ((i : Nat) : Int)) (15 - i) (by omega) ?_
        refine m_call 7 [] (tget_j tb4 mb5 m ((15 - i : Nat) : Int)) (.cons 6 (.refl) (.cons 4 (.refl) .nil)) ?_
        rintro _ _ ⟨rfl, rfl⟩
        refine m_new 3 fun b15 => ?_
        refine m_st 0 0 ?_
        refine m_ifb 8 (hasAt m ((15 - i : Nat) : Int)) (fun c16 => ?_) (fun c16 => ?_)
        · -- yes
          refine m_i64 3 (((n : Nat) : Int) + (1 : Int)) (n + 1) (by omega) ?_
          refine m_ld 7 3 ?_
          refine m_call 0 [1] (tset_j tb6 mb7 U ((15 - i : Nat) : Int) (acctAt m ((15 - i : Nat) : Int)) (acctAt_ok hm _)) (.cons 5 (.refl) .nil) ?_
          rintro _ _ ⟨rfl, rfl⟩
          refine m_ifn 3 (((setE ((15 - i : Nat) : Int) (acctAt m ((15 - i : Nat) : Int)) : Nat) : Int) = (0 : Int)) (fun c17 => ?_) (fun c17 => absurd (by rw [(acctAt_set hm (by assumption)).1]; rfl) c17)
          refine m_i64 4 (((i : Nat) : Int) + (1 : Int)) (i + 1) (by omega) ?_
          exact m_back 2 (i + 1, n + 1, setT U ((15 - i : Nat) : Int) (acctAt m ((15 - i : Nat) : Int))) [0, 1, 1, 1] ⟨⟨(by omega), setT_ok hU (acctAt_ok hm _), (by exact from_yes hm hF (by omega) (by assumption)), (by exact from_len hm hF hn1 (by omega) (by assumption))⟩, (by omega)⟩
        · -- no
          refine m_ld 2 3 ?_
          refine m_eqs 1 false ((acctAt m ((15 - i : Nat) : Int)).cells) ((⟨(⟨#[]⟩ : ByteArray), 0, 0⟩ : Acct).cells) (acctAt m ((15 - i : Nat) : Int) = (⟨(⟨#[]⟩ : ByteArray), 0, 0⟩ : Acct)) (Acct.injI (acctAt_ok hm _) ⟨(by first | omega | decide | exact nar_lt _ | with_reducible assumption | (dsimp only; first | omega | exact nar_lt _)), (by first | omega | decide | exact nar_lt _ | with_reducible assumption | (dsimp only; first | omega | exact nar_lt _)), (by first | omega | decide | exact nar_lt _ | with_reducible assumption | (dsimp only; first | omega | exact nar_lt _))⟩) (Acct.wf (acctAt_ok hm _)) (Acct.wf ⟨(by first | omega | decide | exact nar_lt _ | with_reducible assumption | (dsimp only; first | omega | exact nar_lt _)), (by first | omega | decide | exact nar_lt _ | with_reducible assumption | (dsimp only; first | omega | exact nar_lt _)), (by first | omega | decide | exact nar_lt _ | with_reducible assumption | (dsimp only; first | omega | exact nar_lt _))⟩) (fun _ => ?_) (fun c18 => absurd (acctAt_no (by assumption)) c18)
          refine m_i64 7 (((i : Nat) : Int) + (1 : Int)) (i + 1) (by omega) ?_
          exact m_back 2 (i + 1, n, U) [1, 1, 1, 1] ⟨⟨(by omega), hU, (by exact from_no hF (by omega) (by assumption)), hn1⟩, (by omega)⟩
      · -- no
        refine m_call 8 [] (root_j tb6 mb7 U (hU)) (.cons 5 (.refl) (.cons 3 (.refl) (.cons 2 (.refl) .nil))) ?_
        rintro _ _ ⟨rfl, rfl⟩
        refine m_call 1 [] (root_j tb4 mb5 m (hm)) (.cons 6 (.refl) (.cons 4 (.refl) (.cons 2 (.refl) .nil))) ?_
        rintro _ _ ⟨rfl, rfl⟩
        refine m_eqs 0 true (hv (nodeL (getM U) 4 0)) (hv (nodeL (getM m) 4 0)) (nodeL (getM U) 4 0 = nodeL (getM m) 4 0) (hv_iff (nodeL_ok _ _ _).len (nodeL_ok _ _ _).len) (H32.wf (nodeL_ok _ _ _)) (H32.wf (nodeL_ok _ _ _)) (fun _ => ?_) (fun c19 => absurd (root_congr (From.end (by rw [show 0 = 16 - i from by omega]; exact hF))) c19)
        refine m_call 2 [] (tlen_j tb6 mb7 U) (.cons 5 (.refl) (.cons 3 (.refl) .nil)) ?_
        rintro _ _ ⟨rfl, rfl⟩
        refine m_sp 3 (((U.length : Nat) : Int) = ((n : Nat) : Int)) (fun c20 => ?_) (fun c20 => absurd (by rw [hn1]) c20)
        refine m_call 1 [] (tlen_j tb4 mb5 m) (.cons 6 (.refl) (.cons 4 (.refl) .nil)) ?_
        rintro _ _ ⟨rfl, rfl⟩
        exact m_ret 7 (.bool (decide (((m.length : Nat) : Int) = ((n : Nat) : Int)))) [] ⟨(congrArg Value.bool (decide_eq_true (by rw [hn1, len_same hm hU (fun k hk => (From.end (by rw [show 0 = 16 - i from by omega]; exact hF) k hk).symm)]))), by kernel_rfl⟩

end Go.Proofs.YtokdfjelilhekaaDoor
