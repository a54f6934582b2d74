/- Layer 15's laws. -/
import Derived.Test.YtokdfjelilhekaaDoorL15s
import Derived.Test.YtokdfjelilhekaaDoorLib7
namespace Go.Proofs.YtokdfjelilhekaaDoor
open Go Go.RowKit Go.Alm
set_option maxRecDepth 100000 in
theorem treeAlone_j (ao : Option Addr) (cap : Nat) (l : List AAct) (xa : AAct) (hl : AllA l) (hn : l.length ≤ 9223372036854775807) (hxa : AAct.Ok xa) :
    Does Tryd.prog 6 #[(.slice ao l.length cap), (.agg (xa.cells))] [(.rd ao (RL AAct.cells l)), (.rd (some ⟨1, 0, none⟩) ((hw KL).toList))] [] (fun v H => v = (.bool true) ∧ H = []) := by
  have hhxa_do_ := hxa.do_; have hhxa_place := hxa.place; have hhxa_a_s := hxa.a.s; have hhxa_a_bal := hxa.a.bal; have hhxa_a_non := hxa.a.non
  refine m_fn fun F => ?_
  refine m_new 2 fun b1 => ?_
  refine m_call 6 [] (awake15_j) (.cons 2 (.refl) .nil) ?_
  rintro _ _ ⟨rfl, rfl⟩
  refine m_call 10 [] (large_j ao cap l (hl) (hn)) (.cons 1 (.refl) .nil) ?_
  rintro _ _ ⟨y2, rfl, rfl, p3⟩
  refine m_spb 0 (y2) (fun c4 => ?_) (fun c4 => ?_)
  · -- yes
    exact m_ret 14 (.bool true) [] ⟨(rfl), by kernel_rfl⟩
  · -- no
    refine m_ld 0 3 ?_
    refine m_new 0 fun b5 => ?_
    refine m_call 0 [] (large_j (some ⟨b5, 0, none⟩) 1 [xa] (by intro y hy; rw [List.mem_singleton.1 hy]; exact hxa) (by simp)) (.cons 3 (.rd) .nil) ?_
    rintro _ _ ⟨y6, rfl, rfl, p7⟩
    refine m_ifb 3 (y6) (fun c8 => ?_) (fun c8 => ?_)
    · -- yes
      exact m_ret 7 (.bool true) [] ⟨(rfl), by kernel_rfl⟩
    · -- no
      refine m_call 4 [] (tnew_j) (.cons 2 (.refl) .nil) ?_
      rintro _ _ ⟨tb9, mb10, rfl, rfl⟩
      refine m_call 0 [] (tnew_j) (.cons 2 (.refl) .nil) ?_
      rintro _ _ ⟨tb11, mb12, rfl, rfl⟩
      refine m_loop (X := Nat × TM) 13 [3, 5, 6, 32, 33] (fun (x : Nat × TM) => [(34, (.int .i64 ((x.1 : Nat) : Int)))]) [1, 2] (fun (x : Nat × TM) => [(.gen (mapRe intK (fun _ => True) accV mb12 x.2)), (.gen (mapRe intK (fun _ => True) accV mb10 x.2))]) (fun (x : Nat × TM) => (x.1 ≤ l.length) ∧ (TrOk x.2)) (fun (x : Nat × TM) => l.length - x.1) (0, []) (⟨Nat.zero_le _, TrOk.nil⟩) (fun x u15 hx => ?_)
      obtain ⟨i, m⟩ := x; dsimp only at hx
      obtain ⟨hi, hm⟩ := hx
      refine m_if 6 (((i : Nat) : Int) < ((l.length : Nat) : Int)) (fun c16 => ?_) (fun c16 => ?_)
      · -- yes
        refine m_ix 6 1 5 l.length i (RL AAct.cells l) .i64 (by omega) (by rw [RL_length AAct.size]; omega) ?_
        refine m_lxN 0 1 (i * 5) 5 (RL AAct.cells l) ((l.getD i default).cells) (RL_whole (f := AAct.cells) (sz := 5) (l := l) (k := i) AAct.size default (by omega)) (AAct.size _) ?_
        refine m_new 0 fun b17 => ?_
        refine m_st 0 0 ?_
        refine m_ld 5 3 ?_
        refine m_call 0 [2] (do15_j tb9 mb10 m (l.getD i default) (AllA.get hl (by omega))) (.cons 6 (.refl) .nil) ?_
        rintro _ _ ⟨rfl, rfl⟩
        refine m_ld 4 4 ?_
        refine m_call 0 [2] (do15_j tb11 mb12 m (l.getD i default) (AllA.get hl (by omega))) (.cons 5 (.refl) .nil) ?_
        rintro _ _ ⟨rfl, rfl⟩
        refine m_i64 4 (((i : Nat) : Int) + (1 : Int)) (i + 1) (by omega) ?_
        exact m_back 2 (i + 1, actM m (l.getD i default)) [0, 0, 1, 1, 1, 1] ⟨⟨(by omega), actM_ok hm (hl.get (by omega))⟩, (by omega)⟩
      · -- no
        refine m_ld 8 8 ?_
        refine m_call 0 [1] (do15_j tb9 mb10 m xa hxa) (.cons 5 (.refl) .nil) ?_
        rintro _ _ ⟨rfl, rfl⟩
        refine m_trim 14 ?_
        refine m_loop (X := Nat) 0 [3, 5, 6, 9, 10] (fun (x : Nat) => [(51, (.int .i64 ((x : Nat) : Int)))]) [] (fun (x : Nat) => []) (fun (x : Nat) => (x ≤ 16)) (fun (x : Nat) => 16 - x) 0 (by omega) (fun x u18 hx => ?_)
        obtain ⟨q, rfl⟩ : ∃ y, y = x := ⟨x, rfl⟩
        have hq := hx
        refine m_if 6 (((q : Nat) : Int) < (16 : Int)) (fun c19 => ?_) (fun c19 => ?_)
        · -- yes
          refine m_call 14 [] (tget_j tb9 mb10 (actM m xa) ((q : Nat) : Int)) (.cons 6 (.refl) (.cons 3 (.refl) .nil)) ?_
          rintro _ _ ⟨rfl, rfl⟩
          refine m_new 3 fun b20 => ?_
          refine m_st 0 0 ?_
          refine m_call 7 [] (tget_j tb11 mb12 m ((q : Nat) : Int)) (.cons 6 (.refl) (.cons 5 (.refl) .nil)) ?_
          rintro _ _ ⟨rfl, rfl⟩
          refine m_new 3 fun b21 => ?_
          refine m_st 0 0 ?_
          refine m_ld 7 10 ?_
          refine m_spn 1 (((q : Nat) : Int) = xa.place) (fun c22 => ?_) (fun c22 => ?_)
          · -- no
            refine m_i64 16 (((q : Nat) : Int) + (1 : Int)) (q + 1) (by omega) ?_
            exact m_back 2 (q + 1) [2, 2, 2, 2, 2, 2] ⟨(by omega), (by omega)⟩
          · -- yes
            refine m_ld 0 4 ?_
            refine m_ld 0 3 ?_
            refine m_eqs 0 false ((acctAt (actM m xa) ((q : Nat) : Int)).cells) ((acctAt m ((q : Nat) : Int)).cells) (acctAt (actM m xa) ((q : Nat) : Int) = acctAt m ((q : Nat) : Int)) (Acct.injI (acctAt_ok (actM_ok hm hxa) _) (acctAt_ok hm _)) (Acct.wf (acctAt_ok (actM_ok hm hxa) _)) (Acct.wf (acctAt_ok hm _)) (fun _ => ?_) (fun c23 => absurd (by rw [acctAt, getM_act (by omega)]; first | done | rfl) c23)
            refine m_ifb 8 ((hasAt (actM m xa) ((q : Nat) : Int)) != (hasAt m ((q : Nat) : Int))) (fun c24 => absurd (c24.symm.trans (show _ = false from by rw [show hasAt (actM m xa) ((q : Nat) : Int) = hasAt m ((q : Nat) : Int) from (by rw [hasAt, getM_act (by omega)]; first | done | rfl)]; first | done | exact bne_self_eq_false _)) (by decide)) (fun c24 => ?_)
            refine m_i64 4 (((q : Nat) : Int) + (1 : Int)) (q + 1) (by omega) ?_
            exact m_back 2 (q + 1) [2, 2, 2, 2, 2, 2] ⟨(by omega), (by omega)⟩
        · -- no
          refine m_ld 9 8 ?_
          refine m_call 0 [] (path_j tb9 mb10 (actM m xa) xa.place (actM_ok hm hxa)) (.cons 6 (.refl) (.cons 3 (.refl) (.cons 2 (.refl) .nil))) ?_
          rintro _ _ ⟨rfl, rfl⟩
          refine m_new 3 fun b25 => ?_
          refine m_st 0 0 ?_
          refine m_ld 7 9 ?_
          refine m_call 0 [] (path_j tb11 mb12 m xa.place (hm)) (.cons 6 (.refl) (.cons 5 (.refl) (.cons 2 (.refl) .nil))) ?_
          rintro _ _ ⟨rfl, rfl⟩
          refine m_new 3 fun b26 => ?_
          refine m_st 0 0 ?_
          refine m_ld 6 4 ?_
          refine m_ld 0 3 ?_
          refine m_eqs 0 false ((pathP (getM (actM m xa)) xa.place).cells) ((pathP (getM m) xa.place).cells) (pathP (getM (actM m xa)) xa.place = pathP (getM m) xa.place) (Path4.inj (pathP_ok _ _) (pathP_ok _ _)) (Path4.wf (pathP_ok _ _)) (Path4.wf (pathP_ok _ _)) (fun _ => ?_) (fun c27 => absurd (by rw [path_still]) c27)
          refine m_as 3 (.bool (!decide (((pathE xa.place : Nat) : Int) = ((pathE xa.place : Nat) : Int)))) (.bool false) (by rw [decide_eq_true rfl]; rfl) ?_
          refine m_ld 9 10 ?_
          refine m_sp 1 (xa.do_ = (0 : Int)) (fun c28 => ?_) (fun c28 => ?_)
          · -- yes
            refine m_sp 3 (((actE xa : Nat) : Int) = (0 : Int)) (fun c29 => ?_) (fun c29 => ?_)
            · -- yes
              exact m_ret 19 (.bool true) [] ⟨(rfl), by kernel_rfl⟩
            · -- no
              refine m_spb 8 (actB m xa) (fun c30 => ?_) (fun c30 => ?_)
              · -- yes
                exact m_ret 10 (.bool true) [] ⟨(rfl), by kernel_rfl⟩
              · -- no
                refine m_call 1 [] (root_j tb9 mb10 (actM m xa) (actM_ok hm hxa)) (.cons 8 (.refl) (.cons 5 (.refl) (.cons 2 (.refl) .nil))) ?_
                rintro _ _ ⟨rfl, rfl⟩
                refine m_call 1 [] (root_j tb11 mb12 m (hm)) (.cons 7 (.refl) (.cons 6 (.refl) (.cons 2 (.refl) .nil))) ?_
                rintro _ _ ⟨rfl, rfl⟩
                refine m_eqs 0 true (hv (nodeL (getM (actM m xa)) 4 0)) (hv (nodeL (getM m) 4 0)) (nodeL (getM (actM m xa)) 4 0 = nodeL (getM m) 4 0) (hv_iff (nodeL_ok _ _ _).len (nodeL_ok _ _ _).len) (H32.wf (nodeL_ok _ _ _)) (H32.wf (nodeL_ok _ _ _)) (fun _ => ?_) (fun c31 => absurd (root_congr fun k _ => getM_still (by rintro (⟨h1, h2⟩ | h1) <;> first | omega | (rename_i h; simp_all)) k) c31)
                exact m_ret 5 (.bool true) [] ⟨(rfl), by kernel_rfl⟩
          · -- no
            refine m_spb 12 (actB m xa) (fun c32 => ?_) (fun c32 => ?_)
            · -- yes
              exact m_ret 10 (.bool true) [] ⟨(rfl), by kernel_rfl⟩
            · -- no
              refine m_call 1 [] (root_j tb9 mb10 (actM m xa) (actM_ok hm hxa)) (.cons 8 (.refl) (.cons 5 (.refl) (.cons 2 (.refl) .nil))) ?_
              rintro _ _ ⟨rfl, rfl⟩
              refine m_call 1 [] (root_j tb11 mb12 m (hm)) (.cons 7 (.refl) (.cons 6 (.refl) (.cons 2 (.refl) .nil))) ?_
              rintro _ _ ⟨rfl, rfl⟩
              refine m_eqs 0 true (hv (nodeL (getM (actM m xa)) 4 0)) (hv (nodeL (getM m) 4 0)) (nodeL (getM (actM m xa)) 4 0 = nodeL (getM m) 4 0) (hv_iff (nodeL_ok _ _ _).len (nodeL_ok _ _ _).len) (H32.wf (nodeL_ok _ _ _)) (H32.wf (nodeL_ok _ _ _)) (fun _ => ?_) (fun c33 => absurd (root_congr fun k _ => getM_still (by rintro (⟨h1, h2⟩ | h1) <;> first | omega | (rename_i h; simp_all)) k) c33)
              exact m_ret 5 (.bool true) [] ⟨(rfl), by kernel_rfl⟩

end Go.Proofs.YtokdfjelilhekaaDoor
