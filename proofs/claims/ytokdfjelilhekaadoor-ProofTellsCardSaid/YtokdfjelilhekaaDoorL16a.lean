/- Layer 16's laws. -/
import Derived.Test.YtokdfjelilhekaaDoorL16s
import Derived.Test.YtokdfjelilhekaaDoorLib8
import Derived.Test.YtokdfjelilhekaaDoorLib7
namespace Go.Proofs.YtokdfjelilhekaaDoor
open Go Go.RowKit Go.Alm
theorem same_o (aoa : Option Addr) (ca : Nat) (la : List Nat) (aob : Option Addr) (cb : Nat) (lb : List Nat) (hla : la.length ≤ 100000000) (hlb : lb.length ≤ 100000000) :
    Does Tryd.prog 34 #[.slice aoa la.length ca, .slice aob lb.length cb] [.rd aoa (B la), .rd aob (B lb)] [] (fun v H => v = (.bool (decide (la = lb))) ∧ H = []) :=
  Does.of_calls fun w hw => same_c _ la _ lb w ⟨aoa, ca, rfl, hw (.rd aoa (B la)) (by simp)⟩ ⟨aob, cb, rfl, hw (.rd aob (B lb)) (by simp)⟩ hla hlb

set_option maxRecDepth 100000 in
theorem own16_j (a : Acct) (ha : Acct.Ok a) :
    Does Tryd.prog 39 #[(.agg (a.cells))] [] [] (fun v H => v = (.agg (a.cells)) ∧ H = []) := by
  have hha_s := ha.s; have hha_bal := ha.bal; have hha_non := ha.non
  refine m_fn fun F => ?_
  refine m_new 2 fun b1 => ?_
  refine m_new 0 fun b2 => ?_
  refine m_ld 4 2 ?_
  refine m_st 0 0 ?_
  exact m_retC 3 [1] (.agg (a.cells)) [] ⟨(rfl), by kernel_rfl⟩

set_option maxRecDepth 100000 in
theorem proofTells_j (root : List Nat) (leaf : List Nat) (pl : Int) (a : Acct) (p : Path4) (ao : Option Addr) (cap : Nat) (l : List Nat) (hr : H32 root) (hleaf : H32 leaf) (_ : -9223372036854775808 ≤ pl ∧ pl ≤ 9223372036854775807) (ha : Acct.Ok a) (hp : Path4.Ok p) (hB : Byt l) (hc : l.length ≤ cap) (hcm : cap ≤ 9223372036854775807) :
    Does Tryd.prog 7 #[(.agg (hv root)), (.agg (hv leaf)), (.int .i64 pl), (.agg (a.cells)), (.agg (p.cells)), (.slice ao l.length cap)] [(.rd ao (B l)), (.rd (some ⟨0, 0, none⟩) ((hw KL).toList)), (.rd (some ⟨1, 0, none⟩) ((hw KL).toList))] [] (fun v H => v = (.bool true) ∧ H = []) := by
  have hha_s := ha.s; have hha_bal := ha.bal; have hha_non := ha.non
  refine m_fn fun F => ?_
  refine m_new 2 fun b1 => ?_
  refine m_new 0 fun b2 => ?_
  refine m_new 0 fun b3 => ?_
  refine m_new 0 fun b4 => ?_
  refine m_call 6 [] (awake16_j) (.cons 3 (.refl) .nil) ?_
  rintro _ _ ⟨rfl, rfl⟩
  refine m_ld 10 5 ?_
  refine m_sp 2 (((a.s.size : Nat) : Int) > (300 : Int)) (fun c5 => ?_) (fun c5 => ?_)
  · -- yes
    exact m_ret 14 (.bool true) [] ⟨(rfl), by kernel_rfl⟩
  · -- no
    refine m_if 6 (((l.length : Nat) : Int) > (300 : Int)) (fun c6 => ?_) (fun c6 => ?_)
    · -- yes
      exact m_ret 7 (.bool true) [] ⟨(rfl), by kernel_rfl⟩
    · -- no
      refine m_ld 5 6 ?_
      refine m_ld 0 4 ?_
      refine m_call 0 [] (lead_j pl leaf p hleaf hp) (.cons 3 (.refl) .nil) ?_
      rintro _ _ ⟨rfl, rfl⟩
      refine m_new 3 fun b7 => ?_
      refine m_st 0 0 ?_
      refine m_ld 6 7 ?_
      refine m_ld 0 5 ?_
      refine m_call 0 [] (rlead_j pl leaf p hleaf hp) (.cons 2 (.refl) .nil) ?_
      rintro _ _ ⟨rfl, rfl⟩
      refine m_new 3 fun b8 => ?_
      refine m_st 0 0 ?_
      refine m_call 6 [] (pread_j ao cap l hB (by omega) (by first | with_reducible assumption | omega | decide) (by first | with_reducible assumption | omega | decide)) (.cons 1 (.refl) .nil) ?_
      rintro _ _ ⟨rfl, rfl⟩
      refine m_new 3 fun b9 => ?_
      refine m_st 0 0 ?_
      refine m_call 6 [] (rpread_j ao cap l hB (by omega) (by first | with_reducible assumption | omega | decide) (by first | with_reducible assumption | omega | decide)) (.cons 1 (.refl) .nil) ?_
      rintro _ _ ⟨rfl, rfl⟩
      refine m_new 3 fun b10 => ?_
      refine m_st 0 0 ?_
      refine m_plan 4 [1, 10, 20, 21, 27, 28, 29, 30, 31, 32, 33, 34, 35] (.q 0 true (.q 1 true (.q 2 false (.q 3 false (.q 4 false (.q 5 false (.q 6 false (.q 7 false (.q 8 false (.q 9 true (.q 10 true (.q 11 false (.q 12 false (.q 13 false (.q 14 false (.q 15 false (.q 16 false (.q 17 false (.q 18 false (.q 19 true (.q 21 true (.e 20 (.e 22 (.e 23 (.q 24 false (.q 25 false (.q 26 true (.q 27 false (.q 28 true (.q 29 true (.q 31 true (.q 32 false (.q 33 true (.q 35 true (.e 30 (.e 34 (.e 36 (.q 37 false (.q 38 false (.q 39 false .n)))))))))))))))))))))))))))))))))))))))) [3, 2, 1, 0, 0, 2, 0] ?_
      refine m_ld 0 4 ?_
      refine m_ld 0 5 ?_
      refine m_eqT 0 true (hv (leadL pl leaf p)) (H32.wf (leadL_ok _ _ _)) ?_
      refine m_as 3 (.bool (decide (((pathE pl : Nat) : Int) = ((pathE pl : Nat) : Int)))) (.bool true) (by rw [decide_eq_true rfl]) ?_
      refine m_ld 2 6 ?_
      refine m_ld 0 7 ?_
      refine m_eqT 0 true ((rdP l).cells) (Path4.wf (rdP_ok hB)) ?_
      refine m_as 4 (.bool (decide (((rdE l : Nat) : Int) = ((rdE l : Nat) : Int)))) (.bool true) (by rw [decide_eq_true rfl]) ?_
      refine m_ld 2 8 ?_
      refine m_ld 0 8 ?_
      refine m_call 0 [] (pbytes_j p hp) .nil ?_
      rintro _ _ ⟨ao11, cap12, rfl, rfl⟩
      refine m_call 0 [] (rpbytes_j p hp) .nil ?_
      rintro _ _ ⟨ao13, cap14, rfl, rfl⟩
      refine m_call 0 [] (same_o ao11 cap12 (pbL p) ao13 cap14 (pbL p) (by rw [pbL_len hp]; decide) (by rw [pbL_len hp]; decide)) (.cons 12 (.rd) (.cons 11 (.rd) .nil)) ?_
      rintro _ _ ⟨hv16, rfl⟩
      rw [show ((.bool (decide ((pbL p) = (pbL p)))) : Value) = (.bool true) from by rw [decide_eq_true rfl]] at hv16; subst hv16
      refine m_ld 2 9 ?_
      refine m_ld 1 10 ?_
      refine m_ld 0 8 ?_
      refine m_ld 0 9 ?_
      refine m_ld 1 10 ?_
      refine m_ld 0 8 ?_
      refine m_call 0 [] (chk_j root pl a p hr ha hp) (.cons 3 (.refl) .nil) ?_
      rintro _ _ ⟨rfl, rfl⟩
      refine m_call 0 [] (own16_j a ha) .nil ?_
      rintro _ _ ⟨rfl, rfl⟩
      refine m_thaw 0 ?_
      refine m_call 0 [] (rchk_j root pl a p hr ha hp) (.cons 2 (.refl) .nil) ?_
      rintro _ _ ⟨rfl, rfl⟩
      refine m_as 0 (.bool (decide (((chkE root pl a p : Nat) : Int) = ((chkE root pl a p : Nat) : Int)))) (.bool true) (by rw [decide_eq_true rfl]) ?_
      refine m_thaw 3 ?_
      exact m_ret 2 (.bool true) [] ⟨(rfl), by kernel_rfl⟩

end Go.Proofs.YtokdfjelilhekaaDoor
