/- Layer 16's laws. -/
import Derived.Test.YtokdfjelilhekaaDoorPJ
import Derived.Test.YtokdfjelilhekaaDoorLib8
namespace Go.Proofs.YtokdfjelilhekaaDoor
open Go Go.RowKit Go.Alm
set_option maxRecDepth 100000 in
theorem awake16_j :
    Does Tryd.prog 29 #[] [(.rd (some ⟨1, 0, none⟩) ((hw KL).toList))] [] (fun v H => v = (.bool true) ∧ H = []) := by
  refine m_fn fun F => ?_
  refine m_call 7 [] (tnew_j) (.cons 1 (.refl) .nil) ?_
  rintro _ _ ⟨tb1, mb2, rfl, rfl⟩
  refine m_new 16 fun b3 => ?_
  refine m_st 0 0 ?_
  refine m_ld 5 2 ?_
  refine m_call 0 [2] (tset_j tb1 mb2 [] (9 : Int) (⟨(⟨#[97]⟩ : ByteArray), 5, 0⟩ : Acct) awB_ok) (.cons 3 (.refl) .nil) ?_
  rintro _ _ ⟨rfl, rfl⟩
  refine bind_var awN fun m1 hm1 => ?_
  have ok1 : TrOk m1 := by rw [hm1]; exact awN_ok
  refine bind_var awP9 fun P hP => ?_
  have okP : P.Ok := by rw [hP]; exact awP9_ok
  refine bind_var awR9 fun rt hrt => ?_
  have okrt : H32 rt := by rw [hrt]; exact awR9_ok
  refine m_tm 0 mb2 (setT [] (9 : Int) (⟨(⟨#[97]⟩ : ByteArray), 5, 0⟩ : Acct)) m1 (by rw [hm1, show setT [] 9 (⟨(⟨#[97]⟩ : ByteArray), 5, 0⟩ : Acct) = awN from awSetB]) ?_
  refine m_call 5 [] (path_j tb1 mb2 m1 (9 : Int) (ok1)) (.cons 4 (.refl) (.cons 2 (.refl) (.cons 1 (.refl) .nil))) ?_
  rintro _ _ ⟨hv4, rfl⟩
  rw [show ((.tuple #[(.agg ((pathP (getM m1) (9 : Int)).cells)), (.int .i64 ((pathE (9 : Int) : Nat) : Int))]) : Value) = (.tuple #[(.agg (P.cells)), (.int .i64 0)]) from by rw [hm1, hP, awPE9]; rfl] at hv4; subst hv4
  refine m_new 3 fun b5 => ?_
  refine m_st 0 0 ?_
  refine m_ld 5 2 ?_
  refine m_call 0 [] (pbytes_j P okP) .nil ?_
  rintro _ _ ⟨ao6, cap7, rfl, rfl⟩
  refine m_rowle 2 ((pbL P).length) cap7 fun hc1 hc2 => ?_
  refine m_call 6 [] (pread_j ao6 cap7 (pbL P) (pbL_byt okP) (by rw [pbL_len okP]; decide) (hc1) (hc2)) (.cons 2 (.rd) .nil) ?_
  rintro _ _ ⟨hv8, rfl⟩
  rw [show ((.tuple #[(.agg ((rdP (pbL P)).cells)), (.int .i64 ((rdE (pbL P) : Nat) : Int))]) : Value) = (.tuple #[(.agg (P.cells)), (.int .i64 0)]) from by rw [(rd_bytes okP).1, (rd_bytes okP).2]; rfl] at hv8; subst hv8
  refine m_new 3 fun b9 => ?_
  refine m_st 0 0 ?_
  refine m_ld 5 6 ?_
  refine m_call 0 [] (ahash_j (⟨(⟨#[97]⟩ : ByteArray), 5, 0⟩ : Acct) awB_ok) (.cons 1 (.refl) .nil) ?_
  rintro _ _ ⟨hv10, rfl⟩
  rw [show ((.tuple #[(.agg (hv (accHa (⟨(⟨#[97]⟩ : ByteArray), 5, 0⟩ : Acct)))), (.int .i64 ((accE (⟨(⟨#[97]⟩ : ByteArray), 5, 0⟩ : Acct).s : Nat) : Int))]) : Value) = (.tuple #[(.agg (hv (accHa (⟨(⟨#[97]⟩ : ByteArray), 5, 0⟩ : Acct)))), (.int .i64 0)]) from by rw [show accE (Acct.s (⟨(⟨#[97]⟩ : ByteArray), 5, 0⟩ : Acct)) = 0 from awB_e]; rfl] at hv10; subst hv10
  refine m_new 3 fun b11 => ?_
  refine m_st 0 0 ?_
  refine m_ld 5 2 ?_
  refine m_ld 0 5 ?_
  refine m_call 0 [] (lead_j (9 : Int) (accHa (⟨(⟨#[97]⟩ : ByteArray), 5, 0⟩ : Acct)) P (accHa_ok _) okP) (.cons 1 (.refl) .nil) ?_
  rintro _ _ ⟨hv12, rfl⟩
  rw [show ((.tuple #[(.agg (hv (leadL (9 : Int) (accHa (⟨(⟨#[97]⟩ : ByteArray), 5, 0⟩ : Acct)) P))), (.int .i64 ((pathE (9 : Int) : Nat) : Int))]) : Value) = (.tuple #[(.agg (hv rt)), (.int .i64 0)]) from by rw [hP, hrt, show leadL 9 (accHa (⟨(⟨#[97]⟩ : ByteArray), 5, 0⟩ : Acct)) awP9 = awR9 from awLead9, awPE9]; rfl] at hv12; subst hv12
  refine m_new 3 fun b13 => ?_
  refine m_st 0 0 ?_
  refine m_ld 5 8 ?_
  refine m_ld 0 6 ?_
  refine m_ld 1 8 ?_
  refine m_call 1 [] (clash1_j (9 : Int) (⟨(⟨#[97]⟩ : ByteArray), 5, 0⟩ : Acct) P (⟨Z32, Z32, Z32, Z32⟩ : Path4) awB_ok okP ⟨H32.zero, H32.zero, H32.zero, H32.zero⟩) (.cons 1 (.refl) .nil) ?_
  rintro _ _ ⟨rfl, rfl⟩
  refine m_plan 10 [1, 3, 8, 10, 16, 18, 24, 37, 38, 39, 40, 41, 42, 43, 44, 45, 46, 47, 48, 49] (.q 0 false (.q 2 true (.q 3 true (.e 1 (.e 4 (.q 5 false (.q 6 false (.q 7 false (.q 9 true (.q 10 true (.e 8 (.e 11 (.q 12 false (.q 13 false (.q 14 false (.q 15 false (.q 17 true (.q 18 true (.e 16 (.e 19 (.q 20 false (.q 21 false (.q 22 false (.q 23 true (.q 24 true (.q 25 false (.q 26 false (.q 27 false (.q 28 false (.q 29 false (.q 30 false (.q 31 false (.q 32 false (.q 33 false (.q 34 false (.q 35 false (.q 36 false (.q 37 true (.q 38 false (.e 39 (.q 40 false (.q 41 false (.q 42 false (.q 43 false (.q 44 false (.q 45 false (.q 46 false (.q 47 false (.q 48 false (.q 49 false (.q 50 false .n))))))))))))))))))))))))))))))))))))))))))))))))))) [6, 4, 2, 0] ?_
  refine m_ld 1 2 ?_
  refine m_ld 0 3 ?_
  refine m_call 0 [] (root_j tb1 mb2 m1 (ok1)) (.cons 9 (.refl) (.cons 8 (.refl) (.cons 1 (.refl) .nil))) ?_
  rintro _ _ ⟨hv14, rfl⟩
  rw [show ((.agg (hv (nodeL (getM m1) 4 0))) : Value) = (.agg (hv rt)) from by rw [hm1, hrt]; rfl] at hv14; subst hv14
  refine m_call 0 [] (chk_j rt (9 : Int) (⟨(⟨#[97]⟩ : ByteArray), 5, 0⟩ : Acct) P okrt awB_ok okP) (.cons 1 (.refl) .nil) ?_
  rintro _ _ ⟨hv15, rfl⟩
  rw [show ((.int .i64 ((chkE rt (9 : Int) (⟨(⟨#[97]⟩ : ByteArray), 5, 0⟩ : Acct) P : Nat) : Int)) : Value) = (.int .i64 0) from by rw [hrt, hP, show chkE awR9 9 (⟨(⟨#[97]⟩ : ByteArray), 5, 0⟩ : Acct) awP9 = 0 from awC9]; rfl] at hv15; subst hv15
  refine m_ld 3 2 ?_
  refine m_ld 0 3 ?_
  refine m_call 0 [] (root_j tb1 mb2 m1 (ok1)) (.cons 9 (.refl) (.cons 8 (.refl) (.cons 1 (.refl) .nil))) ?_
  rintro _ _ ⟨hv16, rfl⟩
  rw [show ((.agg (hv (nodeL (getM m1) 4 0))) : Value) = (.agg (hv rt)) from by rw [hm1, hrt]; rfl] at hv16; subst hv16
  refine m_call 0 [] (chk_j rt (8 : Int) (⟨(⟨#[97]⟩ : ByteArray), 5, 0⟩ : Acct) P okrt awB_ok okP) (.cons 1 (.refl) .nil) ?_
  rintro _ _ ⟨hv17, rfl⟩
  rw [show ((.int .i64 ((chkE rt (8 : Int) (⟨(⟨#[97]⟩ : ByteArray), 5, 0⟩ : Acct) P : Nat) : Int)) : Value) = (.int .i64 13) from by rw [hrt, hP, show chkE awR9 8 (⟨(⟨#[97]⟩ : ByteArray), 5, 0⟩ : Acct) awP9 = 13 from awC8]; rfl] at hv17; subst hv17
  refine m_ld 4 2 ?_
  refine m_ld 0 3 ?_
  refine m_call 0 [] (root_j tb1 mb2 m1 (ok1)) (.cons 9 (.refl) (.cons 8 (.refl) (.cons 1 (.refl) .nil))) ?_
  rintro _ _ ⟨hv18, rfl⟩
  rw [show ((.agg (hv (nodeL (getM m1) 4 0))) : Value) = (.agg (hv rt)) from by rw [hm1, hrt]; rfl] at hv18; subst hv18
  refine m_call 0 [] (chk_j rt (16 : Int) (⟨(⟨#[97]⟩ : ByteArray), 5, 0⟩ : Acct) P okrt awB_ok okP) (.cons 1 (.refl) .nil) ?_
  rintro _ _ ⟨hv19, rfl⟩
  rw [show ((.int .i64 ((chkE rt (16 : Int) (⟨(⟨#[97]⟩ : ByteArray), 5, 0⟩ : Acct) P : Nat) : Int)) : Value) = (.int .i64 1) from by rw [hrt, hP, show chkE awR9 16 (⟨(⟨#[97]⟩ : ByteArray), 5, 0⟩ : Acct) awP9 = 1 from awC16]; rfl] at hv19; subst hv19
  refine m_ld 3 4 ?_
  refine m_ld 0 3 ?_
  refine m_eqT 0 true (P.cells) (Path4.wf okP) ?_
  refine m_sp 10 ((((pbL P).length : Nat) : Int) = (128 : Int)) (fun c20 => ?_) (fun c20 => absurd (by rw [pbL_len okP]; rfl) c20)
  refine m_ld 0 5 ?_
  refine m_call 1 [] (root_j tb1 mb2 m1 (ok1)) (.cons 9 (.refl) (.cons 8 (.refl) (.cons 1 (.refl) .nil))) ?_
  rintro _ _ ⟨hv21, rfl⟩
  rw [show ((.agg (hv (nodeL (getM m1) 4 0))) : Value) = (.agg (hv rt)) from by rw [hm1, hrt]; rfl] at hv21; subst hv21
  refine m_eqT 0 true (hv rt) (H32.wf okrt) ?_
  refine m_thaw 11 ?_
  exact m_ret 2 (.bool true) [] ⟨(rfl), by kernel_rfl⟩

end Go.Proofs.YtokdfjelilhekaaDoor
