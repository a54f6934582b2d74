/- Layer 15's laws. -/
import Derived.Test.YtokdfjelilhekaaDoorTJ
import Derived.Test.YtokdfjelilhekaaDoorLib7
namespace Go.Proofs.YtokdfjelilhekaaDoor
open Go Go.RowKit Go.Alm
set_option maxRecDepth 100000 in
theorem large_j (ao : Option Addr) (cap : Nat) (l : List AAct) (_ : AllA l) (hn : l.length ≤ 9223372036854775807) :
    Does Tryd.prog 12 #[(.slice ao l.length cap)] [(.rd ao (RL AAct.cells l))] [] (fun v H => ∃ (y : Bool), v = (.bool y) ∧ H = [] ∧ (y = false → l.length ≤ 30)) := by
  refine m_fn fun F => ?_
  refine m_if 13 (((l.length : Nat) : Int) > (30 : Int)) (fun c1 => ?_) (fun c1 => ?_)
  · -- yes
    exact m_ret 7 (.bool true) [] ⟨true, (rfl), by kernel_rfl, (fun h => by first | omega | cases h)⟩
  · -- no
    refine m_loop (X := Nat) 11 [8, 9] (fun (x : Nat) => [(10, (.int .i64 ((x : Nat) : Int)))]) [] (fun (x : Nat) => []) (fun (x : Nat) => (x ≤ l.length)) (fun (x : Nat) => l.length - x) 0 (Nat.zero_le _) (fun x u2 hx => ?_)
    obtain ⟨i, rfl⟩ : ∃ y, y = x := ⟨x, rfl⟩
    have hi := hx
    refine m_if 6 (((i : Nat) : Int) < ((l.length : Nat) : Int)) (fun c3 => ?_) (fun c3 => ?_)
    · -- yes
      refine m_ix 6 1 5 l.length i (RL AAct.cells l) .i64 (by omega) (by rw [RL_length AAct.size]; omega) ?_
      refine m_lxN 0 1 (i * 5) 5 (RL AAct.cells l) ((l.getD i default).cells) (RL_whole (f := AAct.cells) (sz := 5) (l := l) (k := i) AAct.size default (by omega)) (AAct.size _) ?_
      refine m_new 0 fun b4 => ?_
      refine m_st 0 0 ?_
      refine m_ld 6 2 ?_
      refine m_if 4 ((((((l.getD i default).a).s).size : Nat) : Int) > (100 : Int)) (fun c5 => ?_) (fun c5 => ?_)
      · -- yes
        exact m_ret 11 (.bool true) [] ⟨true, (rfl), by kernel_rfl, (fun h => by first | omega | cases h)⟩
      · -- no
        refine m_i64 4 (((i : Nat) : Int) + (1 : Int)) (i + 1) (by omega) ?_
        exact m_back 2 (i + 1) [] ⟨(by omega), (by omega)⟩
    · -- no
      exact m_ret 11 (.bool false) [] ⟨false, (rfl), by kernel_rfl, (fun h => by first | omega | cases h)⟩

set_option maxRecDepth 100000 in
theorem do15_j (tb : Nat) (mb : Nat) (m : TM) (x : AAct) (hx : AAct.Ok x) :
    Does Tryd.prog 14 #[(.pointer (some ⟨tb, 0, none⟩)), (.agg (x.cells))] [(.blk tb ((aj (aj (aj (aj (aj #[(.map (some mb))] (hv (bareL 0))) (hv (bareL 1))) (hv (bareL 2))) (hv (bareL 3))) (hv (bareL 4)))) 93)] [(.gen (mapRe intK (fun _ => True) accV mb m))] (fun v H => v = (.tuple #[(.int .i64 ((actE x : Nat) : Int)), (.bool (actB m x))]) ∧ H = [(.gen (mapRe intK (fun _ => True) accV mb (actM m x)))]) := by
  have hhx_do_ := hx.do_; have hhx_place := hx.place; have hhx_a_s := hx.a.s; have hhx_a_bal := hx.a.bal; have hhx_a_non := hx.a.non
  refine m_fn fun F => ?_
  refine m_new 2 fun b1 => ?_
  refine m_ld 8 2 ?_
  refine m_if 9 (x.do_ = (0 : Int)) (fun c2 => ?_) (fun c2 => ?_)
  · -- yes
    refine m_ld 4 2 ?_
    refine m_ld 1 2 ?_
    refine m_call 0 [1] (tset_j tb mb m x.place x.a hx.a) (.cons 1 (.refl) .nil) ?_
    rintro _ _ ⟨rfl, rfl⟩
    exact m_ret 7 (.tuple #[(.int .i64 ((setE x.place x.a : Nat) : Int)), (.bool false)]) [0] ⟨(by rw [(actM_0 (M := m) (x := x) (by omega)).2.1, (actM_0 (M := m) (x := x) (by omega)).2.2]; first | done | kernel_rfl), by rw [(actM_0 (M := m) (x := x) (by omega)).1]; kernel_rfl⟩
  · -- no
    refine m_if 6 (x.do_ = (1 : Int)) (fun c3 => ?_) (fun c3 => ?_)
    · -- yes
      refine m_ld 4 2 ?_
      refine m_call 0 [1] (tdrop_j tb mb m x.place) (.cons 1 (.refl) .nil) ?_
      rintro _ _ ⟨rfl, rfl⟩
      exact m_ret 7 (.tuple #[(.int .i64 0), (.bool (hasAt m x.place))]) [0] ⟨(by rw [(actM_1 (M := m) (x := x) (by omega)).2.1, (actM_1 (M := m) (x := x) (by omega)).2.2]; first | done | kernel_rfl), by rw [(actM_1 (M := m) (x := x) (by omega)).1]; kernel_rfl⟩
    · -- no
      exact m_ret 10 (.tuple #[(.int .i64 0), (.bool false)]) [1] ⟨(by rw [(actM_2 (M := m) (x := x) (by omega) (by omega)).2.1, (actM_2 (M := m) (x := x) (by omega) (by omega)).2.2]; first | done | kernel_rfl), by rw [(actM_2 (M := m) (x := x) (by omega) (by omega)).1]; kernel_rfl⟩

set_option maxRecDepth 100000 in
theorem awake15_j :
    Does Tryd.prog 11 #[] [(.rd (some ⟨1, 0, none⟩) ((hw KL).toList))] [] (fun v H => v = (.bool true) ∧ H = []) := by
  refine m_fn fun F => ?_
  refine m_call 7 [] (tnew_j) (.cons 1 (.refl) .nil) ?_
  rintro _ _ ⟨tb1, mb2, rfl, rfl⟩
  refine m_call 15 [] (anone_j) (.cons 1 (.refl) .nil) ?_
  rintro _ _ ⟨hv3, rfl⟩
  rw [show ((.agg (hv accNone)) : Value) = (.agg (hv (bareL 0))) from rfl] at hv3; subst hv3
  refine m_new 0 fun b4 => ?_
  refine m_st 0 0 ?_
  refine m_ld 24 2 ?_
  refine m_ld 0 2 ?_
  refine m_call 0 [] (join_j 1 (bareL 0) (bareL 0) (by first | with_reducible assumption | omega | decide) (bareL_ok 0) (bareL_ok 0)) (.cons 1 (.refl) .nil) ?_
  rintro _ _ ⟨hv5, rfl⟩
  rw [show ((.agg (hv (joinL 1 (bareL 0) (bareL 0)))) : Value) = (.agg (hv (bareL 1))) from rfl] at hv5; subst hv5
  refine m_st 0 0 ?_
  refine m_ld 23 2 ?_
  refine m_ld 0 2 ?_
  refine m_call 0 [] (join_j 2 (bareL 1) (bareL 1) (by first | with_reducible assumption | omega | decide) (bareL_ok 1) (bareL_ok 1)) (.cons 1 (.refl) .nil) ?_
  rintro _ _ ⟨hv6, rfl⟩
  rw [show ((.agg (hv (joinL 2 (bareL 1) (bareL 1)))) : Value) = (.agg (hv (bareL 2))) from rfl] at hv6; subst hv6
  refine m_st 0 0 ?_
  refine m_ld 23 2 ?_
  refine m_ld 0 2 ?_
  refine m_call 0 [] (join_j 3 (bareL 2) (bareL 2) (by first | with_reducible assumption | omega | decide) (bareL_ok 2) (bareL_ok 2)) (.cons 1 (.refl) .nil) ?_
  rintro _ _ ⟨hv7, rfl⟩
  rw [show ((.agg (hv (joinL 3 (bareL 2) (bareL 2)))) : Value) = (.agg (hv (bareL 3))) from rfl] at hv7; subst hv7
  refine m_st 0 0 ?_
  refine m_ld 23 2 ?_
  refine m_ld 0 2 ?_
  refine m_call 0 [] (join_j 4 (bareL 3) (bareL 3) (by first | with_reducible assumption | omega | decide) (bareL_ok 3) (bareL_ok 3)) (.cons 1 (.refl) .nil) ?_
  rintro _ _ ⟨hv8, rfl⟩
  rw [show ((.agg (hv (joinL 4 (bareL 3) (bareL 3)))) : Value) = (.agg (hv (bareL 4))) from rfl] at hv8; subst hv8
  refine m_st 0 0 ?_
  refine m_call 25 [] (root_j tb1 mb2 [] (TrOk.nil)) (.cons 3 (.refl) (.cons 4 (.refl) (.cons 1 (.refl) .nil))) ?_
  rintro _ _ ⟨hv9, rfl⟩
  rw [show ((.agg (hv (nodeL (getM []) 4 0))) : Value) = (.agg (hv (bareL 4))) from by rw [awRoot0]] at hv9; subst hv9
  refine m_new 0 fun b10 => ?_
  refine m_st 0 0 ?_
  refine m_call 6 [3] (tset_j tb1 mb2 [] (5 : Int) (⟨(⟨#[97]⟩ : ByteArray), 0, 0⟩ : Acct) awA_ok) (.cons 4 (.refl) .nil) ?_
  rintro _ _ ⟨hv11, rfl⟩
  rw [show ((.int .i64 ((setE (5 : Int) (⟨(⟨#[97]⟩ : ByteArray), 0, 0⟩ : Acct) : Nat) : Int)) : Value) = (.int .i64 0) from by rw [show setE 5 (⟨⟨#[97]⟩, 0, 0⟩ : Acct) = 0 from awSetE]; rfl] at hv11; subst hv11
  refine bind_var awM fun m1 hm1 => ?_
  have ok1 : TrOk m1 := by rw [hm1]; exact awM_ok
  refine m_tm 0 mb2 (setT [] (5 : Int) (⟨(⟨#[97]⟩ : ByteArray), 0, 0⟩ : Acct)) m1 (by rw [hm1, show setT [] 5 (⟨⟨#[97]⟩, 0, 0⟩ : Acct) = awM from awSet]) ?_
  refine m_call 6 [] (tget_j tb1 mb2 m1 (5 : Int)) (.cons 5 (.refl) (.cons 2 (.refl) .nil)) ?_
  rintro _ _ ⟨hv12, rfl⟩
  rw [show ((.tuple #[(.agg ((acctAt m1 (5 : Int)).cells)), (.bool (hasAt m1 (5 : Int)))]) : Value) = (.tuple #[(.agg (#[(.string (⟨#[97]⟩ : ByteArray)), (.int .u64 0), (.int .u32 0)])), (.bool true)]) from by rw [hm1]; rfl] at hv12; subst hv12
  refine m_new 3 fun b13 => ?_
  refine m_st 0 0 ?_
  refine m_call 6 [] (path_j tb1 mb2 m1 (4 : Int) (ok1)) (.cons 6 (.refl) (.cons 3 (.refl) (.cons 1 (.refl) .nil))) ?_
  rintro _ _ ⟨hv14, rfl⟩
  rw [show ((.tuple #[(.agg ((pathP (getM m1) (4 : Int)).cells)), (.int .i64 ((pathE (4 : Int) : Nat) : Int))]) : Value) = (.tuple #[(.agg ((aj (aj (aj (hv (accHa awA)) (hv (pathL (getM m1) 4 1))) (hv (pathL (getM m1) 4 2))) (hv (pathL (getM m1) 4 3))))), (.int .i64 0)]) from by rw [hm1, awP, awPE]; rfl] at hv14; subst hv14
  refine m_new 3 fun b15 => ?_
  refine m_st 0 0 ?_
  refine m_ld 5 3 ?_
  refine m_call 0 [] (ahash_j (⟨(⟨#[97]⟩ : ByteArray), 0, 0⟩ : Acct) awA_ok) (.cons 1 (.refl) .nil) ?_
  rintro _ _ ⟨hv16, rfl⟩
  rw [show ((.tuple #[(.agg (hv (accHa (⟨(⟨#[97]⟩ : ByteArray), 0, 0⟩ : Acct)))), (.int .i64 ((accE (⟨(⟨#[97]⟩ : ByteArray), 0, 0⟩ : Acct).s : Nat) : Int))]) : Value) = (.tuple #[(.agg (hv (accHa awA))), (.int .i64 0)]) from by rw [show accE (Acct.s (⟨⟨#[97]⟩, 0, 0⟩ : Acct)) = 0 from awA_e]; rfl] at hv16; subst hv16
  refine m_new 3 fun b17 => ?_
  refine m_st 0 0 ?_
  refine m_plan 4 [1, 26, 34, 35, 36, 37, 38, 39, 40, 41, 42, 43, 44, 45, 46, 47, 48, 49, 50, 51, 52, 53, 54, 55, 56, 57, 58, 59, 60] (.q 0 true (.q 1 true (.q 2 false (.q 3 false (.q 4 false (.q 5 false (.q 6 false (.q 7 false (.q 8 false (.q 9 true (.q 10 false (.q 11 false (.q 12 false (.q 13 false (.q 14 false (.q 15 false (.q 16 false (.q 17 false (.q 18 false (.q 19 false (.q 20 false (.q 21 false (.q 22 false (.q 23 false (.q 24 false (.q 25 true (.q 26 true (.q 27 false (.q 28 false (.q 29 false (.q 30 false (.e 31 (.q 32 false (.q 33 false (.q 34 false (.q 35 false (.q 37 true (.e 36 (.q 38 false (.q 39 false (.q 40 false (.q 41 false (.e 42 (.q 43 false (.q 44 false (.q 45 false (.e 46 (.q 47 false (.q 48 false (.q 49 false (.q 50 false (.q 52 true (.e 51 (.q 53 false (.q 54 false (.q 55 false (.q 56 false (.q 57 true (.e 58 (.q 59 false (.q 60 false (.q 61 false .n)))))))))))))))))))))))))))))))))))))))))))))))))))))))))))))) [4, 4, 2, 1, 0] ?_
  refine m_ld 0 2 ?_
  refine m_ld 0 3 ?_
  refine m_eqT 0 true (hv (bareL 4)) (H32.wf (bareL_ok 4)) ?_
  refine m_ld 6 4 ?_
  refine m_ld 15 5 ?_
  refine m_ld 0 6 ?_
  refine m_eqT 0 true (hv (accHa awA)) (H32.wf (accHa_ok _)) ?_
  refine m_call 3 [] (tlen_j tb1 mb2 m1) (.cons 8 (.refl) (.cons 7 (.refl) .nil)) ?_
  rintro _ _ ⟨hv18, rfl⟩
  rw [show ((.int .i64 ((m1.length : Nat) : Int)) : Value) = (.int .i64 1) from by rw [hm1]; rfl] at hv18; subst hv18
  refine m_ld 4 2 ?_
  refine m_call 0 [] (root_j tb1 mb2 m1 (ok1)) (.cons 8 (.refl) (.cons 7 (.refl) (.cons 1 (.refl) .nil))) ?_
  rintro _ _ ⟨rfl, rfl⟩
  refine m_eqs 0 false (hv (nodeL (getM m1) 4 0)) (hv (bareL 4)) (nodeL (getM m1) 4 0 = bareL 4) (hv_iff (nodeL_ok _ _ _).len (bareL_ok 4).len) (H32.wf (nodeL_ok _ _ _)) (H32.wf (bareL_ok 4)) (fun c19 => absurd c19 (by rw [hm1]; exact awRoot1)) (fun _ => ?_)
  refine m_call 3 [0] (tdrop_j tb1 mb2 m1 (5 : Int)) (.cons 7 (.refl) .nil) ?_
  rintro _ _ ⟨hv20, rfl⟩
  rw [show ((.bool (hasAt m1 (5 : Int))) : Value) = (.bool true) from by rw [hm1]; rfl] at hv20; subst hv20
  refine m_tm 0 mb2 (delM m1 (5 : Int)) [] (by rw [hm1, awDel]) ?_
  refine m_call 3 [0] (tdrop_j tb1 mb2 [] (5 : Int)) (.cons 7 (.refl) .nil) ?_
  rintro _ _ ⟨hv21, rfl⟩
  rw [show ((.bool (hasAt [] (5 : Int))) : Value) = (.bool false) from by rfl] at hv21; subst hv21
  refine m_tm 0 mb2 (delM [] (5 : Int)) [] (by rw [awDel0]) ?_
  refine m_ld 4 2 ?_
  refine m_call 0 [] (root_j tb1 mb2 [] (TrOk.nil)) (.cons 8 (.refl) (.cons 7 (.refl) (.cons 1 (.refl) .nil))) ?_
  rintro _ _ ⟨hv22, rfl⟩
  rw [show ((.agg (hv (nodeL (getM []) 4 0))) : Value) = (.agg (hv (bareL 4))) from by rw [awRoot0]] at hv22; subst hv22
  refine m_eqT 0 true (hv (bareL 4)) (H32.wf (bareL_ok 4)) ?_
  refine m_ld 3 4 ?_
  refine m_call 0 [0] (tset_j tb1 mb2 [] (16 : Int) (⟨(⟨#[97]⟩ : ByteArray), 0, 0⟩ : Acct) awA_ok) (.cons 7 (.refl) .nil) ?_
  rintro _ _ ⟨hv23, rfl⟩
  rw [show ((.int .i64 ((setE (16 : Int) (⟨(⟨#[97]⟩ : ByteArray), 0, 0⟩ : Acct) : Nat) : Int)) : Value) = (.int .i64 1) from by rw [show setE 16 (⟨⟨#[97]⟩, 0, 0⟩ : Acct) = 1 from awSetE16]; rfl] at hv23; subst hv23
  refine m_tm 0 mb2 (setT [] (16 : Int) (⟨(⟨#[97]⟩ : ByteArray), 0, 0⟩ : Acct)) [] (by rw [show setT [] 16 (⟨⟨#[97]⟩, 0, 0⟩ : Acct) = [] from awSet16]) ?_
  refine m_thaw 4 ?_
  exact m_ret 2 (.bool true) [] ⟨(rfl), by kernel_rfl⟩

end Go.Proofs.YtokdfjelilhekaaDoor
