/- Layers 14 and 15 by the machine. -/
import Derived.Test.YtokdfjelilhekaaDoorLib5
import Derived.Test.YtokdfjelilhekaaDoorWY
import Derived.Test.YtokdfjelilhekaaDoorU1
import Derived.Test.YtokdfjelilhekaaDoorLib7
namespace Go.Proofs.YtokdfjelilhekaaDoor
open Go Go.RowKit Go.Alm
theorem tagof_j (s : ByteArray) (fp : Nat → Prop) (ao : Option Addr) (cap : Nat) (ls : List BSl) (hn : ls.length ≤ 9223372036854775807) (hls : (partsL ls).length ≤ 800000) :
    Does Tryd.prog 48 #[.string s, .slice ao ls.length cap] [rowsR fp ao ls, (.rd (some ⟨1, 0, none⟩) ((hw KL).toList))] [] (fun v H => v = (.agg (hv (tagL (sB s) ls))) ∧ H = []) :=
  Does.of_calls fun w h => tagof_c s fp ao cap ls w (h _ (.head _)) (h _ (.tail _ (.head _))) hn hls

theorem rtagof_j (s : ByteArray) (fp : Nat → Prop) (ao : Option Addr) (cap : Nat) (ls : List BSl) (hn : ls.length ≤ 9223372036854775807) (hls : (partsL ls).length ≤ 800000) :
    Does Tryd.prog 71 #[.string s, .slice ao ls.length cap] [rowsR fp ao ls, (.rd (some ⟨0, 0, none⟩) ((hw KL).toList))] [] (fun v H => v = (.agg (hv (tagL (sB s) ls))) ∧ H = []) :=
  Does.of_calls fun w h => rtagof_c s fp ao cap ls w (h _ (.head _)) (h _ (.tail _ (.head _))) hn hls

theorem aright_j (a : Acct) :
    Does Tryd.prog 50 #[(.agg (a.cells))] [] [] (fun v H => v = (.bool (rightS a.s)) ∧ H = []) :=
  Does.of_calls fun w _ => aright_c a.s a.bal a.non w

theorem ahash_j (a : Acct) (ha : Acct.Ok a) :
    Does Tryd.prog 26 #[(.agg (a.cells))] [(.rd (some ⟨1, 0, none⟩) ((hw KL).toList))] [] (fun v H => v = (.tuple #[(.agg (hv (accHa a))), (.int .i64 ((accE a.s : Nat) : Int))]) ∧ H = []) :=
  Does.of_calls fun w h => ahash_c a.s a.bal a.non w (h _ (.head _)) ha.bal ha.non

theorem anone_j :
    Does Tryd.prog 25 #[] [(.rd (some ⟨1, 0, none⟩) ((hw KL).toList))] [] (fun v H => v = (.agg (hv accNone)) ∧ H = []) :=
  Does.of_calls fun w h => anone_c w (h _ (.head _))

theorem raright_j (a : Acct) :
    Does Tryd.prog 44 #[(.agg (a.cells))] [] [] (fun v H => v = (.bool (rightS a.s)) ∧ H = []) :=
  Does.of_calls fun w _ => raright_c a.s a.bal a.non w

theorem rahash_j (a : Acct) (ha : Acct.Ok a) :
    Does Tryd.prog 55 #[(.agg (a.cells))] [(.rd (some ⟨0, 0, none⟩) ((hw KL).toList))] [] (fun v H => v = (.tuple #[(.agg (hv (accHa a))), (.int .i64 ((accE a.s : Nat) : Int))]) ∧ H = []) :=
  Does.of_calls fun w h => rahash_c a.s a.bal a.non w (h _ (.head _)) ha.bal ha.non

theorem ranone_j :
    Does Tryd.prog 65 #[] [(.rd (some ⟨0, 0, none⟩) ((hw KL).toList))] [] (fun v H => v = (.agg (hv accNone)) ∧ H = []) :=
  Does.of_calls fun w h => ranone_c w (h _ (.head _))

set_option maxRecDepth 100000 in
theorem join_j (h : Nat) (l : List Nat) (r : List Nat) (hh : h < 256) (hl : H32 l) (hr : H32 r) :
    Does Tryd.prog 27 #[(.int .i64 ((h : Nat) : Int)), (.agg (hv l)), (.agg (hv r))] [(.rd (some ⟨1, 0, none⟩) ((hw KL).toList))] [] (fun v H => v = (.agg (hv (joinL h l r))) ∧ H = []) := by
  refine m_fn fun F => ?_
  refine m_new 2 fun b1 => ?_
  refine m_new 0 fun b2 => ?_
  refine m_new 0 fun b3 => ?_
  refine m_plan 3 [] (.q 0 false (.q 1 false (.q 3 false (.q 4 false (.e 2 (.e 5 (.e 6 (.e 7 .n)))))))) [] ?_
  refine m_u8 1 (((h : Nat) : Int)) (h) (by omega) ?_
  refine m_new 2 fun b4 => ?_
  refine m_new 0 fun b5 => ?_
  refine m_call 0 [] (tagof_j (⟨#[110, 111, 100, 101]⟩ : ByteArray) _ (some ⟨b5, 0, none⟩) 3 [⟨(some ⟨b4, 0, none⟩), 1, [h]⟩, ⟨(some ⟨b1, 0, none⟩), 32, l⟩, ⟨(some ⟨b2, 0, none⟩), 32, r⟩] (Nat.le_of_ble_eq_true (by kernel_rfl)) (by exact parts3 (Nat.le_trans (Nat.le_of_eq rfl) (show 1 ≤ 200000 from by decide)) (Nat.le_trans (Nat.le_of_eq hl.len) (show 32 ≤ 200000 from by decide)) (Nat.le_trans (Nat.le_of_eq hr.len) (show 32 ≤ 200000 from by decide)))) (.consH (HView.rows 2 (.cons 3 1 1 (.cut 0 1) rfl (bytl (by omega)) (by decide) (.cons 6 32 32 (.hv 0 l hl.len) hl.len hl.byt (by decide) (.cons 5 32 32 (.hv 0 r hr.len) hr.len hr.byt (by decide) .nil)))) (.cons 1 (.refl) .nil)) ?_
  rintro _ _ ⟨hv6, rfl⟩
  rw [show ((.agg (hv (tagL (sB (⟨#[110, 111, 100, 101]⟩ : ByteArray)) [⟨(some ⟨b4, 0, none⟩), 1, [h]⟩, ⟨(some ⟨b1, 0, none⟩), 32, l⟩, ⟨(some ⟨b2, 0, none⟩), 32, r⟩]))) : Value) = (.agg (hv (joinL h l r))) from rfl] at hv6; subst hv6
  refine m_st 0 2 ?_
  refine m_thaw 1 ?_
  exact m_retC 2 [4] (.agg (hv (joinL h l r))) [] ⟨(rfl), by kernel_rfl⟩

set_option maxRecDepth 100000 in
theorem tnew_j :
    Does Tryd.prog 13 #[] [(.rd (some ⟨1, 0, none⟩) ((hw KL).toList))] [] (fun v H => ∃ (tb : Nat), ∃ (mb : Nat), v = (.pointer (some ⟨tb, 0, none⟩)) ∧ H = [(.blk tb ((aj (aj (aj (aj (aj #[(.map (some mb))] (hv (bareL 0))) (hv (bareL 1))) (hv (bareL 2))) (hv (bareL 3))) (hv (bareL 4)))) 93), (.gen (mapRe intK (fun _ => True) accV mb []))]) := by
  refine m_fn fun F => ?_
  refine m_mnew 7 intK (fun _ => True) accV fun mb1 => ?_
  refine m_new 1 fun b2 => ?_
  refine m_plan 4 [] (.q 0 false (.q 2 false (.q 3 false (.e 1 (.q 4 false (.e 5 .n)))))) [] ?_
  refine m_call 3 [] (anone_j) (.cons 1 (.refl) .nil) ?_
  rintro _ _ ⟨hv3, rfl⟩
  rw [show ((.agg (hv accNone)) : Value) = (.agg (hv (bareL 0))) from rfl] at hv3; subst hv3
  refine m_st 1 0 ?_
  refine m_thaw 1 ?_
  refine m_plan 26 [11, 12, 13, 14, 15, 16, 17, 18, 19] (.q 0 false (.q 1 false (.q 2 false (.q 3 false (.q 4 false (.q 5 false (.q 6 false (.q 7 false (.q 8 false (.q 9 false (.q 10 true (.q 11 false (.q 12 false (.q 13 false (.q 14 false (.q 15 false (.q 16 true (.q 18 false (.q 19 false (.e 17 (.q 20 false (.e 21 .n)))))))))))))))))))))) [0] ?_
  refine m_ld 10 2 ?_
  refine m_ld 5 2 ?_
  refine m_call 2 [] (join_j 1 (bareL 0) (bareL 0) (by first | with_reducible assumption | omega | decide) (bareL_ok 0) (bareL_ok 0)) (.cons 1 (.refl) .nil) ?_
  rintro _ _ ⟨hv4, rfl⟩
  rw [show ((.agg (hv (joinL 1 (bareL 0) (bareL 0)))) : Value) = (.agg (hv (bareL 1))) from rfl] at hv4; subst hv4
  refine m_thaw 0 ?_
  refine m_st 1 0 ?_
  refine m_thaw 1 ?_
  refine m_plan 24 [11, 12, 13, 14, 15, 16, 17, 18, 19] (.q 0 false (.q 1 false (.q 2 false (.q 3 false (.q 4 false (.q 5 false (.q 6 false (.q 7 false (.q 8 false (.q 9 false (.q 10 true (.q 11 false (.q 12 false (.q 13 false (.q 14 false (.q 15 false (.q 16 true (.q 18 false (.q 19 false (.e 17 (.q 20 false (.e 21 .n)))))))))))))))))))))) [0] ?_
  refine m_ld 10 2 ?_
  refine m_ld 5 2 ?_
  refine m_call 2 [] (join_j 2 (bareL 1) (bareL 1) (by first | with_reducible assumption | omega | decide) (bareL_ok 1) (bareL_ok 1)) (.cons 1 (.refl) .nil) ?_
  rintro _ _ ⟨hv5, rfl⟩
  rw [show ((.agg (hv (joinL 2 (bareL 1) (bareL 1)))) : Value) = (.agg (hv (bareL 2))) from rfl] at hv5; subst hv5
  refine m_thaw 0 ?_
  refine m_st 1 0 ?_
  refine m_thaw 1 ?_
  refine m_plan 24 [11, 12, 13, 14, 15, 16, 17, 18, 19] (.q 0 false (.q 1 false (.q 2 false (.q 3 false (.q 4 false (.q 5 false (.q 6 false (.q 7 false (.q 8 false (.q 9 false (.q 10 true (.q 11 false (.q 12 false (.q 13 false (.q 14 false (.q 15 false (.q 16 true (.q 18 false (.q 19 false (.e 17 (.q 20 false (.e 21 .n)))))))))))))))))))))) [0] ?_
  refine m_ld 10 2 ?_
  refine m_ld 5 2 ?_
  refine m_call 2 [] (join_j 3 (bareL 2) (bareL 2) (by first | with_reducible assumption | omega | decide) (bareL_ok 2) (bareL_ok 2)) (.cons 1 (.refl) .nil) ?_
  rintro _ _ ⟨hv6, rfl⟩
  rw [show ((.agg (hv (joinL 3 (bareL 2) (bareL 2)))) : Value) = (.agg (hv (bareL 3))) from rfl] at hv6; subst hv6
  refine m_thaw 0 ?_
  refine m_st 1 0 ?_
  refine m_thaw 1 ?_
  refine m_plan 24 [11, 12, 13, 14, 15, 16, 17, 18, 19] (.q 0 false (.q 1 false (.q 2 false (.q 3 false (.q 4 false (.q 5 false (.q 6 false (.q 7 false (.q 8 false (.q 9 false (.q 10 true (.q 11 false (.q 12 false (.q 13 false (.q 14 false (.q 15 false (.q 16 true (.q 18 false (.q 19 false (.e 17 (.q 20 false (.e 21 .n)))))))))))))))))))))) [0] ?_
  refine m_ld 10 2 ?_
  refine m_ld 5 2 ?_
  refine m_call 2 [] (join_j 4 (bareL 3) (bareL 3) (by first | with_reducible assumption | omega | decide) (bareL_ok 3) (bareL_ok 3)) (.cons 1 (.refl) .nil) ?_
  rintro _ _ ⟨hv7, rfl⟩
  rw [show ((.agg (hv (joinL 4 (bareL 3) (bareL 3)))) : Value) = (.agg (hv (bareL 4))) from rfl] at hv7; subst hv7
  refine m_thaw 0 ?_
  refine m_st 1 0 ?_
  refine m_thaw 1 ?_
  exact m_ret 26 (.pointer (some ⟨b2, 0, none⟩)) [0, 0] ⟨b2, mb1, (rfl), by kernel_rfl⟩

set_option maxRecDepth 100000 in
theorem there_j (pl : Int) :
    Does Tryd.prog 45 #[(.int .i64 pl)] [] [] (fun v H => v = (.bool (decide (placeOk pl))) ∧ H = []) := by
  refine m_fn fun F => ?_
  refine m_sp 9 (pl ≥ (0 : Int)) (fun c1 => ?_) (fun c1 => ?_)
  · -- yes
    exact m_ret 7 (.bool (decide (pl < (16 : Int)))) [] ⟨(by refine congrArg Value.bool (decide_eq_decide.2 ⟨fun h => ⟨by omega, by omega⟩, fun h => by obtain ⟨h1, h2⟩ := h; omega⟩)), by kernel_rfl⟩
  · -- no
    exact m_ret 7 (.bool false) [] ⟨(by rw [decide_eq_false (fun h => by obtain ⟨h1, h2⟩ := h; omega)]), by kernel_rfl⟩

set_option maxRecDepth 100000 in
theorem tset_j (tb : Nat) (mb : Nat) (m : TM) (pl : Int) (a : Acct) (ha : Acct.Ok a) :
    Does Tryd.prog 28 #[(.pointer (some ⟨tb, 0, none⟩)), (.int .i64 pl), (.agg (a.cells))] [(.blk tb ((aj (aj (aj (aj (aj #[(.map (some mb))] (hv (bareL 0))) (hv (bareL 1))) (hv (bareL 2))) (hv (bareL 3))) (hv (bareL 4)))) 93)] [(.gen (mapRe intK (fun _ => True) accV mb m))] (fun v H => v = (.int .i64 ((setE pl a : Nat) : Int)) ∧ H = [(.gen (mapRe intK (fun _ => True) accV mb (setT m pl a)))]) := by
  have hha_s := ha.s; have hha_bal := ha.bal; have hha_non := ha.non
  refine m_fn fun F => ?_
  refine m_new 2 fun b1 => ?_
  refine m_call 7 [] (there_j pl) .nil ?_
  rintro _ _ ⟨rfl, rfl⟩
  refine m_spn 1 (placeOk pl) (fun c2 => ?_) (fun c2 => ?_)
  · -- no
    refine m_ld 0 2 ?_
    refine m_call 0 [] (aright_j a) .nil ?_
    rintro _ _ ⟨rfl, rfl⟩
    refine m_ifb 4 (!(rightS a.s)) (fun c3 => ?_) (fun c3 => ?_)
    · -- yes
      exact m_ret 7 (.int .i64 1) [1] ⟨(by rw [setE_no (fun h => by first | (have := h.1; contradiction) | (have h1 := h.2; simp_all))]; rfl), by rw [setT_no (fun h => by first | (have := h.1; contradiction) | (have h1 := h.2; simp_all))]; kernel_rfl⟩
    · -- no
      refine m_plan 3 [4, 5] (.q 0 false (.q 1 false (.q 2 false (.q 3 true (.q 4 false (.q 5 true (.e 6 .n))))))) [0] ?_
      refine m_ld 3 1 ?_
      refine m_ld 1 2 ?_
      refine m_thaw 0 ?_
      refine m_mset 0 1 (KT.int (k := 3) (by kernel_rfl)) accV mb m pl a trivial 36 ?_
      refine m_thaw 1 ?_
      exact m_ret 7 (.int .i64 0) [1] ⟨(by rw [setE_yes (by assumption) (by first | assumption | simp_all)]; rfl), by rw [setT_yes (by assumption) (by first | assumption | simp_all)]; kernel_rfl⟩
  · -- yes
    exact m_ret 14 (.int .i64 1) [1] ⟨(by rw [setE_no (fun h => by first | (have := h.1; contradiction) | (have h1 := h.2; simp_all))]; rfl), by rw [setT_no (fun h => by first | (have := h.1; contradiction) | (have h1 := h.2; simp_all))]; kernel_rfl⟩

set_option maxRecDepth 100000 in
theorem tdrop_j (tb : Nat) (mb : Nat) (m : TM) (pl : Int) :
    Does Tryd.prog 43 #[(.pointer (some ⟨tb, 0, none⟩)), (.int .i64 pl)] [(.blk tb ((aj (aj (aj (aj (aj #[(.map (some mb))] (hv (bareL 0))) (hv (bareL 1))) (hv (bareL 2))) (hv (bareL 3))) (hv (bareL 4)))) 93)] [(.gen (mapRe intK (fun _ => True) accV mb m))] (fun v H => v = (.bool (hasAt m pl)) ∧ H = [(.gen (mapRe intK (fun _ => True) accV mb (delM m pl)))]) := by
  refine m_fn fun F => ?_
  refine m_ld 10 1 ?_
  refine m_lookA 1 2 mb m pl 3 36 (by kernel_rfl) ?_
  refine m_new 3 fun b1 => ?_
  refine m_st 0 0 ?_
  refine m_ld 8 1 ?_
  refine m_mdel 1 1 (KT.int (k := 3) (by kernel_rfl)) accV mb m pl trivial 36 ?_
  exact m_ret 9 (.bool (hasAt m pl)) [1] ⟨(rfl), by kernel_rfl⟩

set_option maxRecDepth 100000 in
theorem tget_j (tb : Nat) (mb : Nat) (m : TM) (pl : Int) :
    Does Tryd.prog 19 #[(.pointer (some ⟨tb, 0, none⟩)), (.int .i64 pl)] [(.blk tb ((aj (aj (aj (aj (aj #[(.map (some mb))] (hv (bareL 0))) (hv (bareL 1))) (hv (bareL 2))) (hv (bareL 3))) (hv (bareL 4)))) 93), (.gen (mapRe intK (fun _ => True) accV mb m))] [] (fun v H => v = (.tuple #[(.agg ((acctAt m pl).cells)), (.bool (hasAt m pl))]) ∧ H = []) := by
  refine m_fn fun F => ?_
  refine m_new 2 fun b1 => ?_
  refine m_ld 8 1 ?_
  refine m_lookA 1 2 mb m pl 3 36 (by kernel_rfl) ?_
  refine m_new 3 fun b2 => ?_
  refine m_st 0 0 ?_
  refine m_ld 5 3 ?_
  refine m_st 1 1 ?_
  exact m_retC 4 [4, 0] (.tuple #[(.agg ((acctAt m pl).cells)), (.bool (hasAt m pl))]) [] ⟨(rfl), by kernel_rfl⟩

set_option maxRecDepth 100000 in
theorem tlen_j (tb : Nat) (mb : Nat) (m : TM) :
    Does Tryd.prog 17 #[(.pointer (some ⟨tb, 0, none⟩))] [(.blk tb ((aj (aj (aj (aj (aj #[(.map (some mb))] (hv (bareL 0))) (hv (bareL 1))) (hv (bareL 2))) (hv (bareL 3))) (hv (bareL 4)))) 93), (.gen (mapRe intK (fun _ => True) accV mb m))] [] (fun v H => v = (.int .i64 ((m.length : Nat) : Int)) ∧ H = []) := by
  refine m_fn fun F => ?_
  refine m_ld 10 1 ?_
  refine m_mlen 0 2 accV intK (fun _ => True) mb m 36 3 ?_
  exact m_ret 4 (.int .i64 ((m.length : Nat) : Int)) [] ⟨(rfl), by kernel_rfl⟩

set_option maxRecDepth 100000 in
theorem bare0_j (tb : Nat) (mb : Nat) (m : TM) (q : Nat) (hq : (q + 1) * 1 ≤ 16) :
    Does Tryd.prog 64 #[(.pointer (some ⟨tb, 0, none⟩)), (.int .i64 0), (.int .i64 ((q : Nat) : Int))] [(.blk tb ((aj (aj (aj (aj (aj #[(.map (some mb))] (hv (bareL 0))) (hv (bareL 1))) (hv (bareL 2))) (hv (bareL 3))) (hv (bareL 4)))) 93), (.gen (mapRe intK (fun _ => True) accV mb m))] [] (fun v H => v = (.bool (decide (Bare m 0 q))) ∧ H = []) := by
  refine m_fn fun F => ?_
  refine m_i64 10 (((q : Nat) : Int) * 2 ^ 0) (q * 1) (by omega) ?_
  refine m_loop (X := Nat) 4 [0, 1, 2] (fun (x : Nat) => [(7, (.int .i64 ((x : Nat) : Int)))]) [] (fun (x : Nat) => []) (fun (x : Nat) => (q * 1 ≤ x) ∧ (x ≤ (q + 1) * 1) ∧ (∀ k : Nat, q * 1 ≤ k → k < x → getM m (k : Int) = none)) (fun (x : Nat) => (q + 1) * 1 - x) (q * 1) (⟨Nat.le_refl _, by omega, fun k h1 h2 => absurd h2 (by omega)⟩) (fun x u1 hx => ?_)
  obtain ⟨i, rfl⟩ : ∃ y, y = x := ⟨x, rfl⟩
  obtain ⟨h1, h2, hb⟩ := hx
  refine m_i64 5 (((q : Nat) : Int) + (1 : Int)) (q + 1) (by omega) ?_
  refine m_i64 1 (((q + 1 : Nat) : Int) * 2 ^ 0) ((q + 1) * 1) (by omega) ?_
  refine m_if 3 (((i : Nat) : Int) < (((q + 1) * 1 : Nat) : Int)) (fun c2 => ?_) (fun c2 => ?_)
  · -- yes
    refine m_ld 9 1 ?_
    refine m_lookA 1 2 mb m ((i : Nat) : Int) 3 36 (by kernel_rfl) ?_
    refine m_new 3 fun b3 => ?_
    refine m_st 0 0 ?_
    refine m_ifb 8 (hasAt m ((i : Nat) : Int)) (fun c4 => ?_) (fun c4 => ?_)
    · -- yes
      exact m_ret 11 (.bool false) [] ⟨(by rw [decide_eq_false (show ¬ Bare m 0 q from bare_no (i := i) (lo := q * 1) (hi := (q + 1) * 1) rfl rfl (by omega) (by omega) (by assumption))]), by kernel_rfl⟩
    · -- no
      refine m_i64 5 (((i : Nat) : Int) + (1 : Int)) (i + 1) (by omega) ?_
      exact m_back 2 (i + 1) [] ⟨⟨(by omega), (by omega), (fun k h1 h2 => (Nat.lt_succ_iff_lt_or_eq.1 h2).elim (hb k h1) (fun e => by rw [e]; exact has_no (by assumption)))⟩, (by omega)⟩
  · -- no
    exact m_ret 11 (.bool true) [] ⟨(by rw [decide_eq_true (show Bare m 0 q from bare_yes (i := i) (lo := q * 1) (hi := (q + 1) * 1) rfl rfl (fun k h1 h2 => hb k (by omega) h2) (by omega))]), by kernel_rfl⟩

set_option maxRecDepth 100000 in
theorem bare1_j (tb : Nat) (mb : Nat) (m : TM) (q : Nat) (hq : (q + 1) * 2 ≤ 16) :
    Does Tryd.prog 64 #[(.pointer (some ⟨tb, 0, none⟩)), (.int .i64 1), (.int .i64 ((q : Nat) : Int))] [(.blk tb ((aj (aj (aj (aj (aj #[(.map (some mb))] (hv (bareL 0))) (hv (bareL 1))) (hv (bareL 2))) (hv (bareL 3))) (hv (bareL 4)))) 93), (.gen (mapRe intK (fun _ => True) accV mb m))] [] (fun v H => v = (.bool (decide (Bare m 1 q))) ∧ H = []) := by
  refine m_fn fun F => ?_
  refine m_i64 10 (((q : Nat) : Int) * 2 ^ 1) (q * 2) (by omega) ?_
  refine m_loop (X := Nat) 4 [0, 1, 2] (fun (x : Nat) => [(7, (.int .i64 ((x : Nat) : Int)))]) [] (fun (x : Nat) => []) (fun (x : Nat) => (q * 2 ≤ x) ∧ (x ≤ (q + 1) * 2) ∧ (∀ k : Nat, q * 2 ≤ k → k < x → getM m (k : Int) = none)) (fun (x : Nat) => (q + 1) * 2 - x) (q * 2) (⟨Nat.le_refl _, by omega, fun k h1 h2 => absurd h2 (by omega)⟩) (fun x u1 hx => ?_)
  obtain ⟨i, rfl⟩ : ∃ y, y = x := ⟨x, rfl⟩
  obtain ⟨h1, h2, hb⟩ := hx
  refine m_i64 5 (((q : Nat) : Int) + (1 : Int)) (q + 1) (by omega) ?_
  refine m_i64 1 (((q + 1 : Nat) : Int) * 2 ^ 1) ((q + 1) * 2) (by omega) ?_
  refine m_if 3 (((i : Nat) : Int) < (((q + 1) * 2 : Nat) : Int)) (fun c2 => ?_) (fun c2 => ?_)
  · -- yes
    refine m_ld 9 1 ?_
    refine m_lookA 1 2 mb m ((i : Nat) : Int) 3 36 (by kernel_rfl) ?_
    refine m_new 3 fun b3 => ?_
    refine m_st 0 0 ?_
    refine m_ifb 8 (hasAt m ((i : Nat) : Int)) (fun c4 => ?_) (fun c4 => ?_)
    · -- yes
      exact m_ret 11 (.bool false) [] ⟨(by rw [decide_eq_false (show ¬ Bare m 1 q from bare_no (i := i) (lo := q * 2) (hi := (q + 1) * 2) rfl rfl (by omega) (by omega) (by assumption))]), by kernel_rfl⟩
    · -- no
      refine m_i64 5 (((i : Nat) : Int) + (1 : Int)) (i + 1) (by omega) ?_
      exact m_back 2 (i + 1) [] ⟨⟨(by omega), (by omega), (fun k h1 h2 => (Nat.lt_succ_iff_lt_or_eq.1 h2).elim (hb k h1) (fun e => by rw [e]; exact has_no (by assumption)))⟩, (by omega)⟩
  · -- no
    exact m_ret 11 (.bool true) [] ⟨(by rw [decide_eq_true (show Bare m 1 q from bare_yes (i := i) (lo := q * 2) (hi := (q + 1) * 2) rfl rfl (fun k h1 h2 => hb k (by omega) h2) (by omega))]), by kernel_rfl⟩

set_option maxRecDepth 100000 in
theorem bare2_j (tb : Nat) (mb : Nat) (m : TM) (q : Nat) (hq : (q + 1) * 4 ≤ 16) :
    Does Tryd.prog 64 #[(.pointer (some ⟨tb, 0, none⟩)), (.int .i64 2), (.int .i64 ((q : Nat) : Int))] [(.blk tb ((aj (aj (aj (aj (aj #[(.map (some mb))] (hv (bareL 0))) (hv (bareL 1))) (hv (bareL 2))) (hv (bareL 3))) (hv (bareL 4)))) 93), (.gen (mapRe intK (fun _ => True) accV mb m))] [] (fun v H => v = (.bool (decide (Bare m 2 q))) ∧ H = []) := by
  refine m_fn fun F => ?_
  refine m_i64 10 (((q : Nat) : Int) * 2 ^ 2) (q * 4) (by omega) ?_
  refine m_loop (X := Nat) 4 [0, 1, 2] (fun (x : Nat) => [(7, (.int .i64 ((x : Nat) : Int)))]) [] (fun (x : Nat) => []) (fun (x : Nat) => (q * 4 ≤ x) ∧ (x ≤ (q + 1) * 4) ∧ (∀ k : Nat, q * 4 ≤ k → k < x → getM m (k : Int) = none)) (fun (x : Nat) => (q + 1) * 4 - x) (q * 4) (⟨Nat.le_refl _, by omega, fun k h1 h2 => absurd h2 (by omega)⟩) (fun x u1 hx => ?_)
  obtain ⟨i, rfl⟩ : ∃ y, y = x := ⟨x, rfl⟩
  obtain ⟨h1, h2, hb⟩ := hx
  refine m_i64 5 (((q : Nat) : Int) + (1 : Int)) (q + 1) (by omega) ?_
  refine m_i64 1 (((q + 1 : Nat) : Int) * 2 ^ 2) ((q + 1) * 4) (by omega) ?_
  refine m_if 3 (((i : Nat) : Int) < (((q + 1) * 4 : Nat) : Int)) (fun c2 => ?_) (fun c2 => ?_)
  · -- yes
    refine m_ld 9 1 ?_
    refine m_lookA 1 2 mb m ((i : Nat) : Int) 3 36 (by kernel_rfl) ?_
    refine m_new 3 fun b3 => ?_
    refine m_st 0 0 ?_
    refine m_ifb 8 (hasAt m ((i : Nat) : Int)) (fun c4 => ?_) (fun c4 => ?_)
    · -- yes
      exact m_ret 11 (.bool false) [] ⟨(by rw [decide_eq_false (show ¬ Bare m 2 q from bare_no (i := i) (lo := q * 4) (hi := (q + 1) * 4) rfl rfl (by omega) (by omega) (by assumption))]), by kernel_rfl⟩
    · -- no
      refine m_i64 5 (((i : Nat) : Int) + (1 : Int)) (i + 1) (by omega) ?_
      exact m_back 2 (i + 1) [] ⟨⟨(by omega), (by omega), (fun k h1 h2 => (Nat.lt_succ_iff_lt_or_eq.1 h2).elim (hb k h1) (fun e => by rw [e]; exact has_no (by assumption)))⟩, (by omega)⟩
  · -- no
    exact m_ret 11 (.bool true) [] ⟨(by rw [decide_eq_true (show Bare m 2 q from bare_yes (i := i) (lo := q * 4) (hi := (q + 1) * 4) rfl rfl (fun k h1 h2 => hb k (by omega) h2) (by omega))]), by kernel_rfl⟩

set_option maxRecDepth 100000 in
theorem bare3_j (tb : Nat) (mb : Nat) (m : TM) (q : Nat) (hq : (q + 1) * 8 ≤ 16) :
    Does Tryd.prog 64 #[(.pointer (some ⟨tb, 0, none⟩)), (.int .i64 3), (.int .i64 ((q : Nat) : Int))] [(.blk tb ((aj (aj (aj (aj (aj #[(.map (some mb))] (hv (bareL 0))) (hv (bareL 1))) (hv (bareL 2))) (hv (bareL 3))) (hv (bareL 4)))) 93), (.gen (mapRe intK (fun _ => True) accV mb m))] [] (fun v H => v = (.bool (decide (Bare m 3 q))) ∧ H = []) := by
  refine m_fn fun F => ?_
  refine m_i64 10 (((q : Nat) : Int) * 2 ^ 3) (q * 8) (by omega) ?_
  refine m_loop (X := Nat) 4 [0, 1, 2] (fun (x : Nat) => [(7, (.int .i64 ((x : Nat) : Int)))]) [] (fun (x : Nat) => []) (fun (x : Nat) => (q * 8 ≤ x) ∧ (x ≤ (q + 1) * 8) ∧ (∀ k : Nat, q * 8 ≤ k → k < x → getM m (k : Int) = none)) (fun (x : Nat) => (q + 1) * 8 - x) (q * 8) (⟨Nat.le_refl _, by omega, fun k h1 h2 => absurd h2 (by omega)⟩) (fun x u1 hx => ?_)
  obtain ⟨i, rfl⟩ : ∃ y, y = x := ⟨x, rfl⟩
  obtain ⟨h1, h2, hb⟩ := hx
  refine m_i64 5 (((q : Nat) : Int) + (1 : Int)) (q + 1) (by omega) ?_
  refine m_i64 1 (((q + 1 : Nat) : Int) * 2 ^ 3) ((q + 1) * 8) (by omega) ?_
  refine m_if 3 (((i : Nat) : Int) < (((q + 1) * 8 : Nat) : Int)) (fun c2 => ?_) (fun c2 => ?_)
  · -- yes
    refine m_ld 9 1 ?_
    refine m_lookA 1 2 mb m ((i : Nat) : Int) 3 36 (by kernel_rfl) ?_
    refine m_new 3 fun b3 => ?_
    refine m_st 0 0 ?_
    refine m_ifb 8 (hasAt m ((i : Nat) : Int)) (fun c4 => ?_) (fun c4 => ?_)
    · -- yes
      exact m_ret 11 (.bool false) [] ⟨(by rw [decide_eq_false (show ¬ Bare m 3 q from bare_no (i := i) (lo := q * 8) (hi := (q + 1) * 8) rfl rfl (by omega) (by omega) (by assumption))]), by kernel_rfl⟩
    · -- no
      refine m_i64 5 (((i : Nat) : Int) + (1 : Int)) (i + 1) (by omega) ?_
      exact m_back 2 (i + 1) [] ⟨⟨(by omega), (by omega), (fun k h1 h2 => (Nat.lt_succ_iff_lt_or_eq.1 h2).elim (hb k h1) (fun e => by rw [e]; exact has_no (by assumption)))⟩, (by omega)⟩
  · -- no
    exact m_ret 11 (.bool true) [] ⟨(by rw [decide_eq_true (show Bare m 3 q from bare_yes (i := i) (lo := q * 8) (hi := (q + 1) * 8) rfl rfl (fun k h1 h2 => hb k (by omega) h2) (by omega))]), by kernel_rfl⟩

set_option maxRecDepth 100000 in
theorem bare4_j (tb : Nat) (mb : Nat) (m : TM) (q : Nat) (hq : (q + 1) * 16 ≤ 16) :
    Does Tryd.prog 64 #[(.pointer (some ⟨tb, 0, none⟩)), (.int .i64 4), (.int .i64 ((q : Nat) : Int))] [(.blk tb ((aj (aj (aj (aj (aj #[(.map (some mb))] (hv (bareL 0))) (hv (bareL 1))) (hv (bareL 2))) (hv (bareL 3))) (hv (bareL 4)))) 93), (.gen (mapRe intK (fun _ => True) accV mb m))] [] (fun v H => v = (.bool (decide (Bare m 4 q))) ∧ H = []) := by
  refine m_fn fun F => ?_
  refine m_i64 10 (((q : Nat) : Int) * 2 ^ 4) (q * 16) (by omega) ?_
  refine m_loop (X := Nat) 4 [0, 1, 2] (fun (x : Nat) => [(7, (.int .i64 ((x : Nat) : Int)))]) [] (fun (x : Nat) => []) (fun (x : Nat) => (q * 16 ≤ x) ∧ (x ≤ (q + 1) * 16) ∧ (∀ k : Nat, q * 16 ≤ k → k < x → getM m (k : Int) = none)) (fun (x : Nat) => (q + 1) * 16 - x) (q * 16) (⟨Nat.le_refl _, by omega, fun k h1 h2 => absurd h2 (by omega)⟩) (fun x u1 hx => ?_)
  obtain ⟨i, rfl⟩ : ∃ y, y = x := ⟨x, rfl⟩
  obtain ⟨h1, h2, hb⟩ := hx
  refine m_i64 5 (((q : Nat) : Int) + (1 : Int)) (q + 1) (by omega) ?_
  refine m_i64 1 (((q + 1 : Nat) : Int) * 2 ^ 4) ((q + 1) * 16) (by omega) ?_
  refine m_if 3 (((i : Nat) : Int) < (((q + 1) * 16 : Nat) : Int)) (fun c2 => ?_) (fun c2 => ?_)
  · -- yes
    refine m_ld 9 1 ?_
    refine m_lookA 1 2 mb m ((i : Nat) : Int) 3 36 (by kernel_rfl) ?_
    refine m_new 3 fun b3 => ?_
    refine m_st 0 0 ?_
    refine m_ifb 8 (hasAt m ((i : Nat) : Int)) (fun c4 => ?_) (fun c4 => ?_)
    · -- yes
      exact m_ret 11 (.bool false) [] ⟨(by rw [decide_eq_false (show ¬ Bare m 4 q from bare_no (i := i) (lo := q * 16) (hi := (q + 1) * 16) rfl rfl (by omega) (by omega) (by assumption))]), by kernel_rfl⟩
    · -- no
      refine m_i64 5 (((i : Nat) : Int) + (1 : Int)) (i + 1) (by omega) ?_
      exact m_back 2 (i + 1) [] ⟨⟨(by omega), (by omega), (fun k h1 h2 => (Nat.lt_succ_iff_lt_or_eq.1 h2).elim (hb k h1) (fun e => by rw [e]; exact has_no (by assumption)))⟩, (by omega)⟩
  · -- no
    exact m_ret 11 (.bool true) [] ⟨(by rw [decide_eq_true (show Bare m 4 q from bare_yes (i := i) (lo := q * 16) (hi := (q + 1) * 16) rfl rfl (fun k h1 h2 => hb k (by omega) h2) (by omega))]), by kernel_rfl⟩

set_option maxRecDepth 100000 in
theorem node0_j (tb : Nat) (mb : Nat) (m : TM) (q : Nat) (hm : TrOk m) (hq : (q + 1) * 1 ≤ 16) :
    Does Tryd.prog 46 #[(.pointer (some ⟨tb, 0, none⟩)), (.int .i64 0), (.int .i64 ((q : Nat) : Int))] [(.blk tb ((aj (aj (aj (aj (aj #[(.map (some mb))] (hv (bareL 0))) (hv (bareL 1))) (hv (bareL 2))) (hv (bareL 3))) (hv (bareL 4)))) 93), (.gen (mapRe intK (fun _ => True) accV mb m)), (.rd (some ⟨1, 0, none⟩) ((hw KL).toList))] [] (fun v H => v = (.agg (hv (nodeL (getM m) 0 q))) ∧ H = []) := by
  refine m_fn fun F => ?_
  refine m_new 2 fun b1 => ?_
  refine m_call 8 [] (bare0_j tb mb m q (by first | with_reducible assumption | omega | decide)) (.cons 1 (.refl) (.cons 2 (.refl) .nil)) ?_
  rintro _ _ ⟨rfl, rfl⟩
  refine m_if 2 (Bare m 0 q) (fun c2 => ?_) (fun c2 => ?_)
  · -- yes
    refine m_ld 7 1 ?_
    refine m_st 0 0 ?_
    exact m_retC 4 [4] (.agg (hv (bareL 0))) [] ⟨(by rw [nodeL_bare (by assumption)]), by kernel_rfl⟩
  · -- no
    refine m_ld 15 1 ?_
    refine m_lookB 1 2 mb m ((q : Nat) : Int) 3 36 (by kernel_rfl) ?_
    refine m_call 0 [] (ahash_j (acctAt m ((q : Nat) : Int)) (acctAt_ok hm _)) (.cons 3 (.refl) .nil) ?_
    rintro _ _ ⟨rfl, rfl⟩
    refine m_new 3 fun b3 => ?_
    refine m_st 0 0 ?_
    refine m_ld 5 4 ?_
    refine m_st 0 1 ?_
    exact m_retC 4 [5] (.agg (hv (accHa (acctAt m ((q : Nat) : Int))))) [] ⟨(by rw [nodeL_leaf (by assumption)]), by kernel_rfl⟩

set_option maxRecDepth 100000 in
theorem node1_j (tb : Nat) (mb : Nat) (m : TM) (q : Nat) (hm : TrOk m) (hq : (q + 1) * 2 ≤ 16) :
    Does Tryd.prog 46 #[(.pointer (some ⟨tb, 0, none⟩)), (.int .i64 1), (.int .i64 ((q : Nat) : Int))] [(.blk tb ((aj (aj (aj (aj (aj #[(.map (some mb))] (hv (bareL 0))) (hv (bareL 1))) (hv (bareL 2))) (hv (bareL 3))) (hv (bareL 4)))) 93), (.gen (mapRe intK (fun _ => True) accV mb m)), (.rd (some ⟨1, 0, none⟩) ((hw KL).toList))] [] (fun v H => v = (.agg (hv (nodeL (getM m) 1 q))) ∧ H = []) := by
  refine m_fn fun F => ?_
  refine m_new 2 fun b1 => ?_
  refine m_call 8 [] (bare1_j tb mb m q (by first | with_reducible assumption | omega | decide)) (.cons 1 (.refl) (.cons 2 (.refl) .nil)) ?_
  rintro _ _ ⟨rfl, rfl⟩
  refine m_if 2 (Bare m 1 q) (fun c2 => ?_) (fun c2 => ?_)
  · -- yes
    refine m_ld 7 1 ?_
    refine m_st 0 0 ?_
    exact m_retC 4 [4] (.agg (hv (bareL 1))) [] ⟨(by rw [nodeL_bare (by assumption)]), by kernel_rfl⟩
  · -- no
    refine m_i64 19 ((2 : Int) * ((q : Nat) : Int)) (2 * q) (by omega) ?_
    refine m_call 0 [] (node0_j tb mb m (2 * q) (by first | with_reducible assumption | omega | decide) (by first | with_reducible assumption | omega | decide)) (.cons 1 (.refl) (.cons 2 (.refl) (.cons 3 (.refl) .nil))) ?_
    rintro _ _ ⟨rfl, rfl⟩
    refine m_i64 4 ((2 : Int) * ((q : Nat) : Int)) (2 * q) (by omega) ?_
    refine m_i64 0 (((2 * q : Nat) : Int) + (1 : Int)) ((2 * q) + 1) (by omega) ?_
    refine m_call 0 [] (node0_j tb mb m ((2 * q) + 1) (by first | with_reducible assumption | omega | decide) (by first | with_reducible assumption | omega | decide)) (.cons 1 (.refl) (.cons 2 (.refl) (.cons 3 (.refl) .nil))) ?_
    rintro _ _ ⟨rfl, rfl⟩
    refine m_call 0 [] (join_j 1 (nodeL (getM m) 0 (2 * q)) (nodeL (getM m) 0 ((2 * q) + 1)) (by first | with_reducible assumption | omega | decide) (nodeL_ok _ _ _) (nodeL_ok _ _ _)) (.cons 3 (.refl) .nil) ?_
    rintro _ _ ⟨rfl, rfl⟩
    refine m_st 0 0 ?_
    exact m_retC 3 [4] (.agg (hv (joinL 1 (nodeL (getM m) 0 (2 * q)) (nodeL (getM m) 0 ((2 * q) + 1))))) [] ⟨(rfl), by kernel_rfl⟩

set_option maxRecDepth 100000 in
theorem node2_j (tb : Nat) (mb : Nat) (m : TM) (q : Nat) (hm : TrOk m) (hq : (q + 1) * 4 ≤ 16) :
    Does Tryd.prog 46 #[(.pointer (some ⟨tb, 0, none⟩)), (.int .i64 2), (.int .i64 ((q : Nat) : Int))] [(.blk tb ((aj (aj (aj (aj (aj #[(.map (some mb))] (hv (bareL 0))) (hv (bareL 1))) (hv (bareL 2))) (hv (bareL 3))) (hv (bareL 4)))) 93), (.gen (mapRe intK (fun _ => True) accV mb m)), (.rd (some ⟨1, 0, none⟩) ((hw KL).toList))] [] (fun v H => v = (.agg (hv (nodeL (getM m) 2 q))) ∧ H = []) := by
  refine m_fn fun F => ?_
  refine m_new 2 fun b1 => ?_
  refine m_call 8 [] (bare2_j tb mb m q (by first | with_reducible assumption | omega | decide)) (.cons 1 (.refl) (.cons 2 (.refl) .nil)) ?_
  rintro _ _ ⟨rfl, rfl⟩
  refine m_if 2 (Bare m 2 q) (fun c2 => ?_) (fun c2 => ?_)
  · -- yes
    refine m_ld 7 1 ?_
    refine m_st 0 0 ?_
    exact m_retC 4 [4] (.agg (hv (bareL 2))) [] ⟨(by rw [nodeL_bare (by assumption)]), by kernel_rfl⟩
  · -- no
    refine m_i64 19 ((2 : Int) * ((q : Nat) : Int)) (2 * q) (by omega) ?_
    refine m_call 0 [] (node1_j tb mb m (2 * q) (by first | with_reducible assumption | omega | decide) (by first | with_reducible assumption | omega | decide)) (.cons 1 (.refl) (.cons 2 (.refl) (.cons 3 (.refl) .nil))) ?_
    rintro _ _ ⟨rfl, rfl⟩
    refine m_i64 4 ((2 : Int) * ((q : Nat) : Int)) (2 * q) (by omega) ?_
    refine m_i64 0 (((2 * q : Nat) : Int) + (1 : Int)) ((2 * q) + 1) (by omega) ?_
    refine m_call 0 [] (node1_j tb mb m ((2 * q) + 1) (by first | with_reducible assumption | omega | decide) (by first | with_reducible assumption | omega | decide)) (.cons 1 (.refl) (.cons 2 (.refl) (.cons 3 (.refl) .nil))) ?_
    rintro _ _ ⟨rfl, rfl⟩
    refine m_call 0 [] (join_j 2 (nodeL (getM m) 1 (2 * q)) (nodeL (getM m) 1 ((2 * q) + 1)) (by first | with_reducible assumption | omega | decide) (nodeL_ok _ _ _) (nodeL_ok _ _ _)) (.cons 3 (.refl) .nil) ?_
    rintro _ _ ⟨rfl, rfl⟩
    refine m_st 0 0 ?_
    exact m_retC 3 [4] (.agg (hv (joinL 2 (nodeL (getM m) 1 (2 * q)) (nodeL (getM m) 1 ((2 * q) + 1))))) [] ⟨(rfl), by kernel_rfl⟩

set_option maxRecDepth 100000 in
theorem node3_j (tb : Nat) (mb : Nat) (m : TM) (q : Nat) (hm : TrOk m) (hq : (q + 1) * 8 ≤ 16) :
    Does Tryd.prog 46 #[(.pointer (some ⟨tb, 0, none⟩)), (.int .i64 3), (.int .i64 ((q : Nat) : Int))] [(.blk tb ((aj (aj (aj (aj (aj #[(.map (some mb))] (hv (bareL 0))) (hv (bareL 1))) (hv (bareL 2))) (hv (bareL 3))) (hv (bareL 4)))) 93), (.gen (mapRe intK (fun _ => True) accV mb m)), (.rd (some ⟨1, 0, none⟩) ((hw KL).toList))] [] (fun v H => v = (.agg (hv (nodeL (getM m) 3 q))) ∧ H = []) := by
  refine m_fn fun F => ?_
  refine m_new 2 fun b1 => ?_
  refine m_call 8 [] (bare3_j tb mb m q (by first | with_reducible assumption | omega | decide)) (.cons 1 (.refl) (.cons 2 (.refl) .nil)) ?_
  rintro _ _ ⟨rfl, rfl⟩
  refine m_if 2 (Bare m 3 q) (fun c2 => ?_) (fun c2 => ?_)
  · -- yes
    refine m_ld 7 1 ?_
    refine m_st 0 0 ?_
    exact m_retC 4 [4] (.agg (hv (bareL 3))) [] ⟨(by rw [nodeL_bare (by assumption)]), by kernel_rfl⟩
  · -- no
    refine m_i64 19 ((2 : Int) * ((q : Nat) : Int)) (2 * q) (by omega) ?_
    refine m_call 0 [] (node2_j tb mb m (2 * q) (by first | with_reducible assumption | omega | decide) (by first | with_reducible assumption | omega | decide)) (.cons 1 (.refl) (.cons 2 (.refl) (.cons 3 (.refl) .nil))) ?_
    rintro _ _ ⟨rfl, rfl⟩
    refine m_i64 4 ((2 : Int) * ((q : Nat) : Int)) (2 * q) (by omega) ?_
    refine m_i64 0 (((2 * q : Nat) : Int) + (1 : Int)) ((2 * q) + 1) (by omega) ?_
    refine m_call 0 [] (node2_j tb mb m ((2 * q) + 1) (by first | with_reducible assumption | omega | decide) (by first | with_reducible assumption | omega | decide)) (.cons 1 (.refl) (.cons 2 (.refl) (.cons 3 (.refl) .nil))) ?_
    rintro _ _ ⟨rfl, rfl⟩
    refine m_call 0 [] (join_j 3 (nodeL (getM m) 2 (2 * q)) (nodeL (getM m) 2 ((2 * q) + 1)) (by first | with_reducible assumption | omega | decide) (nodeL_ok _ _ _) (nodeL_ok _ _ _)) (.cons 3 (.refl) .nil) ?_
    rintro _ _ ⟨rfl, rfl⟩
    refine m_st 0 0 ?_
    exact m_retC 3 [4] (.agg (hv (joinL 3 (nodeL (getM m) 2 (2 * q)) (nodeL (getM m) 2 ((2 * q) + 1))))) [] ⟨(rfl), by kernel_rfl⟩

set_option maxRecDepth 100000 in
theorem node4_j (tb : Nat) (mb : Nat) (m : TM) (q : Nat) (hm : TrOk m) (hq : (q + 1) * 16 ≤ 16) :
    Does Tryd.prog 46 #[(.pointer (some ⟨tb, 0, none⟩)), (.int .i64 4), (.int .i64 ((q : Nat) : Int))] [(.blk tb ((aj (aj (aj (aj (aj #[(.map (some mb))] (hv (bareL 0))) (hv (bareL 1))) (hv (bareL 2))) (hv (bareL 3))) (hv (bareL 4)))) 93), (.gen (mapRe intK (fun _ => True) accV mb m)), (.rd (some ⟨1, 0, none⟩) ((hw KL).toList))] [] (fun v H => v = (.agg (hv (nodeL (getM m) 4 q))) ∧ H = []) := by
  refine m_fn fun F => ?_
  refine m_new 2 fun b1 => ?_
  refine m_call 8 [] (bare4_j tb mb m q (by first | with_reducible assumption | omega | decide)) (.cons 1 (.refl) (.cons 2 (.refl) .nil)) ?_
  rintro _ _ ⟨rfl, rfl⟩
  refine m_if 2 (Bare m 4 q) (fun c2 => ?_) (fun c2 => ?_)
  · -- yes
    refine m_ld 7 1 ?_
    refine m_st 0 0 ?_
    exact m_retC 4 [4] (.agg (hv (bareL 4))) [] ⟨(by rw [nodeL_bare (by assumption)]), by kernel_rfl⟩
  · -- no
    refine m_i64 19 ((2 : Int) * ((q : Nat) : Int)) (2 * q) (by omega) ?_
    refine m_call 0 [] (node3_j tb mb m (2 * q) (by first | with_reducible assumption | omega | decide) (by first | with_reducible assumption | omega | decide)) (.cons 1 (.refl) (.cons 2 (.refl) (.cons 3 (.refl) .nil))) ?_
    rintro _ _ ⟨rfl, rfl⟩
    refine m_i64 4 ((2 : Int) * ((q : Nat) : Int)) (2 * q) (by omega) ?_
    refine m_i64 0 (((2 * q : Nat) : Int) + (1 : Int)) ((2 * q) + 1) (by omega) ?_
    refine m_call 0 [] (node3_j tb mb m ((2 * q) + 1) (by first | with_reducible assumption | omega | decide) (by first | with_reducible assumption | omega | decide)) (.cons 1 (.refl) (.cons 2 (.refl) (.cons 3 (.refl) .nil))) ?_
    rintro _ _ ⟨rfl, rfl⟩
    refine m_call 0 [] (join_j 4 (nodeL (getM m) 3 (2 * q)) (nodeL (getM m) 3 ((2 * q) + 1)) (by first | with_reducible assumption | omega | decide) (nodeL_ok _ _ _) (nodeL_ok _ _ _)) (.cons 3 (.refl) .nil) ?_
    rintro _ _ ⟨rfl, rfl⟩
    refine m_st 0 0 ?_
    exact m_retC 3 [4] (.agg (hv (joinL 4 (nodeL (getM m) 3 (2 * q)) (nodeL (getM m) 3 ((2 * q) + 1))))) [] ⟨(rfl), by kernel_rfl⟩

set_option maxRecDepth 100000 in
theorem root_j (tb : Nat) (mb : Nat) (m : TM) (hm : TrOk m) :
    Does Tryd.prog 23 #[(.pointer (some ⟨tb, 0, none⟩))] [(.blk tb ((aj (aj (aj (aj (aj #[(.map (some mb))] (hv (bareL 0))) (hv (bareL 1))) (hv (bareL 2))) (hv (bareL 3))) (hv (bareL 4)))) 93), (.gen (mapRe intK (fun _ => True) accV mb m)), (.rd (some ⟨1, 0, none⟩) ((hw KL).toList))] [] (fun v H => v = (.agg (hv (nodeL (getM m) 4 0))) ∧ H = []) := by
  refine m_fn fun F => ?_
  refine m_new 2 fun b1 => ?_
  refine m_call 5 [] (node4_j tb mb m 0 (by first | with_reducible assumption | omega | decide) (by first | with_reducible assumption | omega | decide)) (.cons 1 (.refl) (.cons 2 (.refl) (.cons 3 (.refl) .nil))) ?_
  rintro _ _ ⟨rfl, rfl⟩
  refine m_st 0 0 ?_
  exact m_retC 3 [4] (.agg (hv (nodeL (getM m) 4 0))) [] ⟨(rfl), by kernel_rfl⟩

set_option maxRecDepth 100000 in
theorem path_j (tb : Nat) (mb : Nat) (m : TM) (pl : Int) (hm : TrOk m) :
    Does Tryd.prog 21 #[(.pointer (some ⟨tb, 0, none⟩)), (.int .i64 pl)] [(.blk tb ((aj (aj (aj (aj (aj #[(.map (some mb))] (hv (bareL 0))) (hv (bareL 1))) (hv (bareL 2))) (hv (bareL 3))) (hv (bareL 4)))) 93), (.gen (mapRe intK (fun _ => True) accV mb m)), (.rd (some ⟨1, 0, none⟩) ((hw KL).toList))] [] (fun v H => v = (.tuple #[(.agg ((pathP (getM m) pl).cells)), (.int .i64 ((pathE pl : Nat) : Int))]) ∧ H = []) := by
  refine m_fn fun F => ?_
  refine m_new 2 fun b1 => ?_
  refine m_new 5 fun b2 => ?_
  refine m_call 6 [] (there_j pl) .nil ?_
  rintro _ _ ⟨rfl, rfl⟩
  refine m_ifn 3 (placeOk pl) (fun c3 => ?_) (fun c3 => ?_)
  · -- no
    obtain ⟨q, hq0⟩ : ∃ q : Nat, pl = (q : Int) := ⟨pl.toNat, by have h1 := c3.1; omega⟩; have hq16 : q < 16 := (by have h2 := c3.2; omega)
    refine m_i 31 .i64 pl (q : Int) hq0 ?_
    refine m_shr 1 .i64 (q) 0 ?_
    refine m_i 0 .i64 (IntKind.i64.wrap (((BitVec.ofInt 64 ((q / 1 : Nat) : Int) ^^^ BitVec.ofInt 64 (1 : Int)).toNat : Nat) : Int)) ((sib (q / 1) : Nat) : Int) (xor1 (by omega)) ?_
    refine m_call 0 [] (node0_j tb mb m (sib (q / 1)) (by first | with_reducible assumption | omega | decide) (by have := sib_lt (n := q / 1) (m := 8) (by omega); omega)) (.cons 1 (.refl) (.cons 2 (.refl) (.cons 3 (.refl) .nil))) ?_
    rintro _ _ ⟨hv4, rfl⟩
    rw [show ((.agg (hv (nodeL (getM m) 0 (sib (q / 1))))) : Value) = (.agg (hv (pathL (getM m) q 0))) from rfl] at hv4; subst hv4
    refine m_st 1 0 ?_
    refine m_i 29 .i64 pl (q : Int) hq0 ?_
    refine m_shr 1 .i64 (q) 1 ?_
    refine m_i 0 .i64 (IntKind.i64.wrap (((BitVec.ofInt 64 ((q / 2 : Nat) : Int) ^^^ BitVec.ofInt 64 (1 : Int)).toNat : Nat) : Int)) ((sib (q / 2) : Nat) : Int) (xor1 (by omega)) ?_
    refine m_call 0 [] (node1_j tb mb m (sib (q / 2)) (by first | with_reducible assumption | omega | decide) (by have := sib_lt (n := q / 2) (m := 4) (by omega); omega)) (.cons 1 (.refl) (.cons 2 (.refl) (.cons 3 (.refl) .nil))) ?_
    rintro _ _ ⟨hv5, rfl⟩
    rw [show ((.agg (hv (nodeL (getM m) 1 (sib (q / 2))))) : Value) = (.agg (hv (pathL (getM m) q 1))) from rfl] at hv5; subst hv5
    refine m_st 1 0 ?_
    refine m_i 29 .i64 pl (q : Int) hq0 ?_
    refine m_shr 1 .i64 (q) 2 ?_
    refine m_i 0 .i64 (IntKind.i64.wrap (((BitVec.ofInt 64 ((q / 4 : Nat) : Int) ^^^ BitVec.ofInt 64 (1 : Int)).toNat : Nat) : Int)) ((sib (q / 4) : Nat) : Int) (xor1 (by omega)) ?_
    refine m_call 0 [] (node2_j tb mb m (sib (q / 4)) (by first | with_reducible assumption | omega | decide) (by have := sib_lt (n := q / 4) (m := 2) (by omega); omega)) (.cons 1 (.refl) (.cons 2 (.refl) (.cons 3 (.refl) .nil))) ?_
    rintro _ _ ⟨hv6, rfl⟩
    rw [show ((.agg (hv (nodeL (getM m) 2 (sib (q / 4))))) : Value) = (.agg (hv (pathL (getM m) q 2))) from rfl] at hv6; subst hv6
    refine m_st 1 0 ?_
    refine m_i 29 .i64 pl (q : Int) hq0 ?_
    refine m_shr 1 .i64 (q) 3 ?_
    refine m_i 0 .i64 (IntKind.i64.wrap (((BitVec.ofInt 64 ((q / 8 : Nat) : Int) ^^^ BitVec.ofInt 64 (1 : Int)).toNat : Nat) : Int)) ((sib (q / 8) : Nat) : Int) (xor1 (by omega)) ?_
    refine m_call 0 [] (node3_j tb mb m (sib (q / 8)) (by first | with_reducible assumption | omega | decide) (by have := sib_lt (n := q / 8) (m := 1) (by omega); omega)) (.cons 1 (.refl) (.cons 2 (.refl) (.cons 3 (.refl) .nil))) ?_
    rintro _ _ ⟨hv7, rfl⟩
    rw [show ((.agg (hv (nodeL (getM m) 3 (sib (q / 8))))) : Value) = (.agg (hv (pathL (getM m) q 3))) from rfl] at hv7; subst hv7
    refine m_st 1 0 ?_
    refine m_ld 22 4 ?_
    refine m_st 0 1 ?_
    exact m_retC 4 [5, 0] (.tuple #[(.agg ((⟨pathL (getM m) q 0, pathL (getM m) q 1, pathL (getM m) q 2, pathL (getM m) q 3⟩ : Path4).cells)), (.int .i64 0)]) [] ⟨(by rw [pathP_yes hq0 hq16, pathE_yes (by rw [hq0]; exact placeOk_nat hq16)]; first | done | kernel_rfl), by kernel_rfl⟩
  · -- yes
    refine m_ld 2 4 ?_
    refine m_st 0 1 ?_
    exact m_retC 5 [5, 0] (.tuple #[(.agg ((⟨Z32, Z32, Z32, Z32⟩ : Path4).cells)), (.int .i64 1)]) [] ⟨(by rw [pathP_no (by assumption), pathE_no (by assumption)]; first | done | kernel_rfl), by kernel_rfl⟩

set_option maxRecDepth 100000 in
theorem rjoin_j (h : Nat) (l : List Nat) (r : List Nat) (hh : h < 256) (hl : H32 l) (hr : H32 r) :
    Does Tryd.prog 54 #[(.int .i64 ((h : Nat) : Int)), (.agg (hv l)), (.agg (hv r))] [(.rd (some ⟨0, 0, none⟩) ((hw KL).toList))] [] (fun v H => v = (.agg (hv (joinL h l r))) ∧ H = []) := by
  refine m_fn fun F => ?_
  refine m_new 2 fun b1 => ?_
  refine m_new 0 fun b2 => ?_
  refine m_new 0 fun b3 => ?_
  refine m_plan 3 [] (.q 0 false (.q 1 false (.q 3 false (.q 4 false (.e 2 (.e 5 (.e 6 (.e 7 .n)))))))) [] ?_
  refine m_u8 1 (((h : Nat) : Int)) (h) (by omega) ?_
  refine m_new 2 fun b4 => ?_
  refine m_new 0 fun b5 => ?_
  refine m_call 0 [] (rtagof_j (⟨#[110, 111, 100, 101]⟩ : ByteArray) _ (some ⟨b5, 0, none⟩) 3 [⟨(some ⟨b4, 0, none⟩), 1, [h]⟩, ⟨(some ⟨b1, 0, none⟩), 32, l⟩, ⟨(some ⟨b2, 0, none⟩), 32, r⟩] (Nat.le_of_ble_eq_true (by kernel_rfl)) (by exact parts3 (Nat.le_trans (Nat.le_of_eq rfl) (show 1 ≤ 200000 from by decide)) (Nat.le_trans (Nat.le_of_eq hl.len) (show 32 ≤ 200000 from by decide)) (Nat.le_trans (Nat.le_of_eq hr.len) (show 32 ≤ 200000 from by decide)))) (.consH (HView.rows 2 (.cons 3 1 1 (.cut 0 1) rfl (bytl (by omega)) (by decide) (.cons 6 32 32 (.hv 0 l hl.len) hl.len hl.byt (by decide) (.cons 5 32 32 (.hv 0 r hr.len) hr.len hr.byt (by decide) .nil)))) (.cons 1 (.refl) .nil)) ?_
  rintro _ _ ⟨hv6, rfl⟩
  rw [show ((.agg (hv (tagL (sB (⟨#[110, 111, 100, 101]⟩ : ByteArray)) [⟨(some ⟨b4, 0, none⟩), 1, [h]⟩, ⟨(some ⟨b1, 0, none⟩), 32, l⟩, ⟨(some ⟨b2, 0, none⟩), 32, r⟩]))) : Value) = (.agg (hv (joinL h l r))) from rfl] at hv6; subst hv6
  refine m_st 0 2 ?_
  refine m_thaw 1 ?_
  exact m_retC 2 [4] (.agg (hv (joinL h l r))) [] ⟨(rfl), by kernel_rfl⟩

set_option maxRecDepth 100000 in
theorem rset_j (rb : Nat) (m : TM) (pl : Int) (a : Acct) (ha : Acct.Ok a) :
    Does Tryd.prog 15 #[(.pointer (some ⟨rb, 0, none⟩)), (.int .i64 pl), (.agg (a.cells))] [] [(.blk rb (refM m) 35)] (fun v H => v = (.int .i64 ((setE pl a : Nat) : Int)) ∧ H = [(.blk rb (refM (setT m pl a)) 35)]) := by
  have hha_s := ha.s; have hha_bal := ha.bal; have hha_non := ha.non
  refine m_fn fun F => ?_
  refine m_new 2 fun b1 => ?_
  refine m_sp 8 (pl < (0 : Int)) (fun c2 => ?_) (fun c2 => ?_)
  · -- yes
    exact m_ret 18 (.int .i64 1) [1] ⟨(by rw [setE_no (fun h => by first | (have h1 := h.1.1; have h2 := h.1.2; omega) | (have h1 := h.2; simp_all))]; rfl), by rw [setT_no (fun h => by first | (have h1 := h.1.1; have h2 := h.1.2; omega) | (have h1 := h.2; simp_all))]; kernel_rfl⟩
  · -- no
    refine m_sp 3 (pl > (15 : Int)) (fun c3 => ?_) (fun c3 => ?_)
    · -- yes
      exact m_ret 14 (.int .i64 1) [1] ⟨(by rw [setE_no (fun h => by first | (have h1 := h.1.1; have h2 := h.1.2; omega) | (have h1 := h.2; simp_all))]; rfl), by rw [setT_no (fun h => by first | (have h1 := h.1.1; have h2 := h.1.2; omega) | (have h1 := h.2; simp_all))]; kernel_rfl⟩
    · -- no
      obtain ⟨q, hq0⟩ : ∃ q : Nat, pl = (q : Int) := ⟨pl.toNat, by omega⟩; have hq16 : q < 16 := (by omega); have hpo : placeOk pl := (by rw [hq0]; exact placeOk_nat hq16)
      refine m_ld 0 1 ?_
      refine m_call 0 [] (raright_j a) .nil ?_
      rintro _ _ ⟨rfl, rfl⟩
      refine m_ifb 4 (!(rightS a.s)) (fun c4 => ?_) (fun c4 => ?_)
      · -- yes
        exact m_ret 7 (.int .i64 1) [1] ⟨(by rw [setE_no (fun h => by first | (have h1 := h.1.1; have h2 := h.1.2; omega) | (have h1 := h.2; simp_all))]; rfl), by rw [setT_no (fun h => by first | (have h1 := h.1.1; have h2 := h.1.2; omega) | (have h1 := h.2; simp_all))]; kernel_rfl⟩
      · -- no
        refine m_plan 3 [3, 4] (.q 0 false (.q 1 false (.q 2 true (.q 3 false (.q 4 false (.q 5 false (.e 6 .n))))))) [0] ?_
        refine m_i 1 .i64 pl (q : Int) hq0 ?_
        refine m_ld 0 1 ?_
        refine m_thaw 2 ?_
        refine m_ixA 0 rb 0 3 16 q .i64 (by omega) ?_
        refine m_stX 0 1 rb (0 + q * 3) 35 (refM m) (refC2 (updF (fun i => acctAt m (i : Int)) q a) (fun i => hasAt m (i : Int))) (Acct.cells a) (by rw [show (refM m).size = 64 from ref_size _ _]; show 0 + q * 3 + 3 ≤ 64; omega) (ref_stA (fun i => acctAt m (i : Int)) (fun i => hasAt m (i : Int)) (by omega) _) (by kernel_rfl) ?_
        refine m_thaw 1 ?_
        refine m_i 4 .i64 pl (q : Int) hq0 ?_
        refine m_ixA 2 rb 48 1 16 q .i64 (by omega) ?_
        refine m_stX 0 1 rb (48 + q * 1) 35 (refC2 (updF (fun i => acctAt m (i : Int)) q a) (fun i => hasAt m (i : Int))) (refM (setM m pl a)) #[.bool true] (by rw [show (refC2 (updF (fun i => acctAt m (i : Int)) q a) (fun i => hasAt m (i : Int))).size = 64 from ref_size _ _]; show 48 + q * 1 + 1 ≤ 64; omega) ((ref_stI _ _ (by omega) _).trans (ref_set hq0.symm _)) (by kernel_rfl) ?_
        exact m_ret 8 (.int .i64 0) [1] ⟨(by rw [setE_yes hpo (by first | assumption | simp_all)]; rfl), by rw [setT_yes hpo (by first | assumption | simp_all)]; kernel_rfl⟩

set_option maxRecDepth 100000 in
theorem rdrop_j (rb : Nat) (m : TM) (pl : Int) (hm : TrOk m) :
    Does Tryd.prog 16 #[(.pointer (some ⟨rb, 0, none⟩)), (.int .i64 pl)] [] [(.blk rb (refM m) 35)] (fun v H => v = (.bool (hasAt m pl)) ∧ H = [(.blk rb (refM (delM m pl)) 35)]) := by
  refine m_fn fun F => ?_
  refine m_sp 10 (pl < (0 : Int)) (fun c1 => ?_) (fun c1 => ?_)
  · -- yes
    exact m_ret 22 (.bool false) [0] ⟨(by rw [show hasAt m pl = false from hasAt_out hm (fun h => by have h1 := h.1; have h2 := h.2; omega)]), by rw [del_none (show hasAt m pl = false from hasAt_out hm (fun h => by have h1 := h.1; have h2 := h.2; omega))]; kernel_rfl⟩
  · -- no
    refine m_sp 3 (pl > (15 : Int)) (fun c2 => ?_) (fun c2 => ?_)
    · -- yes
      exact m_ret 18 (.bool false) [0] ⟨(by rw [show hasAt m pl = false from hasAt_out hm (fun h => by have h1 := h.1; have h2 := h.2; omega)]), by rw [del_none (show hasAt m pl = false from hasAt_out hm (fun h => by have h1 := h.1; have h2 := h.2; omega))]; kernel_rfl⟩
    · -- no
      obtain ⟨q, hq0⟩ : ∃ q : Nat, pl = (q : Int) := ⟨pl.toNat, by omega⟩; have hq16 : q < 16 := (by omega); have hpo : placeOk pl := (by rw [hq0]; exact placeOk_nat hq16)
      refine m_i 1 .i64 pl (q : Int) hq0 ?_
      refine m_ixA 2 rb 48 1 16 q .i64 (by omega) ?_
      refine m_ldA 0 1 rb (48 + q * 1) 35 (refM m) (.bool (hasAt m ((q : Nat) : Int))) (ref_ldI (fun i => acctAt m (i : Int)) (fun i => hasAt m (i : Int)) (by omega)) ?_
      refine m_ifb 4 (!(hasAt m ((q : Nat) : Int))) (fun c3 => ?_) (fun c3 => ?_)
      · -- yes
        exact m_ret 7 (.bool false) [0] ⟨(by rw [show hasAt m pl = false from (by first | assumption | (rw [hq0]; assumption) | simp_all)]), by rw [del_none (show hasAt m pl = false from (by first | assumption | (rw [hq0]; assumption) | simp_all))]; kernel_rfl⟩
      · -- no
        refine m_i 5 .i64 pl (q : Int) hq0 ?_
        refine m_ixA 3 rb 0 3 16 q .i64 (by omega) ?_
        refine m_stX 0 0 rb (0 + q * 3) 35 (refM m) (refC2 (updF (fun i => acctAt m (i : Int)) q (⟨(⟨#[]⟩ : ByteArray), 0, 0⟩ : Acct)) (fun i => hasAt m (i : Int))) (Acct.cells (⟨(⟨#[]⟩ : ByteArray), 0, 0⟩ : Acct)) (by rw [show (refM m).size = 64 from ref_size _ _]; show 0 + q * 3 + 3 ≤ 64; omega) (ref_stA (fun i => acctAt m (i : Int)) (fun i => hasAt m (i : Int)) (by omega) _) (by kernel_rfl) ?_
        refine m_i 5 .i64 pl (q : Int) hq0 ?_
        refine m_ixA 2 rb 48 1 16 q .i64 (by omega) ?_
        refine m_stX 0 0 rb (48 + q * 1) 35 (refC2 (updF (fun i => acctAt m (i : Int)) q (⟨(⟨#[]⟩ : ByteArray), 0, 0⟩ : Acct)) (fun i => hasAt m (i : Int))) (refM (delM m pl)) #[.bool false] (by rw [show (refC2 (updF (fun i => acctAt m (i : Int)) q (⟨(⟨#[]⟩ : ByteArray), 0, 0⟩ : Acct)) (fun i => hasAt m (i : Int))).size = 64 from ref_size _ _]; show 48 + q * 1 + 1 ≤ 64; omega) ((ref_stI _ _ (by omega) _).trans (ref_del hq0.symm)) (by kernel_rfl) ?_
        exact m_ret 8 (.bool true) [0] ⟨(by rw [show hasAt m pl = true from by rw [hq0]; first | assumption | simp_all]), by kernel_rfl⟩

set_option maxRecDepth 100000 in
theorem rget_j (rb : Nat) (m : TM) (pl : Int) (hm : TrOk m) :
    Does Tryd.prog 20 #[(.pointer (some ⟨rb, 0, none⟩)), (.int .i64 pl)] [(.blk rb (refM m) 35)] [] (fun v H => v = (.tuple #[(.agg ((acctAt m pl).cells)), (.bool (hasAt m pl))]) ∧ H = []) := by
  refine m_fn fun F => ?_
  refine m_new 2 fun b1 => ?_
  refine m_sp 8 (pl < (0 : Int)) (fun c2 => ?_) (fun c2 => ?_)
  · -- yes
    refine m_st 9 0 ?_
    exact m_retC 5 [2, 0] (.tuple #[(.agg ((⟨(⟨#[]⟩ : ByteArray), 0, 0⟩ : Acct).cells)), (.bool false)]) [] ⟨(by rw [show hasAt m pl = false from hasAt_out hm (fun h => by have h1 := h.1; have h2 := h.2; omega), acctAt_no (hasAt_out hm (fun h => by have h1 := h.1; have h2 := h.2; omega))]; first | done | kernel_rfl), by kernel_rfl⟩
  · -- no
    refine m_if 5 (pl > (15 : Int)) (fun c3 => ?_) (fun c3 => ?_)
    · -- yes
      refine m_st 3 0 ?_
      exact m_retC 5 [2, 0] (.tuple #[(.agg ((⟨(⟨#[]⟩ : ByteArray), 0, 0⟩ : Acct).cells)), (.bool false)]) [] ⟨(by rw [show hasAt m pl = false from hasAt_out hm (fun h => by have h1 := h.1; have h2 := h.2; omega), acctAt_no (hasAt_out hm (fun h => by have h1 := h.1; have h2 := h.2; omega))]; first | done | kernel_rfl), by kernel_rfl⟩
    · -- no
      obtain ⟨q, hq0⟩ : ∃ q : Nat, pl = (q : Int) := ⟨pl.toNat, by omega⟩; have hq16 : q < 16 := (by omega); have hpo : placeOk pl := (by rw [hq0]; exact placeOk_nat hq16)
      refine m_plan 3 [6, 7, 8, 9, 10, 11, 12] (.q 0 false (.q 1 false (.q 2 false (.q 3 false (.q 4 false (.q 5 true (.q 6 false (.q 7 false (.q 8 false (.q 9 false (.q 10 false (.q 11 true (.e 12 (.q 13 false .n)))))))))))))) [] ?_
      refine m_i 1 .i64 pl (q : Int) hq0 ?_
      refine m_ixA 2 rb 0 3 16 q .i64 (by omega) ?_
      refine m_ldX 0 1 rb (0 + q * 3) 35 3 (refM m) (Acct.cells (acctAt m ((q : Nat) : Int))) (by rw [show (refM m).size = 64 from ref_size _ _]; omega) (ref_ldA (fun i => acctAt m (i : Int)) (fun i => hasAt m (i : Int)) (by omega)) ?_
      refine m_i 1 .i64 pl (q : Int) hq0 ?_
      refine m_ixA 2 rb 48 1 16 q .i64 (by omega) ?_
      refine m_ldA 0 1 rb (48 + q * 1) 35 (refM m) (.bool (hasAt m ((q : Nat) : Int))) (ref_ldI (fun i => acctAt m (i : Int)) (fun i => hasAt m (i : Int)) (by omega)) ?_
      refine m_st 0 0 ?_
      refine m_thaw 2 ?_
      exact m_retC 2 [2, 0] (.tuple #[(.agg ((acctAt m ((q : Nat) : Int)).cells)), (.bool (hasAt m ((q : Nat) : Int)))]) [] ⟨(by rw [hq0]), by kernel_rfl⟩

set_option maxRecDepth 100000 in
theorem rtlen_j (rb : Nat) (m : TM) :
    Does Tryd.prog 18 #[(.pointer (some ⟨rb, 0, none⟩))] [(.blk rb (refM m) 35)] [] (fun v H => v = (.int .i64 ((cntM m 16 : Nat) : Int)) ∧ H = []) := by
  refine m_fn fun F => ?_
  refine m_loop (X := Nat × Nat) 17 [0] (fun (x : Nat × Nat) => [(3, (.int .i64 ((x.2 : Nat) : Int))), (4, (.int .i64 ((x.1 : Nat) : Int)))]) [] (fun (x : Nat × Nat) => []) (fun (x : Nat × Nat) => (x.1 ≤ 16) ∧ (x.2 = cntM m x.1) ∧ (x.2 ≤ x.1)) (fun (x : Nat × Nat) => 16 - x.1) (0, 0) (⟨by omega, rfl, Nat.le_refl 0⟩) (fun x u1 hx => ?_)
  obtain ⟨i, n⟩ := x; dsimp only at hx
  obtain ⟨hi, hn, hn2⟩ := hx
  refine m_if 7 (((i : Nat) : Int) < (16 : Int)) (fun c2 => ?_) (fun c2 => ?_)
  · -- yes
    refine m_ixA 10 rb 48 1 16 i .i64 (by omega) ?_
    refine m_ldA 0 1 rb (48 + i * 1) 35 (refM m) (.bool (hasAt m ((i : Nat) : Int))) (ref_ldI (fun i => acctAt m (i : Int)) (fun i => hasAt m (i : Int)) (by omega)) ?_
    refine m_ifb 2 (hasAt m ((i : Nat) : Int)) (fun c3 => ?_) (fun c3 => ?_)
    · -- yes
      refine m_i64 2 (((n : Nat) : Int) + (1 : Int)) (n + 1) (by omega) ?_
      refine m_i64 6 (((i : Nat) : Int) + (1 : Int)) (i + 1) (by omega) ?_
      exact m_back 2 (i + 1, n + 1) [] ⟨⟨(by omega), (by rw [cntM, if_pos (by assumption), hn]; first | done | rfl), (by omega)⟩, (by omega)⟩
    · -- no
      refine m_i64 5 (((i : Nat) : Int) + (1 : Int)) (i + 1) (by omega) ?_
      exact m_back 2 (i + 1, n) [] ⟨⟨(by omega), (by rw [cntM, if_neg (by simp_all), hn]; first | done | rfl), (by omega)⟩, (by omega)⟩
  · -- no
    exact m_ret 12 (.int .i64 ((n : Nat) : Int)) [] ⟨(by rw [hn, show i = 16 from by omega]), by kernel_rfl⟩

set_option maxRecDepth 100000 in
theorem rnode0_j (rb : Nat) (m : TM) (q : Nat) (hm : TrOk m) (hq : (q + 1) * 1 ≤ 16) :
    Does Tryd.prog 47 #[(.pointer (some ⟨rb, 0, none⟩)), (.int .i64 0), (.int .i64 ((q : Nat) : Int))] [(.blk rb (refM m) 35), (.rd (some ⟨0, 0, none⟩) ((hw KL).toList))] [] (fun v H => v = (.agg (hv (nodeL (getM m) 0 q))) ∧ H = []) := by
  refine m_fn fun F => ?_
  refine m_new 2 fun b1 => ?_
  refine m_ixA 19 rb 48 1 16 q .i64 (by omega) ?_
  refine m_ldA 0 1 rb (48 + q * 1) 35 (refM m) (.bool (hasAt m ((q : Nat) : Int))) (ref_ldI (fun i => acctAt m (i : Int)) (fun i => hasAt m (i : Int)) (by omega)) ?_
  refine m_ifb 3 (!(hasAt m ((q : Nat) : Int))) (fun c2 => ?_) (fun c2 => ?_)
  · -- yes
    refine m_call 2 [] (ranone_j) (.cons 2 (.refl) .nil) ?_
    rintro _ _ ⟨rfl, rfl⟩
    refine m_st 0 0 ?_
    exact m_retC 4 [3] (.agg (hv accNone)) [] ⟨(by rw [nodeL_refno (M := m) (q := q) (by first | assumption | simp_all)]), by kernel_rfl⟩
  · -- no
    refine m_ixA 8 rb 0 3 16 q .i64 (by omega) ?_
    refine m_ldX 0 1 rb (0 + q * 3) 35 3 (refM m) (Acct.cells (acctAt m ((q : Nat) : Int))) (by rw [show (refM m).size = 64 from ref_size _ _]; omega) (ref_ldA (fun i => acctAt m (i : Int)) (fun i => hasAt m (i : Int)) (by omega)) ?_
    refine m_call 0 [] (rahash_j (acctAt m ((q : Nat) : Int)) (acctAt_ok hm _)) (.cons 2 (.refl) .nil) ?_
    rintro _ _ ⟨rfl, rfl⟩
    refine m_new 3 fun b3 => ?_
    refine m_st 0 0 ?_
    refine m_ld 5 3 ?_
    refine m_st 0 1 ?_
    exact m_retC 3 [4] (.agg (hv (accHa (acctAt m ((q : Nat) : Int))))) [] ⟨(by rw [nodeL_ref (M := m) (q := q) (by first | assumption | simp_all)]), by kernel_rfl⟩

set_option maxRecDepth 100000 in
theorem rnode1_j (rb : Nat) (m : TM) (q : Nat) (hm : TrOk m) (hq : (q + 1) * 2 ≤ 16) :
    Does Tryd.prog 47 #[(.pointer (some ⟨rb, 0, none⟩)), (.int .i64 1), (.int .i64 ((q : Nat) : Int))] [(.blk rb (refM m) 35), (.rd (some ⟨0, 0, none⟩) ((hw KL).toList))] [] (fun v H => v = (.agg (hv (nodeL (getM m) 1 q))) ∧ H = []) := by
  refine m_fn fun F => ?_
  refine m_new 2 fun b1 => ?_
  refine m_i64 17 ((2 : Int) * ((q : Nat) : Int)) (2 * q) (by omega) ?_
  refine m_call 0 [] (rnode0_j rb m (2 * q) (by first | with_reducible assumption | omega | decide) (by first | with_reducible assumption | omega | decide)) (.cons 1 (.refl) (.cons 2 (.refl) .nil)) ?_
  rintro _ _ ⟨rfl, rfl⟩
  refine m_i64 4 ((2 : Int) * ((q : Nat) : Int)) (2 * q) (by omega) ?_
  refine m_i64 0 (((2 * q : Nat) : Int) + (1 : Int)) ((2 * q) + 1) (by omega) ?_
  refine m_call 0 [] (rnode0_j rb m ((2 * q) + 1) (by first | with_reducible assumption | omega | decide) (by first | with_reducible assumption | omega | decide)) (.cons 1 (.refl) (.cons 2 (.refl) .nil)) ?_
  rintro _ _ ⟨rfl, rfl⟩
  refine m_call 0 [] (rjoin_j 1 (nodeL (getM m) 0 (2 * q)) (nodeL (getM m) 0 ((2 * q) + 1)) (by first | with_reducible assumption | omega | decide) (nodeL_ok _ _ _) (nodeL_ok _ _ _)) (.cons 2 (.refl) .nil) ?_
  rintro _ _ ⟨rfl, rfl⟩
  refine m_st 0 0 ?_
  exact m_retC 4 [3] (.agg (hv (joinL 1 (nodeL (getM m) 0 (2 * q)) (nodeL (getM m) 0 ((2 * q) + 1))))) [] ⟨(rfl), by kernel_rfl⟩

set_option maxRecDepth 100000 in
theorem rnode2_j (rb : Nat) (m : TM) (q : Nat) (hm : TrOk m) (hq : (q + 1) * 4 ≤ 16) :
    Does Tryd.prog 47 #[(.pointer (some ⟨rb, 0, none⟩)), (.int .i64 2), (.int .i64 ((q : Nat) : Int))] [(.blk rb (refM m) 35), (.rd (some ⟨0, 0, none⟩) ((hw KL).toList))] [] (fun v H => v = (.agg (hv (nodeL (getM m) 2 q))) ∧ H = []) := by
  refine m_fn fun F => ?_
  refine m_new 2 fun b1 => ?_
  refine m_i64 17 ((2 : Int) * ((q : Nat) : Int)) (2 * q) (by omega) ?_
  refine m_call 0 [] (rnode1_j rb m (2 * q) (by first | with_reducible assumption | omega | decide) (by first | with_reducible assumption | omega | decide)) (.cons 1 (.refl) (.cons 2 (.refl) .nil)) ?_
  rintro _ _ ⟨rfl, rfl⟩
  refine m_i64 4 ((2 : Int) * ((q : Nat) : Int)) (2 * q) (by omega) ?_
  refine m_i64 0 (((2 * q : Nat) : Int) + (1 : Int)) ((2 * q) + 1) (by omega) ?_
  refine m_call 0 [] (rnode1_j rb m ((2 * q) + 1) (by first | with_reducible assumption | omega | decide) (by first | with_reducible assumption | omega | decide)) (.cons 1 (.refl) (.cons 2 (.refl) .nil)) ?_
  rintro _ _ ⟨rfl, rfl⟩
  refine m_call 0 [] (rjoin_j 2 (nodeL (getM m) 1 (2 * q)) (nodeL (getM m) 1 ((2 * q) + 1)) (by first | with_reducible assumption | omega | decide) (nodeL_ok _ _ _) (nodeL_ok _ _ _)) (.cons 2 (.refl) .nil) ?_
  rintro _ _ ⟨rfl, rfl⟩
  refine m_st 0 0 ?_
  exact m_retC 4 [3] (.agg (hv (joinL 2 (nodeL (getM m) 1 (2 * q)) (nodeL (getM m) 1 ((2 * q) + 1))))) [] ⟨(rfl), by kernel_rfl⟩

set_option maxRecDepth 100000 in
theorem rnode3_j (rb : Nat) (m : TM) (q : Nat) (hm : TrOk m) (hq : (q + 1) * 8 ≤ 16) :
    Does Tryd.prog 47 #[(.pointer (some ⟨rb, 0, none⟩)), (.int .i64 3), (.int .i64 ((q : Nat) : Int))] [(.blk rb (refM m) 35), (.rd (some ⟨0, 0, none⟩) ((hw KL).toList))] [] (fun v H => v = (.agg (hv (nodeL (getM m) 3 q))) ∧ H = []) := by
  refine m_fn fun F => ?_
  refine m_new 2 fun b1 => ?_
  refine m_i64 17 ((2 : Int) * ((q : Nat) : Int)) (2 * q) (by omega) ?_
  refine m_call 0 [] (rnode2_j rb m (2 * q) (by first | with_reducible assumption | omega | decide) (by first | with_reducible assumption | omega | decide)) (.cons 1 (.refl) (.cons 2 (.refl) .nil)) ?_
  rintro _ _ ⟨rfl, rfl⟩
  refine m_i64 4 ((2 : Int) * ((q : Nat) : Int)) (2 * q) (by omega) ?_
  refine m_i64 0 (((2 * q : Nat) : Int) + (1 : Int)) ((2 * q) + 1) (by omega) ?_
  refine m_call 0 [] (rnode2_j rb m ((2 * q) + 1) (by first | with_reducible assumption | omega | decide) (by first | with_reducible assumption | omega | decide)) (.cons 1 (.refl) (.cons 2 (.refl) .nil)) ?_
  rintro _ _ ⟨rfl, rfl⟩
  refine m_call 0 [] (rjoin_j 3 (nodeL (getM m) 2 (2 * q)) (nodeL (getM m) 2 ((2 * q) + 1)) (by first | with_reducible assumption | omega | decide) (nodeL_ok _ _ _) (nodeL_ok _ _ _)) (.cons 2 (.refl) .nil) ?_
  rintro _ _ ⟨rfl, rfl⟩
  refine m_st 0 0 ?_
  exact m_retC 4 [3] (.agg (hv (joinL 3 (nodeL (getM m) 2 (2 * q)) (nodeL (getM m) 2 ((2 * q) + 1))))) [] ⟨(rfl), by kernel_rfl⟩

set_option maxRecDepth 100000 in
theorem rnode4_j (rb : Nat) (m : TM) (q : Nat) (hm : TrOk m) (hq : (q + 1) * 16 ≤ 16) :
    Does Tryd.prog 47 #[(.pointer (some ⟨rb, 0, none⟩)), (.int .i64 4), (.int .i64 ((q : Nat) : Int))] [(.blk rb (refM m) 35), (.rd (some ⟨0, 0, none⟩) ((hw KL).toList))] [] (fun v H => v = (.agg (hv (nodeL (getM m) 4 q))) ∧ H = []) := by
  refine m_fn fun F => ?_
  refine m_new 2 fun b1 => ?_
  refine m_i64 17 ((2 : Int) * ((q : Nat) : Int)) (2 * q) (by omega) ?_
  refine m_call 0 [] (rnode3_j rb m (2 * q) (by first | with_reducible assumption | omega | decide) (by first | with_reducible assumption | omega | decide)) (.cons 1 (.refl) (.cons 2 (.refl) .nil)) ?_
  rintro _ _ ⟨rfl, rfl⟩
  refine m_i64 4 ((2 : Int) * ((q : Nat) : Int)) (2 * q) (by omega) ?_
  refine m_i64 0 (((2 * q : Nat) : Int) + (1 : Int)) ((2 * q) + 1) (by omega) ?_
  refine m_call 0 [] (rnode3_j rb m ((2 * q) + 1) (by first | with_reducible assumption | omega | decide) (by first | with_reducible assumption | omega | decide)) (.cons 1 (.refl) (.cons 2 (.refl) .nil)) ?_
  rintro _ _ ⟨rfl, rfl⟩
  refine m_call 0 [] (rjoin_j 4 (nodeL (getM m) 3 (2 * q)) (nodeL (getM m) 3 ((2 * q) + 1)) (by first | with_reducible assumption | omega | decide) (nodeL_ok _ _ _) (nodeL_ok _ _ _)) (.cons 2 (.refl) .nil) ?_
  rintro _ _ ⟨rfl, rfl⟩
  refine m_st 0 0 ?_
  exact m_retC 4 [3] (.agg (hv (joinL 4 (nodeL (getM m) 3 (2 * q)) (nodeL (getM m) 3 ((2 * q) + 1))))) [] ⟨(rfl), by kernel_rfl⟩

set_option maxRecDepth 100000 in
theorem rroot_j (rb : Nat) (m : TM) (hm : TrOk m) :
    Does Tryd.prog 24 #[(.pointer (some ⟨rb, 0, none⟩))] [(.blk rb (refM m) 35), (.rd (some ⟨0, 0, none⟩) ((hw KL).toList))] [] (fun v H => v = (.agg (hv (nodeL (getM m) 4 0))) ∧ H = []) := by
  refine m_fn fun F => ?_
  refine m_new 2 fun b1 => ?_
  refine m_call 5 [] (rnode4_j rb m 0 (by first | with_reducible assumption | omega | decide) (by first | with_reducible assumption | omega | decide)) (.cons 1 (.refl) (.cons 2 (.refl) .nil)) ?_
  rintro _ _ ⟨rfl, rfl⟩
  refine m_st 0 0 ?_
  exact m_retC 3 [3] (.agg (hv (nodeL (getM m) 4 0))) [] ⟨(rfl), by kernel_rfl⟩

set_option maxRecDepth 100000 in
theorem rpath_j (rb : Nat) (m : TM) (pl : Int) (hm : TrOk m) :
    Does Tryd.prog 22 #[(.pointer (some ⟨rb, 0, none⟩)), (.int .i64 pl)] [(.blk rb (refM m) 35), (.rd (some ⟨0, 0, none⟩) ((hw KL).toList))] [] (fun v H => v = (.tuple #[(.agg ((pathP (getM m) pl).cells)), (.int .i64 ((pathE pl : Nat) : Int))]) ∧ H = []) := by
  refine m_fn fun F => ?_
  refine m_new 2 fun b1 => ?_
  refine m_new 6 fun b2 => ?_
  refine m_st 0 0 ?_
  refine m_sp 7 (pl < (0 : Int)) (fun c3 => ?_) (fun c3 => ?_)
  · -- yes
    refine m_ld 8 3 ?_
    refine m_st 0 1 ?_
    exact m_retC 5 [4, 0] (.tuple #[(.agg ((⟨Z32, Z32, Z32, Z32⟩ : Path4).cells)), (.int .i64 1)]) [] ⟨(by rw [pathP_no (fun h => by have h1 := h.1; have h2 := h.2; omega), pathE_no (fun h => by have h1 := h.1; have h2 := h.2; omega)]; first | done | kernel_rfl), by kernel_rfl⟩
  · -- no
    refine m_if 5 (pl > (15 : Int)) (fun c4 => ?_) (fun c4 => ?_)
    · -- yes
      refine m_ld 2 3 ?_
      refine m_st 0 1 ?_
      exact m_retC 5 [4, 0] (.tuple #[(.agg ((⟨Z32, Z32, Z32, Z32⟩ : Path4).cells)), (.int .i64 1)]) [] ⟨(by rw [pathP_no (fun h => by have h1 := h.1; have h2 := h.2; omega), pathE_no (fun h => by have h1 := h.1; have h2 := h.2; omega)]; first | done | kernel_rfl), by kernel_rfl⟩
    · -- no
      obtain ⟨q, hq0⟩ : ∃ q : Nat, pl = (q : Int) := ⟨pl.toNat, by omega⟩; have hq16 : q < 16 := (by omega); have hpo : placeOk pl := (by rw [hq0]; exact placeOk_nat hq16)
      refine m_i 4 .i64 pl (q : Int) hq0 ?_
      refine m_rem 27 .i64 (q) 2 ?_
      refine m_if 3 (((q % 2 : Nat) : Int) = (0 : Int)) (fun c5 => ?_) (fun c5 => ?_)
      · -- yes
        refine m_i64 5 (((q : Nat) : Int) + (1 : Int)) (q + 1) (by omega) ?_
        refine m_call 0 [] (rnode0_j rb m (q + 1) (by first | with_reducible assumption | omega | decide) (by omega)) (.cons 1 (.refl) (.cons 2 (.refl) .nil)) ?_
        rintro _ _ ⟨hv6, rfl⟩
        rw [show ((.agg (hv (nodeL (getM m) 0 (q + 1)))) : Value) = (.agg (hv (pathL (getM m) q 0))) from by rw [path_even (q := q) (h := 0) (at_ := q) (by omega) (by omega)]] at hv6; subst hv6
        refine m_st 1 0 ?_
        refine m_i 4 .i64 (IntKind.i64.wrap (((q : Nat) : Int).tdiv ((2 : Nat) : Int))) ((q / 2 : Nat) : Int) (quo_i64 (by omega)) ?_
        refine m_rem 26 .i64 (q / 2) 2 ?_
        refine m_if 3 ((((q / 2) % 2 : Nat) : Int) = (0 : Int)) (fun c7 => ?_) (fun c7 => ?_)
        · -- yes
          refine m_i64 5 (((q / 2 : Nat) : Int) + (1 : Int)) ((q / 2) + 1) (by omega) ?_
          refine m_call 0 [] (rnode1_j rb m ((q / 2) + 1) (by first | with_reducible assumption | omega | decide) (by omega)) (.cons 1 (.refl) (.cons 2 (.refl) .nil)) ?_
          rintro _ _ ⟨hv8, rfl⟩
          rw [show ((.agg (hv (nodeL (getM m) 1 ((q / 2) + 1)))) : Value) = (.agg (hv (pathL (getM m) q 1))) from by rw [path_even (q := q) (h := 1) (at_ := (q / 2)) (by omega) (by omega)]] at hv8; subst hv8
          refine m_st 1 0 ?_
          refine m_i 4 .i64 (IntKind.i64.wrap (((q / 2 : Nat) : Int).tdiv ((2 : Nat) : Int))) (((q / 2) / 2 : Nat) : Int) (quo_i64 (by omega)) ?_
          refine m_rem 26 .i64 ((q / 2) / 2) 2 ?_
          refine m_if 3 (((((q / 2) / 2) % 2 : Nat) : Int) = (0 : Int)) (fun c9 => ?_) (fun c9 => ?_)
          · -- yes
            refine m_i64 5 ((((q / 2) / 2 : Nat) : Int) + (1 : Int)) (((q / 2) / 2) + 1) (by omega) ?_
            refine m_call 0 [] (rnode2_j rb m (((q / 2) / 2) + 1) (by first | with_reducible assumption | omega | decide) (by omega)) (.cons 1 (.refl) (.cons 2 (.refl) .nil)) ?_
            rintro _ _ ⟨hv10, rfl⟩
            rw [show ((.agg (hv (nodeL (getM m) 2 (((q / 2) / 2) + 1)))) : Value) = (.agg (hv (pathL (getM m) q 2))) from by rw [path_even (q := q) (h := 2) (at_ := ((q / 2) / 2)) (by omega) (by omega)]] at hv10; subst hv10
            refine m_st 1 0 ?_
            refine m_i 4 .i64 (IntKind.i64.wrap ((((q / 2) / 2 : Nat) : Int).tdiv ((2 : Nat) : Int))) ((((q / 2) / 2) / 2 : Nat) : Int) (quo_i64 (by omega)) ?_
            refine m_rem 26 .i64 (((q / 2) / 2) / 2) 2 ?_
            refine m_if 3 ((((((q / 2) / 2) / 2) % 2 : Nat) : Int) = (0 : Int)) (fun c11 => ?_) (fun c11 => ?_)
            · -- yes
              refine m_i64 5 (((((q / 2) / 2) / 2 : Nat) : Int) + (1 : Int)) ((((q / 2) / 2) / 2) + 1) (by omega) ?_
              refine m_call 0 [] (rnode3_j rb m ((((q / 2) / 2) / 2) + 1) (by first | with_reducible assumption | omega | decide) (by omega)) (.cons 1 (.refl) (.cons 2 (.refl) .nil)) ?_
              rintro _ _ ⟨hv12, rfl⟩
              rw [show ((.agg (hv (nodeL (getM m) 3 ((((q / 2) / 2) / 2) + 1)))) : Value) = (.agg (hv (pathL (getM m) q 3))) from by rw [path_even (q := q) (h := 3) (at_ := (((q / 2) / 2) / 2)) (by omega) (by omega)]] at hv12; subst hv12
              refine m_st 1 0 ?_
              refine m_i 4 .i64 (IntKind.i64.wrap (((((q / 2) / 2) / 2 : Nat) : Int).tdiv ((2 : Nat) : Int))) (((((q / 2) / 2) / 2) / 2 : Nat) : Int) (quo_i64 (by omega)) ?_
              refine m_ld 25 3 ?_
              refine m_st 0 1 ?_
              exact m_retC 4 [4, 0] (.tuple #[(.agg ((⟨pathL (getM m) q 0, pathL (getM m) q 1, pathL (getM m) q 2, pathL (getM m) q 3⟩ : Path4).cells)), (.int .i64 0)]) [] ⟨(by rw [pathP_yes hq0 hq16, pathE_yes hpo]; first | done | kernel_rfl), by kernel_rfl⟩
            · -- no
              refine m_i64 5 (((((q / 2) / 2) / 2 : Nat) : Int) - (1 : Int)) ((((q / 2) / 2) / 2) - 1) (by omega) ?_
              refine m_call 0 [] (rnode3_j rb m ((((q / 2) / 2) / 2) - 1) (by first | with_reducible assumption | omega | decide) (by omega)) (.cons 1 (.refl) (.cons 2 (.refl) .nil)) ?_
              rintro _ _ ⟨hv13, rfl⟩
              rw [show ((.agg (hv (nodeL (getM m) 3 ((((q / 2) / 2) / 2) - 1)))) : Value) = (.agg (hv (pathL (getM m) q 3))) from by rw [path_odd (q := q) (h := 3) (at_ := (((q / 2) / 2) / 2)) (by omega) (by omega)]] at hv13; subst hv13
              refine m_st 1 0 ?_
              refine m_i 4 .i64 (IntKind.i64.wrap (((((q / 2) / 2) / 2 : Nat) : Int).tdiv ((2 : Nat) : Int))) (((((q / 2) / 2) / 2) / 2 : Nat) : Int) (quo_i64 (by omega)) ?_
              refine m_ld 25 3 ?_
              refine m_st 0 1 ?_
              exact m_retC 4 [4, 0] (.tuple #[(.agg ((⟨pathL (getM m) q 0, pathL (getM m) q 1, pathL (getM m) q 2, pathL (getM m) q 3⟩ : Path4).cells)), (.int .i64 0)]) [] ⟨(by rw [pathP_yes hq0 hq16, pathE_yes hpo]; first | done | kernel_rfl), by kernel_rfl⟩
          · -- no
            refine m_i64 5 ((((q / 2) / 2 : Nat) : Int) - (1 : Int)) (((q / 2) / 2) - 1) (by omega) ?_
            refine m_call 0 [] (rnode2_j rb m (((q / 2) / 2) - 1) (by first | with_reducible assumption | omega | decide) (by omega)) (.cons 1 (.refl) (.cons 2 (.refl) .nil)) ?_
            rintro _ _ ⟨hv14, rfl⟩
            rw [show ((.agg (hv (nodeL (getM m) 2 (((q / 2) / 2) - 1)))) : Value) = (.agg (hv (pathL (getM m) q 2))) from by rw [path_odd (q := q) (h := 2) (at_ := ((q / 2) / 2)) (by omega) (by omega)]] at hv14; subst hv14
            refine m_st 1 0 ?_
            refine m_i 4 .i64 (IntKind.i64.wrap ((((q / 2) / 2 : Nat) : Int).tdiv ((2 : Nat) : Int))) ((((q / 2) / 2) / 2 : Nat) : Int) (quo_i64 (by omega)) ?_
            refine m_rem 26 .i64 (((q / 2) / 2) / 2) 2 ?_
            refine m_if 3 ((((((q / 2) / 2) / 2) % 2 : Nat) : Int) = (0 : Int)) (fun c15 => ?_) (fun c15 => ?_)
            · -- yes
              refine m_i64 5 (((((q / 2) / 2) / 2 : Nat) : Int) + (1 : Int)) ((((q / 2) / 2) / 2) + 1) (by omega) ?_
              refine m_call 0 [] (rnode3_j rb m ((((q / 2) / 2) / 2) + 1) (by first | with_reducible assumption | omega | decide) (by omega)) (.cons 1 (.refl) (.cons 2 (.refl) .nil)) ?_
              rintro _ _ ⟨hv16, rfl⟩
              rw [show ((.agg (hv (nodeL (getM m) 3 ((((q / 2) / 2) / 2) + 1)))) : Value) = (.agg (hv (pathL (getM m) q 3))) from by rw [path_even (q := q) (h := 3) (at_ := (((q / 2) / 2) / 2)) (by omega) (by omega)]] at hv16; subst hv16
              refine m_st 1 0 ?_
              refine m_i 4 .i64 (IntKind.i64.wrap (((((q / 2) / 2) / 2 : Nat) : Int).tdiv ((2 : Nat) : Int))) (((((q / 2) / 2) / 2) / 2 : Nat) : Int) (quo_i64 (by omega)) ?_
              refine m_ld 25 3 ?_
              refine m_st 0 1 ?_
              exact m_retC 4 [4, 0] (.tuple #[(.agg ((⟨pathL (getM m) q 0, pathL (getM m) q 1, pathL (getM m) q 2, pathL (getM m) q 3⟩ : Path4).cells)), (.int .i64 0)]) [] ⟨(by rw [pathP_yes hq0 hq16, pathE_yes hpo]; first | done | kernel_rfl), by kernel_rfl⟩
            · -- no
              refine m_i64 5 (((((q / 2) / 2) / 2 : Nat) : Int) - (1 : Int)) ((((q / 2) / 2) / 2) - 1) (by omega) ?_
              refine m_call 0 [] (rnode3_j rb m ((((q / 2) / 2) / 2) - 1) (by first | with_reducible assumption | omega | decide) (by omega)) (.cons 1 (.refl) (.cons 2 (.refl) .nil)) ?_
              rintro _ _ ⟨hv17, rfl⟩
              rw [show ((.agg (hv (nodeL (getM m) 3 ((((q / 2) / 2) / 2) - 1)))) : Value) = (.agg (hv (pathL (getM m) q 3))) from by rw [path_odd (q := q) (h := 3) (at_ := (((q / 2) / 2) / 2)) (by omega) (by omega)]] at hv17; subst hv17
              refine m_st 1 0 ?_
              refine m_i 4 .i64 (IntKind.i64.wrap (((((q / 2) / 2) / 2 : Nat) : Int).tdiv ((2 : Nat) : Int))) (((((q / 2) / 2) / 2) / 2 : Nat) : Int) (quo_i64 (by omega)) ?_
              refine m_ld 25 3 ?_
              refine m_st 0 1 ?_
              exact m_retC 4 [4, 0] (.tuple #[(.agg ((⟨pathL (getM m) q 0, pathL (getM m) q 1, pathL (getM m) q 2, pathL (getM m) q 3⟩ : Path4).cells)), (.int .i64 0)]) [] ⟨(by rw [pathP_yes hq0 hq16, pathE_yes hpo]; first | done | kernel_rfl), by kernel_rfl⟩
        · -- no
          refine m_i64 5 (((q / 2 : Nat) : Int) - (1 : Int)) ((q / 2) - 1) (by omega) ?_
          refine m_call 0 [] (rnode1_j rb m ((q / 2) - 1) (by first | with_reducible assumption | omega | decide) (by omega)) (.cons 1 (.refl) (.cons 2 (.refl) .nil)) ?_
          rintro _ _ ⟨hv18, rfl⟩
          rw [show ((.agg (hv (nodeL (getM m) 1 ((q / 2) - 1)))) : Value) = (.agg (hv (pathL (getM m) q 1))) from by rw [path_odd (q := q) (h := 1) (at_ := (q / 2)) (by omega) (by omega)]] at hv18; subst hv18
          refine m_st 1 0 ?_
          refine m_i 4 .i64 (IntKind.i64.wrap (((q / 2 : Nat) : Int).tdiv ((2 : Nat) : Int))) (((q / 2) / 2 : Nat) : Int) (quo_i64 (by omega)) ?_
          refine m_rem 26 .i64 ((q / 2) / 2) 2 ?_
          refine m_if 3 (((((q / 2) / 2) % 2 : Nat) : Int) = (0 : Int)) (fun c19 => ?_) (fun c19 => ?_)
          · -- yes
            refine m_i64 5 ((((q / 2) / 2 : Nat) : Int) + (1 : Int)) (((q / 2) / 2) + 1) (by omega) ?_
            refine m_call 0 [] (rnode2_j rb m (((q / 2) / 2) + 1) (by first | with_reducible assumption | omega | decide) (by omega)) (.cons 1 (.refl) (.cons 2 (.refl) .nil)) ?_
            rintro _ _ ⟨hv20, rfl⟩
            rw [show ((.agg (hv (nodeL (getM m) 2 (((q / 2) / 2) + 1)))) : Value) = (.agg (hv (pathL (getM m) q 2))) from by rw [path_even (q := q) (h := 2) (at_ := ((q / 2) / 2)) (by omega) (by omega)]] at hv20; subst hv20
            refine m_st 1 0 ?_
            refine m_i 4 .i64 (IntKind.i64.wrap ((((q / 2) / 2 : Nat) : Int).tdiv ((2 : Nat) : Int))) ((((q / 2) / 2) / 2 : Nat) : Int) (quo_i64 (by omega)) ?_
            refine m_rem 26 .i64 (((q / 2) / 2) / 2) 2 ?_
            refine m_if 3 ((((((q / 2) / 2) / 2) % 2 : Nat) : Int) = (0 : Int)) (fun c21 => ?_) (fun c21 => ?_)
            · -- yes
              refine m_i64 5 (((((q / 2) / 2) / 2 : Nat) : Int) + (1 : Int)) ((((q / 2) / 2) / 2) + 1) (by omega) ?_
              refine m_call 0 [] (rnode3_j rb m ((((q / 2) / 2) / 2) + 1) (by first | with_reducible assumption | omega | decide) (by omega)) (.cons 1 (.refl) (.cons 2 (.refl) .nil)) ?_
              rintro _ _ ⟨hv22, rfl⟩
              rw [show ((.agg (hv (nodeL (getM m) 3 ((((q / 2) / 2) / 2) + 1)))) : Value) = (.agg (hv (pathL (getM m) q 3))) from by rw [path_even (q := q) (h := 3) (at_ := (((q / 2) / 2) / 2)) (by omega) (by omega)]] at hv22; subst hv22
              refine m_st 1 0 ?_
              refine m_i 4 .i64 (IntKind.i64.wrap (((((q / 2) / 2) / 2 : Nat) : Int).tdiv ((2 : Nat) : Int))) (((((q / 2) / 2) / 2) / 2 : Nat) : Int) (quo_i64 (by omega)) ?_
              refine m_ld 25 3 ?_
              refine m_st 0 1 ?_
              exact m_retC 4 [4, 0] (.tuple #[(.agg ((⟨pathL (getM m) q 0, pathL (getM m) q 1, pathL (getM m) q 2, pathL (getM m) q 3⟩ : Path4).cells)), (.int .i64 0)]) [] ⟨(by rw [pathP_yes hq0 hq16, pathE_yes hpo]; first | done | kernel_rfl), by kernel_rfl⟩
            · -- no
              refine m_i64 5 (((((q / 2) / 2) / 2 : Nat) : Int) - (1 : Int)) ((((q / 2) / 2) / 2) - 1) (by omega) ?_
              refine m_call 0 [] (rnode3_j rb m ((((q / 2) / 2) / 2) - 1) (by first | with_reducible assumption | omega | decide) (by omega)) (.cons 1 (.refl) (.cons 2 (.refl) .nil)) ?_
              rintro _ _ ⟨hv23, rfl⟩
              rw [show ((.agg (hv (nodeL (getM m) 3 ((((q / 2) / 2) / 2) - 1)))) : Value) = (.agg (hv (pathL (getM m) q 3))) from by rw [path_odd (q := q) (h := 3) (at_ := (((q / 2) / 2) / 2)) (by omega) (by omega)]] at hv23; subst hv23
              refine m_st 1 0 ?_
              refine m_i 4 .i64 (IntKind.i64.wrap (((((q / 2) / 2) / 2 : Nat) : Int).tdiv ((2 : Nat) : Int))) (((((q / 2) / 2) / 2) / 2 : Nat) : Int) (quo_i64 (by omega)) ?_
              refine m_ld 25 3 ?_
              refine m_st 0 1 ?_
              exact m_retC 4 [4, 0] (.tuple #[(.agg ((⟨pathL (getM m) q 0, pathL (getM m) q 1, pathL (getM m) q 2, pathL (getM m) q 3⟩ : Path4).cells)), (.int .i64 0)]) [] ⟨(by rw [pathP_yes hq0 hq16, pathE_yes hpo]; first | done | kernel_rfl), by kernel_rfl⟩
          · -- no
            refine m_i64 5 ((((q / 2) / 2 : Nat) : Int) - (1 : Int)) (((q / 2) / 2) - 1) (by omega) ?_
            refine m_call 0 [] (rnode2_j rb m (((q / 2) / 2) - 1) (by first | with_reducible assumption | omega | decide) (by omega)) (.cons 1 (.refl) (.cons 2 (.refl) .nil)) ?_
            rintro _ _ ⟨hv24, rfl⟩
            rw [show ((.agg (hv (nodeL (getM m) 2 (((q / 2) / 2) - 1)))) : Value) = (.agg (hv (pathL (getM m) q 2))) from by rw [path_odd (q := q) (h := 2) (at_ := ((q / 2) / 2)) (by omega) (by omega)]] at hv24; subst hv24
            refine m_st 1 0 ?_
            refine m_i 4 .i64 (IntKind.i64.wrap ((((q / 2) / 2 : Nat) : Int).tdiv ((2 : Nat) : Int))) ((((q / 2) / 2) / 2 : Nat) : Int) (quo_i64 (by omega)) ?_
            refine m_rem 26 .i64 (((q / 2) / 2) / 2) 2 ?_
            refine m_if 3 ((((((q / 2) / 2) / 2) % 2 : Nat) : Int) = (0 : Int)) (fun c25 => ?_) (fun c25 => ?_)
            · -- yes
              refine m_i64 5 (((((q / 2) / 2) / 2 : Nat) : Int) + (1 : Int)) ((((q / 2) / 2) / 2) + 1) (by omega) ?_
              refine m_call 0 [] (rnode3_j rb m ((((q / 2) / 2) / 2) + 1) (by first | with_reducible assumption | omega | decide) (by omega)) (.cons 1 (.refl) (.cons 2 (.refl) .nil)) ?_
              rintro _ _ ⟨hv26, rfl⟩
              rw [show ((.agg (hv (nodeL (getM m) 3 ((((q / 2) / 2) / 2) + 1)))) : Value) = (.agg (hv (pathL (getM m) q 3))) from by rw [path_even (q := q) (h := 3) (at_ := (((q / 2) / 2) / 2)) (by omega) (by omega)]] at hv26; subst hv26
              refine m_st 1 0 ?_
              refine m_i 4 .i64 (IntKind.i64.wrap (((((q / 2) / 2) / 2 : Nat) : Int).tdiv ((2 : Nat) : Int))) (((((q / 2) / 2) / 2) / 2 : Nat) : Int) (quo_i64 (by omega)) ?_
              refine m_ld 25 3 ?_
              refine m_st 0 1 ?_
              exact m_retC 4 [4, 0] (.tuple #[(.agg ((⟨pathL (getM m) q 0, pathL (getM m) q 1, pathL (getM m) q 2, pathL (getM m) q 3⟩ : Path4).cells)), (.int .i64 0)]) [] ⟨(by rw [pathP_yes hq0 hq16, pathE_yes hpo]; first | done | kernel_rfl), by kernel_rfl⟩
            · -- no
              refine m_i64 5 (((((q / 2) / 2) / 2 : Nat) : Int) - (1 : Int)) ((((q / 2) / 2) / 2) - 1) (by omega) ?_
              refine m_call 0 [] (rnode3_j rb m ((((q / 2) / 2) / 2) - 1) (by first | with_reducible assumption | omega | decide) (by omega)) (.cons 1 (.refl) (.cons 2 (.refl) .nil)) ?_
              rintro _ _ ⟨hv27, rfl⟩
              rw [show ((.agg (hv (nodeL (getM m) 3 ((((q / 2) / 2) / 2) - 1)))) : Value) = (.agg (hv (pathL (getM m) q 3))) from by rw [path_odd (q := q) (h := 3) (at_ := (((q / 2) / 2) / 2)) (by omega) (by omega)]] at hv27; subst hv27
              refine m_st 1 0 ?_
              refine m_i 4 .i64 (IntKind.i64.wrap (((((q / 2) / 2) / 2 : Nat) : Int).tdiv ((2 : Nat) : Int))) (((((q / 2) / 2) / 2) / 2 : Nat) : Int) (quo_i64 (by omega)) ?_
              refine m_ld 25 3 ?_
              refine m_st 0 1 ?_
              exact m_retC 4 [4, 0] (.tuple #[(.agg ((⟨pathL (getM m) q 0, pathL (getM m) q 1, pathL (getM m) q 2, pathL (getM m) q 3⟩ : Path4).cells)), (.int .i64 0)]) [] ⟨(by rw [pathP_yes hq0 hq16, pathE_yes hpo]; first | done | kernel_rfl), by kernel_rfl⟩
      · -- no
        refine m_i64 5 (((q : Nat) : Int) - (1 : Int)) (q - 1) (by omega) ?_
        refine m_call 0 [] (rnode0_j rb m (q - 1) (by first | with_reducible assumption | omega | decide) (by omega)) (.cons 1 (.refl) (.cons 2 (.refl) .nil)) ?_
        rintro _ _ ⟨hv28, rfl⟩
        rw [show ((.agg (hv (nodeL (getM m) 0 (q - 1)))) : Value) = (.agg (hv (pathL (getM m) q 0))) from by rw [path_odd (q := q) (h := 0) (at_ := q) (by omega) (by omega)]] at hv28; subst hv28
        refine m_st 1 0 ?_
        refine m_i 4 .i64 (IntKind.i64.wrap (((q : Nat) : Int).tdiv ((2 : Nat) : Int))) ((q / 2 : Nat) : Int) (quo_i64 (by omega)) ?_
        refine m_rem 26 .i64 (q / 2) 2 ?_
        refine m_if 3 ((((q / 2) % 2 : Nat) : Int) = (0 : Int)) (fun c29 => ?_) (fun c29 => ?_)
        · -- yes
          refine m_i64 5 (((q / 2 : Nat) : Int) + (1 : Int)) ((q / 2) + 1) (by omega) ?_
          refine m_call 0 [] (rnode1_j rb m ((q / 2) + 1) (by first | with_reducible assumption | omega | decide) (by omega)) (.cons 1 (.refl) (.cons 2 (.refl) .nil)) ?_
          rintro _ _ ⟨hv30, rfl⟩
          rw [show ((.agg (hv (nodeL (getM m) 1 ((q / 2) + 1)))) : Value) = (.agg (hv (pathL (getM m) q 1))) from by rw [path_even (q := q) (h := 1) (at_ := (q / 2)) (by omega) (by omega)]] at hv30; subst hv30
          refine m_st 1 0 ?_
          refine m_i 4 .i64 (IntKind.i64.wrap (((q / 2 : Nat) : Int).tdiv ((2 : Nat) : Int))) (((q / 2) / 2 : Nat) : Int) (quo_i64 (by omega)) ?_
          refine m_rem 26 .i64 ((q / 2) / 2) 2 ?_
          refine m_if 3 (((((q / 2) / 2) % 2 : Nat) : Int) = (0 : Int)) (fun c31 => ?_) (fun c31 => ?_)
          · -- yes
            refine m_i64 5 ((((q / 2) / 2 : Nat) : Int) + (1 : Int)) (((q / 2) / 2) + 1) (by omega) ?_
            refine m_call 0 [] (rnode2_j rb m (((q / 2) / 2) + 1) (by first | with_reducible assumption | omega | decide) (by omega)) (.cons 1 (.refl) (.cons 2 (.refl) .nil)) ?_
            rintro _ _ ⟨hv32, rfl⟩
            rw [show ((.agg (hv (nodeL (getM m) 2 (((q / 2) / 2) + 1)))) : Value) = (.agg (hv (pathL (getM m) q 2))) from by rw [path_even (q := q) (h := 2) (at_ := ((q / 2) / 2)) (by omega) (by omega)]] at hv32; subst hv32
            refine m_st 1 0 ?_
            refine m_i 4 .i64 (IntKind.i64.wrap ((((q / 2) / 2 : Nat) : Int).tdiv ((2 : Nat) : Int))) ((((q / 2) / 2) / 2 : Nat) : Int) (quo_i64 (by omega)) ?_
            refine m_rem 26 .i64 (((q / 2) / 2) / 2) 2 ?_
            refine m_if 3 ((((((q / 2) / 2) / 2) % 2 : Nat) : Int) = (0 : Int)) (fun c33 => ?_) (fun c33 => ?_)
            · -- yes
              refine m_i64 5 (((((q / 2) / 2) / 2 : Nat) : Int) + (1 : Int)) ((((q / 2) / 2) / 2) + 1) (by omega) ?_
              refine m_call 0 [] (rnode3_j rb m ((((q / 2) / 2) / 2) + 1) (by first | with_reducible assumption | omega | decide) (by omega)) (.cons 1 (.refl) (.cons 2 (.refl) .nil)) ?_
              rintro _ _ ⟨hv34, rfl⟩
              rw [show ((.agg (hv (nodeL (getM m) 3 ((((q / 2) / 2) / 2) + 1)))) : Value) = (.agg (hv (pathL (getM m) q 3))) from by rw [path_even (q := q) (h := 3) (at_ := (((q / 2) / 2) / 2)) (by omega) (by omega)]] at hv34; subst hv34
              refine m_st 1 0 ?_
              refine m_i 4 .i64 (IntKind.i64.wrap (((((q / 2) / 2) / 2 : Nat) : Int).tdiv ((2 : Nat) : Int))) (((((q / 2) / 2) / 2) / 2 : Nat) : Int) (quo_i64 (by omega)) ?_
              refine m_ld 25 3 ?_
              refine m_st 0 1 ?_
              exact m_retC 4 [4, 0] (.tuple #[(.agg ((⟨pathL (getM m) q 0, pathL (getM m) q 1, pathL (getM m) q 2, pathL (getM m) q 3⟩ : Path4).cells)), (.int .i64 0)]) [] ⟨(by rw [pathP_yes hq0 hq16, pathE_yes hpo]; first | done | kernel_rfl), by kernel_rfl⟩
            · -- no
              refine m_i64 5 (((((q / 2) / 2) / 2 : Nat) : Int) - (1 : Int)) ((((q / 2) / 2) / 2) - 1) (by omega) ?_
              refine m_call 0 [] (rnode3_j rb m ((((q / 2) / 2) / 2) - 1) (by first | with_reducible assumption | omega | decide) (by omega)) (.cons 1 (.refl) (.cons 2 (.refl) .nil)) ?_
              rintro _ _ ⟨hv35, rfl⟩
              rw [show ((.agg (hv (nodeL (getM m) 3 ((((q / 2) / 2) / 2) - 1)))) : Value) = (.agg (hv (pathL (getM m) q 3))) from by rw [path_odd (q := q) (h := 3) (at_ := (((q / 2) / 2) / 2)) (by omega) (by omega)]] at hv35; subst hv35
              refine m_st 1 0 ?_
              refine m_i 4 .i64 (IntKind.i64.wrap (((((q / 2) / 2) / 2 : Nat) : Int).tdiv ((2 : Nat) : Int))) (((((q / 2) / 2) / 2) / 2 : Nat) : Int) (quo_i64 (by omega)) ?_
              refine m_ld 25 3 ?_
              refine m_st 0 1 ?_
              exact m_retC 4 [4, 0] (.tuple #[(.agg ((⟨pathL (getM m) q 0, pathL (getM m) q 1, pathL (getM m) q 2, pathL (getM m) q 3⟩ : Path4).cells)), (.int .i64 0)]) [] ⟨(by rw [pathP_yes hq0 hq16, pathE_yes hpo]; first | done | kernel_rfl), by kernel_rfl⟩
          · -- no
            refine m_i64 5 ((((q / 2) / 2 : Nat) : Int) - (1 : Int)) (((q / 2) / 2) - 1) (by omega) ?_
            refine m_call 0 [] (rnode2_j rb m (((q / 2) / 2) - 1) (by first | with_reducible assumption | omega | decide) (by omega)) (.cons 1 (.refl) (.cons 2 (.refl) .nil)) ?_
            rintro _ _ ⟨hv36, rfl⟩
            rw [show ((.agg (hv (nodeL (getM m) 2 (((q / 2) / 2) - 1)))) : Value) = (.agg (hv (pathL (getM m) q 2))) from by rw [path_odd (q := q) (h := 2) (at_ := ((q / 2) / 2)) (by omega) (by omega)]] at hv36; subst hv36
            refine m_st 1 0 ?_
            refine m_i 4 .i64 (IntKind.i64.wrap ((((q / 2) / 2 : Nat) : Int).tdiv ((2 : Nat) : Int))) ((((q / 2) / 2) / 2 : Nat) : Int) (quo_i64 (by omega)) ?_
            refine m_rem 26 .i64 (((q / 2) / 2) / 2) 2 ?_
            refine m_if 3 ((((((q / 2) / 2) / 2) % 2 : Nat) : Int) = (0 : Int)) (fun c37 => ?_) (fun c37 => ?_)
            · -- yes
              refine m_i64 5 (((((q / 2) / 2) / 2 : Nat) : Int) + (1 : Int)) ((((q / 2) / 2) / 2) + 1) (by omega) ?_
              refine m_call 0 [] (rnode3_j rb m ((((q / 2) / 2) / 2) + 1) (by first | with_reducible assumption | omega | decide) (by omega)) (.cons 1 (.refl) (.cons 2 (.refl) .nil)) ?_
              rintro _ _ ⟨hv38, rfl⟩
              rw [show ((.agg (hv (nodeL (getM m) 3 ((((q / 2) / 2) / 2) + 1)))) : Value) = (.agg (hv (pathL (getM m) q 3))) from by rw [path_even (q := q) (h := 3) (at_ := (((q / 2) / 2) / 2)) (by omega) (by omega)]] at hv38; subst hv38
              refine m_st 1 0 ?_
              refine m_i 4 .i64 (IntKind.i64.wrap (((((q / 2) / 2) / 2 : Nat) : Int).tdiv ((2 : Nat) : Int))) (((((q / 2) / 2) / 2) / 2 : Nat) : Int) (quo_i64 (by omega)) ?_
              refine m_ld 25 3 ?_
              refine m_st 0 1 ?_
              exact m_retC 4 [4, 0] (.tuple #[(.agg ((⟨pathL (getM m) q 0, pathL (getM m) q 1, pathL (getM m) q 2, pathL (getM m) q 3⟩ : Path4).cells)), (.int .i64 0)]) [] ⟨(by rw [pathP_yes hq0 hq16, pathE_yes hpo]; first | done | kernel_rfl), by kernel_rfl⟩
            · -- no
              refine m_i64 5 (((((q / 2) / 2) / 2 : Nat) : Int) - (1 : Int)) ((((q / 2) / 2) / 2) - 1) (by omega) ?_
              refine m_call 0 [] (rnode3_j rb m ((((q / 2) / 2) / 2) - 1) (by first | with_reducible assumption | omega | decide) (by omega)) (.cons 1 (.refl) (.cons 2 (.refl) .nil)) ?_
              rintro _ _ ⟨hv39, rfl⟩
              rw [show ((.agg (hv (nodeL (getM m) 3 ((((q / 2) / 2) / 2) - 1)))) : Value) = (.agg (hv (pathL (getM m) q 3))) from by rw [path_odd (q := q) (h := 3) (at_ := (((q / 2) / 2) / 2)) (by omega) (by omega)]] at hv39; subst hv39
              refine m_st 1 0 ?_
              refine m_i 4 .i64 (IntKind.i64.wrap (((((q / 2) / 2) / 2 : Nat) : Int).tdiv ((2 : Nat) : Int))) (((((q / 2) / 2) / 2) / 2 : Nat) : Int) (quo_i64 (by omega)) ?_
              refine m_ld 25 3 ?_
              refine m_st 0 1 ?_
              exact m_retC 4 [4, 0] (.tuple #[(.agg ((⟨pathL (getM m) q 0, pathL (getM m) q 1, pathL (getM m) q 2, pathL (getM m) q 3⟩ : Path4).cells)), (.int .i64 0)]) [] ⟨(by rw [pathP_yes hq0 hq16, pathE_yes hpo]; first | done | kernel_rfl), by kernel_rfl⟩
        · -- no
          refine m_i64 5 (((q / 2 : Nat) : Int) - (1 : Int)) ((q / 2) - 1) (by omega) ?_
          refine m_call 0 [] (rnode1_j rb m ((q / 2) - 1) (by first | with_reducible assumption | omega | decide) (by omega)) (.cons 1 (.refl) (.cons 2 (.refl) .nil)) ?_
          rintro _ _ ⟨hv40, rfl⟩
          rw [show ((.agg (hv (nodeL (getM m) 1 ((q / 2) - 1)))) : Value) = (.agg (hv (pathL (getM m) q 1))) from by rw [path_odd (q := q) (h := 1) (at_ := (q / 2)) (by omega) (by omega)]] at hv40; subst hv40
          refine m_st 1 0 ?_
          refine m_i 4 .i64 (IntKind.i64.wrap (((q / 2 : Nat) : Int).tdiv ((2 : Nat) : Int))) (((q / 2) / 2 : Nat) : Int) (quo_i64 (by omega)) ?_
          refine m_rem 26 .i64 ((q / 2) / 2) 2 ?_
          refine m_if 3 (((((q / 2) / 2) % 2 : Nat) : Int) = (0 : Int)) (fun c41 => ?_) (fun c41 => ?_)
          · -- yes
            refine m_i64 5 ((((q / 2) / 2 : Nat) : Int) + (1 : Int)) (((q / 2) / 2) + 1) (by omega) ?_
            refine m_call 0 [] (rnode2_j rb m (((q / 2) / 2) + 1) (by first | with_reducible assumption | omega | decide) (by omega)) (.cons 1 (.refl) (.cons 2 (.refl) .nil)) ?_
            rintro _ _ ⟨hv42, rfl⟩
            rw [show ((.agg (hv (nodeL (getM m) 2 (((q / 2) / 2) + 1)))) : Value) = (.agg (hv (pathL (getM m) q 2))) from by rw [path_even (q := q) (h := 2) (at_ := ((q / 2) / 2)) (by omega) (by omega)]] at hv42; subst hv42
            refine m_st 1 0 ?_
            refine m_i 4 .i64 (IntKind.i64.wrap ((((q / 2) / 2 : Nat) : Int).tdiv ((2 : Nat) : Int))) ((((q / 2) / 2) / 2 : Nat) : Int) (quo_i64 (by omega)) ?_
            refine m_rem 26 .i64 (((q / 2) / 2) / 2) 2 ?_
            refine m_if 3 ((((((q / 2) / 2) / 2) % 2 : Nat) : Int) = (0 : Int)) (fun c43 => ?_) (fun c43 => ?_)
            · -- yes
              refine m_i64 5 (((((q / 2) / 2) / 2 : Nat) : Int) + (1 : Int)) ((((q / 2) / 2) / 2) + 1) (by omega) ?_
              refine m_call 0 [] (rnode3_j rb m ((((q / 2) / 2) / 2) + 1) (by first | with_reducible assumption | omega | decide) (by omega)) (.cons 1 (.refl) (.cons 2 (.refl) .nil)) ?_
              rintro _ _ ⟨hv44, rfl⟩
              rw [show ((.agg (hv (nodeL (getM m) 3 ((((q / 2) / 2) / 2) + 1)))) : Value) = (.agg (hv (pathL (getM m) q 3))) from by rw [path_even (q := q) (h := 3) (at_ := (((q / 2) / 2) / 2)) (by omega) (by omega)]] at hv44; subst hv44
              refine m_st 1 0 ?_
              refine m_i 4 .i64 (IntKind.i64.wrap (((((q / 2) / 2) / 2 : Nat) : Int).tdiv ((2 : Nat) : Int))) (((((q / 2) / 2) / 2) / 2 : Nat) : Int) (quo_i64 (by omega)) ?_
              refine m_ld 25 3 ?_
              refine m_st 0 1 ?_
              exact m_retC 4 [4, 0] (.tuple #[(.agg ((⟨pathL (getM m) q 0, pathL (getM m) q 1, pathL (getM m) q 2, pathL (getM m) q 3⟩ : Path4).cells)), (.int .i64 0)]) [] ⟨(by rw [pathP_yes hq0 hq16, pathE_yes hpo]; first | done | kernel_rfl), by kernel_rfl⟩
            · -- no
              refine m_i64 5 (((((q / 2) / 2) / 2 : Nat) : Int) - (1 : Int)) ((((q / 2) / 2) / 2) - 1) (by omega) ?_
              refine m_call 0 [] (rnode3_j rb m ((((q / 2) / 2) / 2) - 1) (by first | with_reducible assumption | omega | decide) (by omega)) (.cons 1 (.refl) (.cons 2 (.refl) .nil)) ?_
              rintro _ _ ⟨hv45, rfl⟩
              rw [show ((.agg (hv (nodeL (getM m) 3 ((((q / 2) / 2) / 2) - 1)))) : Value) = (.agg (hv (pathL (getM m) q 3))) from by rw [path_odd (q := q) (h := 3) (at_ := (((q / 2) / 2) / 2)) (by omega) (by omega)]] at hv45; subst hv45
              refine m_st 1 0 ?_
              refine m_i 4 .i64 (IntKind.i64.wrap (((((q / 2) / 2) / 2 : Nat) : Int).tdiv ((2 : Nat) : Int))) (((((q / 2) / 2) / 2) / 2 : Nat) : Int) (quo_i64 (by omega)) ?_
              refine m_ld 25 3 ?_
              refine m_st 0 1 ?_
              exact m_retC 4 [4, 0] (.tuple #[(.agg ((⟨pathL (getM m) q 0, pathL (getM m) q 1, pathL (getM m) q 2, pathL (getM m) q 3⟩ : Path4).cells)), (.int .i64 0)]) [] ⟨(by rw [pathP_yes hq0 hq16, pathE_yes hpo]; first | done | kernel_rfl), by kernel_rfl⟩
          · -- no
            refine m_i64 5 ((((q / 2) / 2 : Nat) : Int) - (1 : Int)) (((q / 2) / 2) - 1) (by omega) ?_
            refine m_call 0 [] (rnode2_j rb m (((q / 2) / 2) - 1) (by first | with_reducible assumption | omega | decide) (by omega)) (.cons 1 (.refl) (.cons 2 (.refl) .nil)) ?_
            rintro _ _ ⟨hv46, rfl⟩
            rw [show ((.agg (hv (nodeL (getM m) 2 (((q / 2) / 2) - 1)))) : Value) = (.agg (hv (pathL (getM m) q 2))) from by rw [path_odd (q := q) (h := 2) (at_ := ((q / 2) / 2)) (by omega) (by omega)]] at hv46; subst hv46
            refine m_st 1 0 ?_
            refine m_i 4 .i64 (IntKind.i64.wrap ((((q / 2) / 2 : Nat) : Int).tdiv ((2 : Nat) : Int))) ((((q / 2) / 2) / 2 : Nat) : Int) (quo_i64 (by omega)) ?_
            refine m_rem 26 .i64 (((q / 2) / 2) / 2) 2 ?_
            refine m_if 3 ((((((q / 2) / 2) / 2) % 2 : Nat) : Int) = (0 : Int)) (fun c47 => ?_) (fun c47 => ?_)
            · -- yes
              refine m_i64 5 (((((q / 2) / 2) / 2 : Nat) : Int) + (1 : Int)) ((((q / 2) / 2) / 2) + 1) (by omega) ?_
              refine m_call 0 [] (rnode3_j rb m ((((q / 2) / 2) / 2) + 1) (by first | with_reducible assumption | omega | decide) (by omega)) (.cons 1 (.refl) (.cons 2 (.refl) .nil)) ?_
              rintro _ _ ⟨hv48, rfl⟩
              rw [show ((.agg (hv (nodeL (getM m) 3 ((((q / 2) / 2) / 2) + 1)))) : Value) = (.agg (hv (pathL (getM m) q 3))) from by rw [path_even (q := q) (h := 3) (at_ := (((q / 2) / 2) / 2)) (by omega) (by omega)]] at hv48; subst hv48
              refine m_st 1 0 ?_
              refine m_i 4 .i64 (IntKind.i64.wrap (((((q / 2) / 2) / 2 : Nat) : Int).tdiv ((2 : Nat) : Int))) (((((q / 2) / 2) / 2) / 2 : Nat) : Int) (quo_i64 (by omega)) ?_
              refine m_ld 25 3 ?_
              refine m_st 0 1 ?_
              exact m_retC 4 [4, 0] (.tuple #[(.agg ((⟨pathL (getM m) q 0, pathL (getM m) q 1, pathL (getM m) q 2, pathL (getM m) q 3⟩ : Path4).cells)), (.int .i64 0)]) [] ⟨(by rw [pathP_yes hq0 hq16, pathE_yes hpo]; first | done | kernel_rfl), by kernel_rfl⟩
            · -- no
              refine m_i64 5 (((((q / 2) / 2) / 2 : Nat) : Int) - (1 : Int)) ((((q / 2) / 2) / 2) - 1) (by omega) ?_
              refine m_call 0 [] (rnode3_j rb m ((((q / 2) / 2) / 2) - 1) (by first | with_reducible assumption | omega | decide) (by omega)) (.cons 1 (.refl) (.cons 2 (.refl) .nil)) ?_
              rintro _ _ ⟨hv49, rfl⟩
              rw [show ((.agg (hv (nodeL (getM m) 3 ((((q / 2) / 2) / 2) - 1)))) : Value) = (.agg (hv (pathL (getM m) q 3))) from by rw [path_odd (q := q) (h := 3) (at_ := (((q / 2) / 2) / 2)) (by omega) (by omega)]] at hv49; subst hv49
              refine m_st 1 0 ?_
              refine m_i 4 .i64 (IntKind.i64.wrap (((((q / 2) / 2) / 2 : Nat) : Int).tdiv ((2 : Nat) : Int))) (((((q / 2) / 2) / 2) / 2 : Nat) : Int) (quo_i64 (by omega)) ?_
              refine m_ld 25 3 ?_
              refine m_st 0 1 ?_
              exact m_retC 4 [4, 0] (.tuple #[(.agg ((⟨pathL (getM m) q 0, pathL (getM m) q 1, pathL (getM m) q 2, pathL (getM m) q 3⟩ : Path4).cells)), (.int .i64 0)]) [] ⟨(by rw [pathP_yes hq0 hq16, pathE_yes hpo]; first | done | kernel_rfl), by kernel_rfl⟩

end Go.Proofs.YtokdfjelilhekaaDoor
