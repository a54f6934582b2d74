/- Layer 13 by the document. -/
import Derived.Test.YtinmmamnldephaaGreatDoorL13
import Derived.Test.YtinmmamnldephaaGreatDoorRC
import Derived.Test.YtinmmamnldephaaGreatDoorLib5
import Derived.Test.YtinmmamnldephaaGreatDoorLib7
import Derived.Test.YtinmmamnldephaaGreatDoorLib8
namespace Go.Proofs.YtinmmamnldephaaGreatDoor
open Go Go.RowKit Go.Alm
set_option maxRecDepth 100000 in
theorem chooseTells_j (a : SState) (b : SState) (ao : Option Addr) (cap : Nat) (l : List SState) (ha : SState.Ok a) (hb : SState.Ok b) (hl : AllS l) (hn : l.length ≤ 9223372036854775807) :
    Does Tryz.prog 3 #[(.agg (a.cells)), (.agg (b.cells)), (.slice ao l.length cap)] [(.rd ao (RL SState.cells l)), (.rd (some ⟨1, 0, none⟩) ((hw KL).toList)), (.rd (some ⟨0, 0, none⟩) ((hw KL).toList))] [] (fun v H => v = (.bool true) ∧ H = []) := by
  have hha_slot := ha.slot; have hha_len := ha.len; have hha_count := ha.count; have hha_win_min := ha.win.min; have hha_win_ring_last := ha.win.ring.last; have hha_win_ring_counts := ha.win.ring.counts; have hha_eps_now_len := ha.eps.now.len; have hha_eps_next_len := ha.eps.next.len; have hhb_slot := hb.slot; have hhb_len := hb.len; have hhb_count := hb.count; have hhb_win_min := hb.win.min; have hhb_win_ring_last := hb.win.ring.last; have hhb_win_ring_counts := hb.win.ring.counts; have hhb_eps_now_len := hb.eps.now.len; have hhb_eps_next_len := hb.eps.next.len
  refine m_fn fun F => ?_
  refine m_new 2 fun b1 => ?_
  refine m_new 0 fun b2 => ?_
  refine m_call 6 [] (awake13_j) (.cons 3 (.refl) .nil) ?_
  rintro _ _ ⟨rfl, rfl⟩
  refine m_ldW 9 5 b1 35 363 (a.cells) (SState.size _) ?_
  refine m_ldW 0 4 b2 35 363 (b.cells) (SState.size _) ?_
  refine m_slit 0 35 363 SState.cells [a, b] SState.size fun b3 => ?_
  refine m_call 0 [] (right13_j (some ⟨b3, 0, none⟩) 2 [a, b] (by intro x hx; simp only [List.mem_cons, List.not_mem_nil, or_false] at hx; rcases hx with rfl | rfl; exact ha; exact hb) (by simp)) (.cons 4 (.rd) .nil) ?_
  rintro _ _ ⟨rfl, rfl⟩
  refine m_spb 1 (!(rightL [a, b])) (fun c4 => ?_) (fun c4 => ?_)
  · -- yes
    exact m_ret 14 (.bool true) [] ⟨(rfl), by kernel_rfl⟩
  · -- no
    have hr2 : rightL [a, b] = true := by simpa using c4
    have hRa := (rightL_2 hr2).1; have hRb := (rightL_2 hr2).2
    refine m_call 1 [] (right13_j ao cap l (hl) (hn)) (.cons 1 (.refl) .nil) ?_
    rintro _ _ ⟨rfl, rfl⟩
    refine m_ifb 4 (!(rightL l)) (fun c5 => ?_) (fun c5 => ?_)
    · -- yes
      exact m_ret 7 (.bool true) [] ⟨(rfl), by kernel_rfl⟩
    · -- no
      have hr3 : rightL l = true := by simpa using c5
      obtain ⟨hlR, hn20⟩ := rightL_all hr3
      refine m_ldW 4 6 b1 35 363 (a.cells) (SState.size _) ?_
      refine m_ldW 0 5 b2 35 363 (b.cells) (SState.size _) ?_
      refine m_call 0 [] (den_j a b ha hb (by first | with_reducible assumption | omega | decide) (by first | with_reducible assumption | omega | decide)) .nil ?_
      rintro _ _ ⟨rfl, rfl⟩
      refine m_plan 8 [1, 2] (.q 0 true (.q 2 true (.e 1 (.e 3 (.e 4 (.q 5 false (.q 6 false (.q 7 false (.q 8 false (.q 9 false .n)))))))))) [2, 1] ?_
      refine m_ldW 0 4 b1 35 363 (a.cells) (SState.size _) ?_
      refine m_ldW 0 5 b2 35 363 (b.cells) (SState.size _) ?_
      refine m_call 0 [] (own13_j a ha) .nil ?_
      rintro _ _ ⟨rfl, rfl⟩
      refine m_thaw 0 ?_
      refine m_call 0 [] (own13_j b hb) .nil ?_
      rintro _ _ ⟨rfl, rfl⟩
      refine m_call 0 [] (rden_j a b ha hb (by first | with_reducible assumption | omega | decide) (by first | with_reducible assumption | omega | decide)) .nil ?_
      rintro _ _ ⟨rfl, rfl⟩
      refine m_thaw 6 ?_
      refine m_new 3 fun b6 => ?_
      refine m_view 0 _ (.made 49 363 0 0 (RL SState.cells [])) ?_
      refine m_loop (X := Nat × Option Addr × Nat × List SState) 12 [2, 3, 4, 7, 8, 9, 10, 45, 46] (fun (x : Nat × Option Addr × Nat × List SState) => [(11, (.slice x.2.1 x.2.2.2.length x.2.2.1)), (47, (.int .i64 ((x.1 : Nat) : Int)))]) [0] (fun (x : Nat × Option Addr × Nat × List SState) => [(.row 49 363 x.2.1 x.2.2.2.length x.2.2.1 (RL SState.cells x.2.2.2))]) (fun (x : Nat × Option Addr × Nat × List SState) => (x.1 ≤ l.length) ∧ (x.2.2.2 = l.take x.1)) (fun (x : Nat × Option Addr × Nat × List SState) => l.length - x.1) (0, (some ⟨b6, 0, none⟩), 0, []) (⟨Nat.zero_le _, rfl⟩) (fun x u7 hx => ?_)
      obtain ⟨i, ao', cp, m⟩ := x; dsimp only at hx
      obtain ⟨hi, hm⟩ := hx
      have hml : m.length = i := by rw [hm, List.length_take]; omega
      refine m_if 6 (((i : Nat) : Int) < ((l.length : Nat) : Int)) (fun c8 => ?_) (fun c8 => ?_)
      · -- yes
        refine m_ix 6 1 363 l.length i (RL SState.cells l) .i64 (by omega) (by rw [RL_length SState.size]; omega) ?_
        refine m_lxN 0 1 (i * 363) 363 (RL SState.cells l) ((l.getD i default).cells) (RL_whole (f := SState.cells) (sz := 363) (l := l) (k := i) SState.size default (by omega)) (SState.size _) ?_
        refine m_new 0 fun b9 => ?_
        refine m_stW 0 0 363 ((l.getD i default).cells) (SState.size _) (SState.ones _) ?_
        refine m_ldW 4 4 b9 35 363 ((l.getD i default).cells) (SState.size _) ?_
        refine m_call 0 [] (own13_j (l.getD i default) (AllS.get hl (by omega))) .nil ?_
        rintro _ _ ⟨rfl, rfl⟩
        refine m_slit 0 49 363 SState.cells [l.getD i default] SState.size fun b10 => ?_
        refine m_appR 0 2 49 363 396 SState.cells m (l.getD i default) ((SrcW.cut 4 0 1 1).news (by kernel_rfl)) (⟨(by simp only [maxLen]; omega), (by omega)⟩) fun ao11 cap12 => ?_
        refine m_i64 5 (((i : Nat) : Int) + (1 : Int)) (i + 1) (by omega) ?_
        exact m_back 2 (i + 1, ao11, cap12, m ++ [l.getD i default]) [2, 2, 2, 2] ⟨⟨(by omega), (by rw [hm, take_snocD (by omega)])⟩, (by omega)⟩
      · -- no
        refine m_ldW 7 5 b1 35 363 (a.cells) (SState.size _) ?_
        refine m_call 1 [] (fold_j a ao cap l ha (hRa) (hl) (hlR) (by omega)) (.cons 1 (.refl) (.cons 3 (.refl) .nil)) ?_
        refine bind_var (foldS a l 0).1 fun t ht' => ?_
        refine bind_var (foldS a l 0).2 fun n hn' => ?_
        obtain ⟨okt, _, _⟩ := foldS_spec l a 0 ha hRa hl hlR; rw [← ht'] at okt
        rintro _ _ ⟨hv13, rfl⟩
        rw [show ((.tuple #[(.agg (((foldS a l 0).1).cells)), (.int .i64 (((foldS a l 0).2 : Nat) : Int))]) : Value) = (.tuple #[(.agg (t.cells)), (.int .i64 ((n : Nat) : Int))]) from by rw [ht', hn']] at hv13; subst hv13
        refine m_new 3 fun b14 => ?_
        refine m_stW 0 0 363 (t.cells) (SState.size _) (SState.ones _) ?_
        refine m_ldW 5 6 b1 35 363 (a.cells) (SState.size _) ?_
        refine m_call 0 [] (own13_j a ha) .nil ?_
        rintro _ _ ⟨rfl, rfl⟩
        refine m_call 1 [] (rfold_j a ao' cp m ha (hRa) (by rw [hm]; exact fun x hx => hl x (List.mem_of_mem_take hx)) (by rw [hm]; exact fun x hx => hlR x (List.mem_of_mem_take hx)) (by omega)) (.cons 5 (.rd) (.cons 2 (.refl) .nil)) ?_
        rintro _ _ ⟨hv15, rfl⟩
        rw [show ((.tuple #[(.agg (((foldS a m 0).1).cells)), (.int .i64 (((foldS a m 0).2 : Nat) : Int))]) : Value) = (.tuple #[(.agg (t.cells)), (.int .i64 ((n : Nat) : Int))]) from by rw [show m = l from by rw [hm, show i = l.length from by omega, List.take_length], ht', hn']] at hv15; subst hv15
        refine m_new 3 fun b16 => ?_
        refine m_stW 0 0 363 (t.cells) (SState.size _) (SState.ones _) ?_
        refine m_plan 4 [1, 2, 3, 4, 5, 21, 22, 23, 24, 25, 32, 33, 37, 38, 39, 40] (.q 0 true (.q 1 true (.q 3 true (.q 5 true (.e 2 (.e 4 (.e 6 (.e 7 (.q 8 false (.q 9 false (.q 10 false (.q 11 false (.q 12 false (.q 13 false (.q 14 false (.q 15 false (.q 16 false (.q 17 false (.q 18 false (.q 19 false (.q 20 true (.q 21 true (.q 23 true (.q 25 true (.e 22 (.e 24 (.e 26 (.e 27 (.q 28 false (.q 29 false (.q 30 false (.q 31 true (.q 33 true (.e 32 (.q 34 false (.q 35 false (.q 36 false (.q 37 false (.q 38 false (.q 39 false (.q 40 false (.q 41 false .n)))))))))))))))))))))))))))))))))))))))))) [3, 3, 1, 0] ?_
        refine m_ldW 0 4 b1 35 363 (a.cells) (SState.size _) ?_
        refine m_ldW 0 5 b2 35 363 (b.cells) (SState.size _) ?_
        refine m_ldW 0 4 b1 35 363 (a.cells) (SState.size _) ?_
        refine m_ldW 0 5 b2 35 363 (b.cells) (SState.size _) ?_
        refine m_call 0 [] (near_j a b ha hb) .nil ?_
        rintro _ _ ⟨rfl, rfl⟩
        refine m_call 0 [] (own13_j a ha) .nil ?_
        rintro _ _ ⟨rfl, rfl⟩
        refine m_call 0 [] (own13_j b hb) .nil ?_
        rintro _ _ ⟨rfl, rfl⟩
        refine m_call 0 [] (rnear_j a b ha hb) .nil ?_
        rintro _ _ ⟨rfl, rfl⟩
        refine m_spb 1 ((decide (nearQ a b)) == (decide (nearQ a b))) (fun c17 => ?_) (fun c17 => absurd (c17.symm.trans (beq_self_eq_true _)) (by decide))
        refine m_as 2 (.bool (decide (((denA a b : Nat) : Int) = ((denA a b : Nat) : Int)))) (.bool true) (by rw [decide_eq_true rfl]) ?_
        refine m_as 4 (.bool (decide (((denA b a : Nat) : Int) = ((denA b a : Nat) : Int)))) (.bool true) (by rw [decide_eq_true rfl]) ?_
        refine m_ldW 2 4 b1 35 363 (a.cells) (SState.size _) ?_
        refine m_ldW 0 5 b2 35 363 (b.cells) (SState.size _) ?_
        refine m_ldW 0 4 b1 35 363 (a.cells) (SState.size _) ?_
        refine m_ldW 0 5 b2 35 363 (b.cells) (SState.size _) ?_
        refine m_call 0 [] (wins_j a b ha hb (by first | with_reducible assumption | omega | decide) (by first | with_reducible assumption | omega | decide)) (.cons 3 (.refl) .nil) ?_
        rintro _ _ ⟨rfl, rfl⟩
        refine m_call 0 [] (own13_j a ha) .nil ?_
        rintro _ _ ⟨rfl, rfl⟩
        refine m_call 0 [] (own13_j b hb) .nil ?_
        rintro _ _ ⟨rfl, rfl⟩
        refine m_call 0 [] (rwins_j a b ha hb (by first | with_reducible assumption | omega | decide) (by first | with_reducible assumption | omega | decide)) (.cons 2 (.refl) .nil) ?_
        rintro _ _ ⟨rfl, rfl⟩
        refine m_spb 2 ((decide (winsQ a b)) == (decide (winsQ a b))) (fun c18 => ?_) (fun c18 => absurd (c18.symm.trans (beq_self_eq_true _)) (by decide))
        refine m_ldW 0 6 b14 35 363 (t.cells) (SState.size _) ?_
        refine m_ldW 0 7 b16 49 363 (t.cells) (SState.size _) ?_
        refine m_call 0 [] (own13_j t okt) .nil ?_
        rintro _ _ ⟨rfl, rfl⟩
        refine m_eqT 0 true (t.cells) (SState.wf okt) ?_
        refine m_as 4 (.bool (decide (((n : Nat) : Int) = ((n : Nat) : Int)))) (.bool true) (by rw [decide_eq_true rfl]) ?_
        refine m_thaw 3 ?_
        exact m_ret 2 (.bool true) [] ⟨(rfl), by kernel_rfl⟩

end Go.Proofs.YtinmmamnldephaaGreatDoor
