/- Layer 12's laws. -/
import Derived.Test.YtmnehhpfbmoahaaDoorOJ
namespace Go.Proofs.YtmnehhpfbmoahaaDoor
open Go Go.RowKit Go.Alm
set_option maxRecDepth 100000 in
theorem own12_j (s : SState) (hs : SState.Ok s) :
    Does Tryd.prog 52 #[(.agg (s.cells))] [] [] (fun v H => v = (.agg (s.cells)) ∧ H = []) := by
  have hhs_slot := hs.slot; have hhs_len := hs.len; have hhs_count := hs.count; have hhs_win_min := hs.win.min; have hhs_win_ring_last := hs.win.ring.last; have hhs_win_ring_counts := hs.win.ring.counts; have hhs_eps_now_len := hs.eps.now.len; have hhs_eps_next_len := hs.eps.next.len
  refine m_fn fun F => ?_
  refine m_new 2 fun b1 => ?_
  refine m_new 0 fun b2 => ?_
  refine m_ld 5 2 ?_
  refine m_ld 1 2 ?_
  refine m_ld 1 2 ?_
  refine m_ld 1 2 ?_
  refine m_ld 1 2 ?_
  refine m_ld 1 2 ?_
  refine m_ld 2 2 ?_
  refine m_ld 2 2 ?_
  refine m_ld 3 2 ?_
  refine m_ld 2 2 ?_
  refine m_st 2 0 ?_
  exact m_retC 3 [1] (.agg (s.cells)) [] ⟨(rfl), by kernel_rfl⟩

set_option maxRecDepth 100000 in
theorem awake12_j :
    Does Tryd.prog 49 #[] [(.rd (some ⟨1, 0, none⟩) ((hw KL).toList))] [] (fun v H => v = (.bool true) ∧ H = []) := by
  refine m_fn fun F => ?_
  refine m_new 9 fun b1 => ?_
  refine m_st 0 0 ?_
  refine m_new 6 fun b2 => ?_
  refine m_st 0 0 ?_
  refine m_new 7 fun b3 => ?_
  refine m_st 0 0 ?_
  refine m_call 5 [] (stateG_j (hlit 3) (hlit_ok (n := 3) (by decide))) .nil ?_
  rintro _ _ ⟨rfl, rfl⟩
  refine m_call 0 [] (kof_j (stateF (hlit 3)) (stateF_ok (hlit_ok (n := 3) (by decide)))) (.cons 1 (.refl) .nil) ?_
  rintro _ _ ⟨rfl, rfl⟩
  refine m_new 0 fun b4 => ?_
  refine m_st 0 0 ?_
  refine m_ld 4 5 ?_
  refine m_ld 0 4 ?_
  refine m_call 0 [] (ocmp_j (⟨5, (hlit 9), Z32⟩ : OKey) (⟨6, (hlit 1), Z32⟩ : OKey) ⟨(by first | omega | decide | exact nar_lt _ | with_reducible assumption | (dsimp only; first | omega | exact nar_lt _)), (hlit_ok (n := 9) (by decide)), H32.zero⟩ ⟨(by first | omega | decide | exact nar_lt _ | with_reducible assumption | (dsimp only; first | omega | exact nar_lt _)), (hlit_ok (n := 1) (by decide)), H32.zero⟩) .nil ?_
  rintro _ _ ⟨hv5, rfl⟩
  rw [show ((.int .i64 (cmpK (⟨5, (hlit 9), Z32⟩ : OKey) (⟨6, (hlit 1), Z32⟩ : OKey))) : Value) = (.int .i64 (-1)) from by kernel_rfl] at hv5; subst hv5
  refine m_ld 2 3 ?_
  refine m_ld 0 4 ?_
  refine m_call 0 [] (ocmp_j (⟨6, (hlit 1), ([0, 1, 0, 0, 0, 0, 0, 0, 0, 0, 0, 0, 0, 0, 0, 0, 0, 0, 0, 0, 0, 0, 0, 0, 0, 0, 0, 0, 0, 0, 0, 0] : List Nat)⟩ : OKey) (⟨6, (hlit 1), Z32⟩ : OKey) ⟨(by first | omega | decide | exact nar_lt _ | with_reducible assumption | (dsimp only; first | omega | exact nar_lt _)), (hlit_ok (n := 1) (by decide)), (h32lit (by kernel_rfl))⟩ ⟨(by first | omega | decide | exact nar_lt _ | with_reducible assumption | (dsimp only; first | omega | exact nar_lt _)), (hlit_ok (n := 1) (by decide)), H32.zero⟩) .nil ?_
  rintro _ _ ⟨hv6, rfl⟩
  rw [show ((.int .i64 (cmpK (⟨6, (hlit 1), ([0, 1, 0, 0, 0, 0, 0, 0, 0, 0, 0, 0, 0, 0, 0, 0, 0, 0, 0, 0, 0, 0, 0, 0, 0, 0, 0, 0, 0, 0, 0, 0] : List Nat)⟩ : OKey) (⟨6, (hlit 1), Z32⟩ : OKey))) : Value) = (.int .i64 1) from by kernel_rfl] at hv6; subst hv6
  refine m_ld 3 4 ?_
  refine m_ld 0 4 ?_
  refine m_call 0 [] (ocmp_j (⟨6, (hlit 1), Z32⟩ : OKey) (⟨6, (hlit 1), Z32⟩ : OKey) ⟨(by first | omega | decide | exact nar_lt _ | with_reducible assumption | (dsimp only; first | omega | exact nar_lt _)), (hlit_ok (n := 1) (by decide)), H32.zero⟩ ⟨(by first | omega | decide | exact nar_lt _ | with_reducible assumption | (dsimp only; first | omega | exact nar_lt _)), (hlit_ok (n := 1) (by decide)), H32.zero⟩) .nil ?_
  rintro _ _ ⟨hv7, rfl⟩
  rw [show ((.int .i64 (cmpK (⟨6, (hlit 1), Z32⟩ : OKey) (⟨6, (hlit 1), Z32⟩ : OKey))) : Value) = (.int .i64 0) from by kernel_rfl] at hv7; subst hv7
  refine m_ld 3 5 ?_
  refine m_ld 0 3 ?_
  refine m_ld 0 4 ?_
  refine m_ld 0 3 ?_
  refine m_new 0 fun b8 => ?_
  refine m_call 0 [] (great_j (some ⟨b8, 0, none⟩) 4 [(⟨5, (hlit 9), Z32⟩ : OKey), (⟨6, (hlit 1), ([0, 1, 0, 0, 0, 0, 0, 0, 0, 0, 0, 0, 0, 0, 0, 0, 0, 0, 0, 0, 0, 0, 0, 0, 0, 0, 0, 0, 0, 0, 0, 0] : List Nat)⟩ : OKey), (⟨6, (hlit 1), Z32⟩ : OKey), (⟨6, (hlit 1), ([0, 1, 0, 0, 0, 0, 0, 0, 0, 0, 0, 0, 0, 0, 0, 0, 0, 0, 0, 0, 0, 0, 0, 0, 0, 0, 0, 0, 0, 0, 0, 0] : List Nat)⟩ : OKey)] (by intro x hx; first | exact absurd hx List.not_mem_nil | skip; simp only [List.mem_cons, List.not_mem_nil, or_false] at hx; rcases hx with rfl | rfl | rfl | rfl <;> exact ⟨by decide, h32lit (by kernel_rfl), h32lit (by kernel_rfl)⟩) (by first | with_reducible assumption | omega | decide)) (.cons 2 (.rd) .nil) ?_
  rintro _ _ ⟨hv9, rfl⟩
  rw [show ((.int .i64 (grtN [(⟨5, (hlit 9), Z32⟩ : OKey), (⟨6, (hlit 1), ([0, 1, 0, 0, 0, 0, 0, 0, 0, 0, 0, 0, 0, 0, 0, 0, 0, 0, 0, 0, 0, 0, 0, 0, 0, 0, 0, 0, 0, 0, 0, 0] : List Nat)⟩ : OKey), (⟨6, (hlit 1), Z32⟩ : OKey), (⟨6, (hlit 1), ([0, 1, 0, 0, 0, 0, 0, 0, 0, 0, 0, 0, 0, 0, 0, 0, 0, 0, 0, 0, 0, 0, 0, 0, 0, 0, 0, 0, 0, 0, 0, 0] : List Nat)⟩ : OKey)] [(⟨5, (hlit 9), Z32⟩ : OKey), (⟨6, (hlit 1), ([0, 1, 0, 0, 0, 0, 0, 0, 0, 0, 0, 0, 0, 0, 0, 0, 0, 0, 0, 0, 0, 0, 0, 0, 0, 0, 0, 0, 0, 0, 0, 0] : List Nat)⟩ : OKey), (⟨6, (hlit 1), Z32⟩ : OKey), (⟨6, (hlit 1), ([0, 1, 0, 0, 0, 0, 0, 0, 0, 0, 0, 0, 0, 0, 0, 0, 0, 0, 0, 0, 0, 0, 0, 0, 0, 0, 0, 0, 0, 0, 0, 0] : List Nat)⟩ : OKey)].length)) : Value) = (.int .i64 1) from by kernel_rfl] at hv9; subst hv9
  refine m_call 3 [] (great_j none 0 [] (by intro x hx; first | exact absurd hx List.not_mem_nil | skip; simp only [List.mem_cons, List.not_mem_nil, or_false] at hx; rcases hx with rfl | rfl | rfl | rfl <;> exact ⟨by decide, h32lit (by kernel_rfl), h32lit (by kernel_rfl)⟩) (by first | with_reducible assumption | omega | decide)) (.cons 999 (.refl) .nil) ?_
  rintro _ _ ⟨hv10, rfl⟩
  rw [show ((.int .i64 (grtN [] [].length)) : Value) = (.int .i64 (-1)) from by kernel_rfl] at hv10; subst hv10
  refine m_ld 4 3 ?_
  refine m_sp 2 ((((stateF (hlit 3)).len : Nat) : Int) = (1 : Int)) (fun c11 => ?_) (fun c11 => absurd (rfl) c11)
  refine m_call 2 [] (hashes_j (hlit 1) ([0, 255, 0, 0, 0, 0, 0, 0, 0, 0, 0, 0, 0, 0, 0, 0, 0, 0, 0, 0, 0, 0, 0, 0, 0, 0, 0, 0, 0, 0, 0, 0] : List Nat) (hlit_ok (n := 1) (by decide)) (h32lit (by kernel_rfl))) .nil ?_
  rintro _ _ ⟨hv12, rfl⟩
  rw [show ((.int .i64 (cmpL (hlit 1) ([0, 255, 0, 0, 0, 0, 0, 0, 0, 0, 0, 0, 0, 0, 0, 0, 0, 0, 0, 0, 0, 0, 0, 0, 0, 0, 0, 0, 0, 0, 0, 0] : List Nat))) : Value) = (.int .i64 1) from by kernel_rfl] at hv12; subst hv12
  exact m_ret 6 (.bool true) [] ⟨(rfl), by kernel_rfl⟩

set_option maxRecDepth 100000 in
theorem orderTells_j (s : SState) (a : OKey) (b : OKey) (ao : Option Addr) (cap : Nat) (l : List OKey) (hs : SState.Ok s) (ha : OKey.Ok a) (hb : OKey.Ok b) (hl : AllOk l) (hn : l.length ≤ 9223372036854775807) :
    Does Tryd.prog 11 #[(.agg (s.cells)), (.agg (a.cells)), (.agg (b.cells)), (.slice ao l.length cap)] [(.rd ao (RL OKey.cells l)), (.rd (some ⟨0, 0, none⟩) ((hw KL).toList)), (.rd (some ⟨1, 0, none⟩) ((hw KL).toList))] [] (fun v H => v = (.bool true) ∧ H = []) := by
  have hhs_slot := hs.slot; have hhs_len := hs.len; have hhs_count := hs.count; have hhs_win_min := hs.win.min; have hhs_win_ring_last := hs.win.ring.last; have hhs_win_ring_counts := hs.win.ring.counts; have hhs_eps_now_len := hs.eps.now.len; have hhs_eps_next_len := hs.eps.next.len; have hha_len := ha.len; have hhb_len := hb.len
  refine m_fn fun F => ?_
  refine m_new 2 fun b1 => ?_
  refine m_new 0 fun b2 => ?_
  refine m_new 0 fun b3 => ?_
  refine m_call 6 [] (awake12_j) (.cons 3 (.refl) .nil) ?_
  rintro _ _ ⟨rfl, rfl⟩
  refine m_if 14 (((l.length : Nat) : Int) > (40 : Int)) (fun c4 => ?_) (fun c4 => ?_)
  · -- yes
    exact m_ret 7 (.bool true) [] ⟨(rfl), by kernel_rfl⟩
  · -- no
    refine m_new 4 fun b5 => ?_
    refine m_view 0 _ (.made 106 65 0 0 (RL OKey.cells [])) ?_
    refine m_loop (X := Nat × Option Addr × Nat × List OKey) 12 [3, 4, 5, 6, 18, 19] (fun (x : Nat × Option Addr × Nat × List OKey) => [(9, (.slice x.2.1 x.2.2.2.length x.2.2.1)), (20, (.int .i64 ((x.1 : Nat) : Int)))]) [0] (fun (x : Nat × Option Addr × Nat × List OKey) => [(.row 106 65 x.2.1 x.2.2.2.length x.2.2.1 (RL OKey.cells x.2.2.2))]) (fun (x : Nat × Option Addr × Nat × List OKey) => (x.1 ≤ l.length) ∧ (x.2.2.2 = l.take x.1)) (fun (x : Nat × Option Addr × Nat × List OKey) => l.length - x.1) (0, (some ⟨b5, 0, none⟩), 0, []) (⟨Nat.zero_le _, rfl⟩) (fun x u6 hx => ?_)
    obtain ⟨i, ao', cp, m⟩ := x; dsimp only at hx
    obtain ⟨hi, hm⟩ := hx
    have hml : m.length = i := by rw [hm, List.length_take]; omega
    refine m_if 6 (((i : Nat) : Int) < ((l.length : Nat) : Int)) (fun c7 => ?_) (fun c7 => ?_)
    · -- yes
      refine m_ix 6 1 65 l.length i (RL OKey.cells l) .i64 (by omega) (by rw [RL_length OKey.size]; omega) ?_
      refine m_lxN 0 1 (i * 65) 65 (RL OKey.cells l) ((l.getD i default).cells) (RL_whole (f := OKey.cells) (sz := 65) (l := l) (k := i) OKey.size default (by omega)) (OKey.size _) ?_
      refine m_new 0 fun b8 => ?_
      refine m_st 0 0 ?_
      refine m_ld 4 4 ?_
      refine m_new 0 fun b9 => ?_
      refine m_appR 0 2 106 65 68 OKey.cells m (l.getD i default) ((SrcW.cut 4 0 1 1).news (by kernel_rfl)) (⟨(by simp only [maxLen]; omega), (by omega)⟩) fun ao10 cap11 => ?_
      refine m_i64 5 (((i : Nat) : Int) + (1 : Int)) (i + 1) (by omega) ?_
      exact m_back 2 (i + 1, ao10, cap11, m ++ [l.getD i default]) [2, 2, 2, 2] ⟨⟨(by omega), (by rw [hm, take_snocD (by omega)])⟩, (by omega)⟩
    · -- no
      refine m_plan 6 [1, 2, 8, 9, 10, 11, 18, 19, 20, 21, 22, 23, 24] (.q 0 true (.q 2 true (.e 1 (.e 3 (.e 4 (.q 5 false (.q 6 false (.q 7 true (.q 8 true (.q 10 true (.q 11 true (.e 9 (.e 12 (.q 13 false (.q 14 false (.q 15 false (.q 16 false (.q 17 true (.q 18 false (.q 19 true (.q 21 false (.q 22 true (.q 23 false (.q 24 true (.e 20 (.e 25 (.q 26 false (.q 27 false (.q 28 false (.q 29 false (.q 31 false (.e 30 (.e 32 (.q 33 false (.q 34 false (.q 35 false .n)))))))))))))))))))))))))))))))))))) [3, 2, 1] ?_
      refine m_ld 0 4 ?_
      refine m_ld 0 4 ?_
      refine m_call 0 [] (kof_j s hs) (.cons 3 (.refl) .nil) ?_
      rintro _ _ ⟨rfl, rfl⟩
      refine m_call 0 [] (own12_j s hs) .nil ?_
      rintro _ _ ⟨rfl, rfl⟩
      refine m_call 0 [] (rkof_j s hs) (.cons 2 (.refl) .nil) ?_
      rintro _ _ ⟨rfl, rfl⟩
      refine m_eqT 0 true ((⟨s.len, s.draw, stH s⟩ : OKey).cells) (OKey.wf ⟨(by first | omega | decide | exact nar_lt _ | with_reducible assumption | (dsimp only; first | omega | exact nar_lt _)), hs.draw, (stH_ok _)⟩) ?_
      refine m_ld 1 5 ?_
      refine m_ld 0 6 ?_
      refine m_ld 0 5 ?_
      refine m_ld 0 6 ?_
      refine m_call 0 [] (ocmp_j a b ha hb) .nil ?_
      rintro _ _ ⟨rfl, rfl⟩
      refine m_call 0 [] (rocmp_j a b ha hb) .nil ?_
      rintro _ _ ⟨rfl, rfl⟩
      refine m_as 0 (.bool (decide ((cmpK a b) = (cmpK a b)))) (.bool true) (by rw [decide_eq_true rfl]) ?_
      refine m_ld 3 5 ?_
      refine m_ld 1 6 ?_
      refine m_ld 1 5 ?_
      refine m_ld 1 6 ?_
      refine m_call 0 [] (hashes_j a.hash b.hash ha.hash hb.hash) .nil ?_
      rintro _ _ ⟨rfl, rfl⟩
      refine m_thaw 0 ?_
      refine m_call 0 [] (rhashes_j a.hash b.hash ha.hash hb.hash) .nil ?_
      rintro _ _ ⟨rfl, rfl⟩
      refine m_as 0 (.bool (decide ((cmpL a.hash b.hash) = (cmpL a.hash b.hash)))) (.bool true) (by rw [decide_eq_true rfl]) ?_
      refine m_call 4 [] (great_j ao cap l (by first | with_reducible assumption | omega | decide) (by omega)) (.cons 1 (.refl) .nil) ?_
      rintro _ _ ⟨rfl, rfl⟩
      refine m_call 0 [] (rgreat_j ao' cp m (by rw [hm]; exact hl.take _) (by omega)) (.cons 7 (.rd) .nil) ?_
      rintro _ _ ⟨rfl, rfl⟩
      refine m_thaw 4 ?_
      exact m_ret 2 (.bool (decide ((grtN l l.length) = (grtN m m.length)))) [] ⟨(congrArg Value.bool (decide_eq_true (by rw [hml, show i = l.length from by omega, hm, show i = l.length from by omega, grtN_take l (Nat.le_refl _)]))), by kernel_rfl⟩

set_option maxRecDepth 100000 in
theorem orderIs_j (a : OKey) (b : OKey) (c : OKey) (ha : OKey.Ok a) (hb : OKey.Ok b) (hc : OKey.Ok c) :
    Does Tryd.prog 12 #[(.agg (a.cells)), (.agg (b.cells)), (.agg (c.cells))] [(.rd (some ⟨1, 0, none⟩) ((hw KL).toList))] [] (fun v H => v = (.bool true) ∧ H = []) := by
  have rab := cmpK_rng a b; have rba := cmpK_rng b a; have rbc := cmpK_rng b c; have rac := cmpK_rng a c; have hanti := cmpK_anti a b; have hiff := cmpK_iff ha hb; have ht := cmpK_trans ha hb hc; have ht2 := cmpK_trans ha hb hc
  have hha_len := ha.len; have hhb_len := hb.len; have hhc_len := hc.len
  refine m_fn fun F => ?_
  refine m_new 2 fun b1 => ?_
  refine m_new 0 fun b2 => ?_
  refine m_new 0 fun b3 => ?_
  refine m_call 6 [] (awake12_j) (.cons 1 (.refl) .nil) ?_
  rintro _ _ ⟨rfl, rfl⟩
  refine m_plan 7 [1, 2, 3, 4, 5, 6, 7, 8, 9, 10] (.q 0 true (.q 1 true (.q 3 true (.q 4 true (.q 6 true (.q 7 true (.q 9 true (.q 10 true (.e 2 (.e 5 (.e 8 (.e 11 (.q 12 false (.q 13 false (.q 14 false (.q 15 false .n)))))))))))))))) [2, 1, 0] ?_
  refine m_ld 0 2 ?_
  refine m_ld 0 3 ?_
  refine m_ld 0 3 ?_
  refine m_ld 0 2 ?_
  refine m_ld 0 3 ?_
  refine m_ld 0 4 ?_
  refine m_ld 0 2 ?_
  refine m_ld 0 4 ?_
  refine m_call 0 [] (ocmp_j a b ha hb) .nil ?_
  rintro _ _ ⟨rfl, rfl⟩
  refine m_call 0 [] (ocmp_j b a hb ha) .nil ?_
  rintro _ _ ⟨rfl, rfl⟩
  refine m_call 0 [] (ocmp_j b c hb hc) .nil ?_
  rintro _ _ ⟨rfl, rfl⟩
  refine m_thaw 0 ?_
  refine m_call 0 [] (ocmp_j a c ha hc) .nil ?_
  rintro _ _ ⟨rfl, rfl⟩
  refine m_thaw 5 ?_
  refine m_i 6 .i64 (IntKind.i64.wrap ((0 : Int) - (cmpK b a))) (-(cmpK b a)) ((congrArg IntKind.i64.wrap (Int.zero_sub _)).trans (wrapN_i64 (by omega) (by omega))) ?_
  refine m_spn 1 ((cmpK a b) = (-(cmpK b a))) (fun c4 => ?_) (fun c4 => absurd (by omega) c4)
  refine m_ld 2 2 ?_
  refine m_ld 0 3 ?_
  refine m_eqs 0 true (a.cells) (b.cells) (a = b) (OKey.inj ha hb) (OKey.wf ha) (OKey.wf hb) (fun c5 => ?_) (fun c5 => ?_)
  · -- the same
    refine m_spb 2 ((decide ((cmpK a b) = (0 : Int))) != true) (fun c6 => ?_) (fun c6 => ?_)
    · -- yes
      simp at c6
      exact m_ret 17 (.bool false) [] ⟨(by exfalso; first | omega | exact absurd (hiff.1 (by omega)) (by assumption) | exact absurd (hiff.2 (by assumption)) (by omega) | (have := ht (by omega) (by omega); omega)), by kernel_rfl⟩
    · -- no
      simp at c6
      refine m_sp 3 ((cmpK a b) < (-1 : Int)) (fun c7 => absurd c7 (by omega)) (fun c7 => ?_)
      refine m_if 5 ((cmpK a b) > (1 : Int)) (fun c8 => absurd c8 (by omega)) (fun c8 => ?_)
      refine m_sp 6 ((cmpK a b) < (0 : Int)) (fun c9 => ?_) (fun c9 => ?_)
      · -- yes
        refine m_sp 10 ((cmpK a b) ≤ (0 : Int)) (fun c10 => ?_) (fun c10 => ?_)
        · -- yes
          exact m_ret 12 (.bool true) [] ⟨(rfl), by kernel_rfl⟩
        · -- no
          refine m_sp 3 ((cmpK b c) ≤ (0 : Int)) (fun c11 => ?_) (fun c11 => ?_)
          · -- yes
            exact m_ret 8 (.bool true) [] ⟨(rfl), by kernel_rfl⟩
          · -- no
            exact m_ret 8 (.bool (decide ((cmpK a c) > (0 : Int)))) [] ⟨(congrArg Value.bool (decide_eq_true (by first | omega | (have := ht (by omega) (by omega); omega)))), by kernel_rfl⟩
      · -- no
        refine m_sp 3 ((cmpK b c) < (0 : Int)) (fun c12 => ?_) (fun c12 => ?_)
        · -- yes
          refine m_sp 6 ((cmpK a b) ≤ (0 : Int)) (fun c13 => ?_) (fun c13 => ?_)
          · -- yes
            exact m_ret 12 (.bool true) [] ⟨(rfl), by kernel_rfl⟩
          · -- no
            refine m_sp 3 ((cmpK b c) ≤ (0 : Int)) (fun c14 => ?_) (fun c14 => ?_)
            · -- yes
              exact m_ret 8 (.bool true) [] ⟨(rfl), by kernel_rfl⟩
            · -- no
              exact m_ret 8 (.bool (decide ((cmpK a c) > (0 : Int)))) [] ⟨(congrArg Value.bool (decide_eq_true (by first | omega | (have := ht (by omega) (by omega); omega)))), by kernel_rfl⟩
        · -- no
          refine m_sp 3 ((cmpK a c) ≥ (0 : Int)) (fun c15 => ?_) (fun c15 => ?_)
          · -- yes
            refine m_sp 2 ((cmpK a b) ≤ (0 : Int)) (fun c16 => ?_) (fun c16 => ?_)
            · -- yes
              exact m_ret 12 (.bool true) [] ⟨(rfl), by kernel_rfl⟩
            · -- no
              refine m_sp 3 ((cmpK b c) ≤ (0 : Int)) (fun c17 => ?_) (fun c17 => ?_)
              · -- yes
                exact m_ret 8 (.bool true) [] ⟨(rfl), by kernel_rfl⟩
              · -- no
                exact m_ret 8 (.bool (decide ((cmpK a c) > (0 : Int)))) [] ⟨(congrArg Value.bool (decide_eq_true (by first | omega | (have := ht (by omega) (by omega); omega)))), by kernel_rfl⟩
          · -- no
            exact m_ret 15 (.bool false) [] ⟨(by exfalso; first | omega | exact absurd (hiff.1 (by omega)) (by assumption) | exact absurd (hiff.2 (by assumption)) (by omega) | (have := ht (by omega) (by omega); omega)), by kernel_rfl⟩
  · -- not the same
    refine m_spb 2 ((decide ((cmpK a b) = (0 : Int))) != false) (fun c18 => ?_) (fun c18 => ?_)
    · -- yes
      simp at c18
      exact m_ret 17 (.bool false) [] ⟨(by exfalso; first | omega | exact absurd (hiff.1 (by omega)) (by assumption) | exact absurd (hiff.2 (by assumption)) (by omega) | (have := ht (by omega) (by omega); omega)), by kernel_rfl⟩
    · -- no
      simp at c18
      refine m_sp 3 ((cmpK a b) < (-1 : Int)) (fun c19 => absurd c19 (by omega)) (fun c19 => ?_)
      refine m_if 5 ((cmpK a b) > (1 : Int)) (fun c20 => absurd c20 (by omega)) (fun c20 => ?_)
      refine m_sp 6 ((cmpK a b) < (0 : Int)) (fun c21 => ?_) (fun c21 => ?_)
      · -- yes
        refine m_sp 10 ((cmpK a b) ≤ (0 : Int)) (fun c22 => ?_) (fun c22 => ?_)
        · -- yes
          exact m_ret 12 (.bool true) [] ⟨(rfl), by kernel_rfl⟩
        · -- no
          refine m_sp 3 ((cmpK b c) ≤ (0 : Int)) (fun c23 => ?_) (fun c23 => ?_)
          · -- yes
            exact m_ret 8 (.bool true) [] ⟨(rfl), by kernel_rfl⟩
          · -- no
            exact m_ret 8 (.bool (decide ((cmpK a c) > (0 : Int)))) [] ⟨(congrArg Value.bool (decide_eq_true (by first | omega | (have := ht (by omega) (by omega); omega)))), by kernel_rfl⟩
      · -- no
        refine m_sp 3 ((cmpK b c) < (0 : Int)) (fun c24 => ?_) (fun c24 => ?_)
        · -- yes
          refine m_sp 6 ((cmpK a b) ≤ (0 : Int)) (fun c25 => ?_) (fun c25 => ?_)
          · -- yes
            exact m_ret 12 (.bool true) [] ⟨(rfl), by kernel_rfl⟩
          · -- no
            refine m_sp 3 ((cmpK b c) ≤ (0 : Int)) (fun c26 => ?_) (fun c26 => ?_)
            · -- yes
              exact m_ret 8 (.bool true) [] ⟨(rfl), by kernel_rfl⟩
            · -- no
              exact m_ret 8 (.bool (decide ((cmpK a c) > (0 : Int)))) [] ⟨(congrArg Value.bool (decide_eq_true (by first | omega | (have := ht (by omega) (by omega); omega)))), by kernel_rfl⟩
        · -- no
          refine m_sp 3 ((cmpK a c) ≥ (0 : Int)) (fun c27 => ?_) (fun c27 => ?_)
          · -- yes
            refine m_sp 2 ((cmpK a b) ≤ (0 : Int)) (fun c28 => ?_) (fun c28 => ?_)
            · -- yes
              exact m_ret 12 (.bool true) [] ⟨(rfl), by kernel_rfl⟩
            · -- no
              refine m_sp 3 ((cmpK b c) ≤ (0 : Int)) (fun c29 => ?_) (fun c29 => ?_)
              · -- yes
                exact m_ret 8 (.bool true) [] ⟨(rfl), by kernel_rfl⟩
              · -- no
                exact m_ret 8 (.bool (decide ((cmpK a c) > (0 : Int)))) [] ⟨(congrArg Value.bool (decide_eq_true (by first | omega | (have := ht (by omega) (by omega); omega)))), by kernel_rfl⟩
          · -- no
            exact m_ret 15 (.bool false) [] ⟨(by exfalso; first | omega | exact absurd (hiff.1 (by omega)) (by assumption) | exact absurd (hiff.2 (by assumption)) (by omega) | (have := ht (by omega) (by omega); omega)), by kernel_rfl⟩

end Go.Proofs.YtmnehhpfbmoahaaDoor
