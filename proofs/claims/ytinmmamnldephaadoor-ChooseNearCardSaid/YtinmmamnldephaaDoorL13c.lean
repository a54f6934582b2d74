/- Layer 13's laws: candidates that are all near. -/
import Derived.Test.YtinmmamnldephaaDoorL13
import Derived.Test.YtinmmamnldephaaDoorLib6
import Derived.Test.YtinmmamnldephaaDoorLib8
namespace Go.Proofs.YtinmmamnldephaaDoor
open Go Go.RowKit Go.Alm
theorem fold_n (t : SState) (ao : Option Addr) (cap : Nat) (l : List SState) (n : Nat) (hnl : n = l.length) (ht : SState.Ok t) (hRt : SState.Right t) (hl : AllS l) (hlR : AllRt l) (hn : l.length ≤ 1000000) :
    Does Tryd.prog 23 #[(.agg (t.cells)), (.slice ao n cap)] [(.rd ao (RL SState.cells l)), (.rd (some ⟨1, 0, none⟩) ((hw KL).toList))] [] (fun v H => v = (.tuple #[(.agg (((foldS t l 0).1).cells)), (.int .i64 (((foldS t l 0).2 : Nat) : Int))]) ∧ H = []) := by
  subst hnl; exact fold_j t ao cap l ht hRt hl hlR hn

set_option maxRecDepth 100000 in
theorem chooseNear_j (tip : SState) (ao : Option Addr) (cap : Nat) (l : List SState) (ii : Int) (kk : Int) (ht : SState.Ok tip) (hl : AllS l) (_ : l.length ≤ cap) (_ : cap ≤ 9223372036854775807) (hz : l.length * 396 ≤ 140737488351232) (hi1 : -9223372036854775808 ≤ ii ∧ ii ≤ 9223372036854775807) (hk1 : -9223372036854775808 ≤ kk ∧ kk ≤ 9223372036854775807) :
    Does Tryd.prog 6 #[(.agg (tip.cells)), (.slice ao l.length cap), (.int .i64 ii), (.int .i64 kk)] [(.rd ao (RL SState.cells l)), (.rd (some ⟨1, 0, none⟩) ((hw KL).toList))] [] (fun v H => v = (.bool true) ∧ H = []) := by
  have hht_slot := ht.slot; have hht_len := ht.len; have hht_count := ht.count; have hht_win_min := ht.win.min; have hht_win_ring_last := ht.win.ring.last; have hht_win_ring_counts := ht.win.ring.counts; have hht_eps_now_len := ht.eps.now.len; have hht_eps_next_len := ht.eps.next.len
  refine m_fn fun F => ?_
  refine m_new 2 fun b1 => ?_
  refine m_call 6 [] (awake13_j) (.cons 2 (.refl) .nil) ?_
  rintro _ _ ⟨rfl, rfl⟩
  refine m_ldW 8 3 b1 38 363 (tip.cells) (SState.size _) ?_
  refine m_slit 0 38 363 SState.cells [tip] SState.size fun b2 => ?_
  refine m_view 0 _ (.made 38 363 [tip].length 1 (RL SState.cells [tip])) ?_
  refine m_appRs 1 0 38 363 396 SState.cells [tip] l (SrcW.rd 1 _ cap (RL SState.cells l) (RL_length SState.size _) (RL_one SState.one _)) (by first | exact ⟨(by simp only [maxLen, List.length_singleton]; omega), (by simp only [List.length_singleton]; omega)⟩ | exact ⟨(by simp only [maxLen]; omega), (by omega)⟩ | exact ⟨(by simp only [maxLen, List.length_nil]; omega), (by simp only [List.length_nil]; omega)⟩) fun ao3 cap4 => ?_
  refine m_call 7 [] (right13_j ao3 cap4 (List.append [tip] l) (by intro x hx; rcases List.mem_cons.1 hx with rfl | hx; exact ht; exact hl x hx) (by show l.length + 1 ≤ _; omega)) (.cons 3 (.rd) .nil) ?_
  rintro _ _ ⟨rfl, rfl⟩
  refine m_ifb 3 (!(rightL (List.append [tip] l))) (fun c5 => ?_) (fun c5 => ?_)
  · -- yes
    exact m_ret 7 (.bool true) [] ⟨(rfl), by kernel_rfl⟩
  · -- no
    have hr0 : rightL (List.append [tip] l) = true := by first | exact c5 | simpa using c5
    obtain ⟨hRt, hlR, hn20⟩ := rightL_cons hr0
    have hA : (List.append [tip] l).length = l.length + 1 := rfl; have hB : (List.append [] l).length = l.length := rfl
    refine m_nil 65 65 ?_
    refine m_loop (X := Nat × Option Addr × Nat × List OKey) 16 [1, 2, 3, 4, 9, 30, 31] (fun (x : Nat × Option Addr × Nat × List OKey) => [(10, (.slice x.2.1 x.2.2.2.length x.2.2.1)), (32, (.int .i64 ((x.1 : Nat) : Int)))]) [0] (fun (x : Nat × Option Addr × Nat × List OKey) => [(.row 65 65 x.2.1 x.2.2.2.length x.2.2.1 (RL OKey.cells x.2.2.2))]) (fun (x : Nat × Option Addr × Nat × List OKey) => (x.1 ≤ l.length + 1) ∧ (x.2.2.2 = keysL ((List.append [tip] l).take x.1)) ∧ (∀ a, a < x.1 → ∀ b, b < a → nearQ ((List.append [tip] l).getD a default) ((List.append [tip] l).getD b default))) (fun (x : Nat × Option Addr × Nat × List OKey) => l.length + 1 - x.1) (0, none, 0, []) (⟨Nat.zero_le _, rfl, fun _ h => absurd h (by omega)⟩) (fun x u7 hx => ?_)
    obtain ⟨n, ao', cp, ks⟩ := x; dsimp only at hx
    obtain ⟨hi, hks, hnr⟩ := hx
    have hkl : ks.length = n := by rw [hks]; exact keysL_take_len (by omega)
    refine m_if 6 (((n : Nat) : Int) < (((List.append [tip] l).length : Nat) : Int)) (fun c8 => ?_) (fun c8 => ?_)
    · -- yes
      refine m_ix 7 4 363 ((List.append [tip] l).length) n (RL SState.cells (List.append [tip] l)) .i64 (by omega) (by rw [RL_length SState.size]; omega) ?_
      refine m_lxN 0 4 (n * 363) 363 (RL SState.cells (List.append [tip] l)) (((List.append [tip] l).getD n default).cells) (RL_whole (f := SState.cells) (sz := 363) (l := List.append [tip] l) (k := n) SState.size default (by omega)) (SState.size _) ?_
      refine m_new 0 fun b9 => ?_
      refine m_stW 1 0 363 (((List.append [tip] l).getD n default).cells) (SState.size _) (SState.ones _) ?_
      refine m_rowle 5 ((List.append [tip] l).length) cap4 fun hc10 hc10' => ?_
      refine m_slc0 7 363 ((List.append [tip] l).length) cap4 n cap4 ao3 ⟨(by omega), (by omega)⟩ ?_
      refine m_loop (X := Nat) 5 [1, 2, 3, 4, 9, 10, 12, 30, 31, 32, 39, 40] (fun (x : Nat) => [(41, (.int .i64 ((x : Nat) : Int)))]) [] (fun (x : Nat) => []) (fun (x : Nat) => (x ≤ n) ∧ (∀ b, b < x → nearQ ((List.append [tip] l).getD n default) ((List.append [tip] l).getD b default))) (fun (x : Nat) => n - x) 0 (⟨Nat.zero_le _, fun _ h => absurd h (by omega)⟩) (fun x u11 hx => ?_)
      obtain ⟨j, rfl⟩ : ∃ y, y = x := ⟨x, rfl⟩
      obtain ⟨hj, hin⟩ := hx
      refine m_if 6 (((j : Nat) : Int) < ((n : Nat) : Int)) (fun c12 => ?_) (fun c12 => ?_)
      · -- yes
        refine m_ix 6 5 363 n j (RL SState.cells (List.append [tip] l)) .i64 (by omega) (by rw [RL_length SState.size]; omega) ?_
        refine m_lxN 0 5 (j * 363) 363 (RL SState.cells (List.append [tip] l)) (((List.append [tip] l).getD j default).cells) (RL_whole (f := SState.cells) (sz := 363) (l := List.append [tip] l) (k := j) SState.size default (by omega)) (SState.size _) ?_
        refine m_new 0 fun b13 => ?_
        refine m_stW 0 0 363 (((List.append [tip] l).getD j default).cells) (SState.size _) (SState.ones _) ?_
        refine m_ldW 4 4 b9 38 363 (((List.append [tip] l).getD n default).cells) (SState.size _) ?_
        refine m_ldW 0 3 b13 38 363 (((List.append [tip] l).getD j default).cells) (SState.size _) ?_
        refine m_call 0 [] (near_j ((List.append [tip] l).getD n default) ((List.append [tip] l).getD j default) (AllS.get (show AllS (List.append [tip] l) from allS_cons ht hl) (by omega)) (AllS.get (show AllS (List.append [tip] l) from allS_cons ht hl) (by omega))) .nil ?_
        rintro _ _ ⟨rfl, rfl⟩
        refine m_ifn 3 (nearQ ((List.append [tip] l).getD n default) ((List.append [tip] l).getD j default)) (fun c14 => ?_) (fun c14 => ?_)
        · -- no
          refine m_i64 4 (((j : Nat) : Int) + (1 : Int)) (j + 1) (by omega) ?_
          exact m_back 2 (j + 1) [1, 1, 1, 1] ⟨⟨(by omega), (fun b hb => (Nat.lt_succ_iff_lt_or_eq.1 hb).elim (hin b) (fun e => e ▸ (by assumption)))⟩, (by omega)⟩
        · -- yes
          refine m_trim 9 ?_
          exact m_ret 7 (.bool true) [] ⟨(rfl), by kernel_rfl⟩
      · -- no
        refine m_trim 3 ?_
        refine m_ldW 4 3 b9 38 363 (((List.append [tip] l).getD n default).cells) (SState.size _) ?_
        refine m_call 0 [] (kof_j ((List.append [tip] l).getD n default) (AllS.get (show AllS (List.append [tip] l) from allS_cons ht hl) (by omega))) (.cons 2 (.refl) .nil) ?_
        rintro _ _ ⟨rfl, rfl⟩
        refine m_new 0 fun b15 => ?_
        refine m_appR 0 2 65 65 68 OKey.cells ks (⟨((List.append [tip] l).getD n default).len, ((List.append [tip] l).getD n default).draw, stH ((List.append [tip] l).getD n default)⟩ : OKey) ((SrcW.cut 3 0 1 1).news (by kernel_rfl)) (by first | exact ⟨(by simp only [maxLen]; omega), (by simp only [List.length_singleton]; omega)⟩ | exact ⟨(by simp only [maxLen]; omega), (by omega)⟩ | exact ⟨(by simp only [maxLen, List.length_nil]; omega), (by simp only [List.length_nil]; omega)⟩) fun ao16 cap17 => ?_
        refine m_i64 5 (((n : Nat) : Int) + (1 : Int)) (n + 1) (by omega) ?_
        exact m_back 2 (n + 1, ao16, cap17, ks ++ [(⟨((List.append [tip] l).getD n default).len, ((List.append [tip] l).getD n default).draw, stH ((List.append [tip] l).getD n default)⟩ : OKey)]) [2, 2, 2] ⟨⟨(by omega), (by rw [hks]; exact keysL_snoc (by omega)), (fun a ha => (Nat.lt_succ_iff_lt_or_eq.1 ha).elim (hnr a) (fun e => e ▸ fun b hb => hin b (by omega)))⟩, (by omega)⟩
    · -- no
      refine m_call 8 [] (great_j ao' cp ks (by rw [hks]; exact keysL_ok (fun x hx => allS_cons ht hl x (List.mem_of_mem_take hx))) (by omega)) (.cons 3 (.rd) .nil) ?_
      have hn1 : n = l.length + 1 := (by omega); have hks1 : ks = keysL (List.append [tip] l) := (by rw [hks, hn1, ← hA, List.take_length])
      have hks2 : AllOk ks := by rw [hks1]; exact keysL_ok (allS_cons ht hl)
      obtain ⟨bm, hbm, hg⟩ := grtN_spec hks2 (Nat.le_refl _) (show 0 < ks.length by omega); have hbl := hg.lt
      have hAN : AllNear (tip :: l) := allNear_of (l := tip :: l) (fun a ha b hb => hnr a (by have := hA; change a < (List.append [tip] l).length at ha; omega) b hb)
      rintro _ _ ⟨hv18, rfl⟩
      rw [show ((.int .i64 (grtN ks ks.length)) : Value) = (.int .i64 ((bm : Nat) : Int)) from congrArg (Value.int .i64) hbm] at hv18; subst hv18
      refine m_ldW 5 5 b1 38 363 (tip.cells) (SState.size _) ?_
      refine m_call 1 [] (fold_n tip ao cap l l.length (rfl) ht (hRt) (hl) (hlR) (by omega)) (.cons 1 (.refl) (.cons 2 (.refl) .nil)) ?_
      refine bind_var (foldS tip (l) 0).1 fun t ht' => ?_
      refine bind_var (foldS tip (l) 0).2 fun tn htn' => ?_
      obtain ⟨okt, _, _⟩ := foldS_spec (l) tip 0 ht hRt hl hlR; rw [← ht'] at okt
      have hkt : keyS t = ks.getD bm default := by rw [ht', hks1]; exact fold_best (allS_cons ht hl) hAN (by rw [hks1] at hg; exact hg)
      rintro _ _ ⟨hv19, rfl⟩
      rw [show ((.tuple #[(.agg (((foldS tip l 0).1).cells)), (.int .i64 (((foldS tip l 0).2 : Nat) : Int))]) : Value) = (.tuple #[(.agg (t.cells)), (.int .i64 ((tn : Nat) : Int))]) from by rw [ht', htn']] at hv19; subst hv19
      refine m_new 3 fun b20 => ?_
      refine m_stW 0 0 363 (t.cells) (SState.size _) (SState.ones _) ?_
      refine m_plan 5 [10, 11, 12, 13, 14] (.q 0 false (.q 1 false (.q 2 false (.q 3 false (.q 4 false (.q 5 false (.q 6 false (.q 7 false (.q 8 false (.q 9 true (.q 11 false (.q 12 false (.q 13 false (.q 14 true (.e 10 (.q 15 false (.q 16 false .n))))))))))))))))) [0, 0] ?_
      refine m_sp 2 (((bm : Nat) : Int) < (0 : Int)) (fun c21 => absurd c21 (by omega)) (fun c21 => ?_)
      refine m_sp 5 (((bm : Nat) : Int) ≥ (((List.append [tip] l).length : Nat) : Int)) (fun c22 => absurd c22 (by omega)) (fun c22 => ?_)
      refine m_ldW 0 3 b20 38 363 (t.cells) (SState.size _) ?_
      refine m_ix 2 4 65 ks.length bm (RL OKey.cells ks) .i64 (by omega) (by rw [RL_length OKey.size]; omega) ?_
      refine m_lxN 0 4 (bm * 65) 65 (RL OKey.cells ks) ((ks.getD bm default).cells) (RL_whole (f := OKey.cells) (sz := 65) (l := ks) (k := bm) OKey.size default (by omega)) (OKey.size _) ?_
      refine m_call 0 [] (kof_j t okt) (.cons 2 (.refl) .nil) ?_
      rintro _ _ ⟨rfl, rfl⟩
      refine m_eqs 0 false ((⟨t.len, t.draw, stH t⟩ : OKey).cells) ((ks.getD bm default).cells) ((⟨t.len, t.draw, stH t⟩ : OKey) = ks.getD bm default) (OKey.inj (keyS_ok okt) (AllOk.get hks2 (by omega))) (OKey.wf (keyS_ok okt)) (OKey.wf (AllOk.get hks2 (by omega))) (fun _ => ?_) (fun c23 => absurd (hkt) c23)
      refine m_thaw 2 ?_
      refine m_sp 9 (ii < (0 : Int)) (fun c24 => ?_) (fun c24 => ?_)
      · -- yes
        exact m_ret 25 (.bool true) [] ⟨(rfl), by kernel_rfl⟩
      · -- no
        refine m_sp 5 (ii ≥ ((l.length : Nat) : Int)) (fun c25 => ?_) (fun c25 => ?_)
        · -- yes
          exact m_ret 19 (.bool true) [] ⟨(rfl), by kernel_rfl⟩
        · -- no
          refine m_sp 3 (kk < (0 : Int)) (fun c26 => ?_) (fun c26 => ?_)
          · -- yes
            exact m_ret 15 (.bool true) [] ⟨(rfl), by kernel_rfl⟩
          · -- no
            refine m_if 7 (kk ≥ ((l.length : Nat) : Int)) (fun c27 => ?_) (fun c27 => ?_)
            · -- yes
              exact m_ret 7 (.bool true) [] ⟨(rfl), by kernel_rfl⟩
            · -- no
              refine m_new 4 fun b28 => ?_
              refine m_view 0 _ (.made 38 363 0 0 (RL SState.cells [])) ?_
              refine m_appRs 1 0 38 363 396 SState.cells [] l (SrcW.rd 1 _ cap (RL SState.cells l) (RL_length SState.size _) (RL_one SState.one _)) (by first | exact ⟨(by simp only [maxLen]; omega), (by simp only [List.length_singleton]; omega)⟩ | exact ⟨(by simp only [maxLen]; omega), (by omega)⟩ | exact ⟨(by simp only [maxLen, List.length_nil]; omega), (by simp only [List.length_nil]; omega)⟩) fun ao29 cap30 => ?_
              refine m_plan 4 [8, 9, 10, 11] (.q 0 false (.q 1 false (.q 2 false (.q 3 false (.q 4 false (.q 5 false (.q 6 false (.q 7 true (.q 8 false (.q 9 false (.q 10 false (.q 11 true (.q 12 false (.e 13 (.q 14 false (.e 15 .n)))))))))))))))) [0] ?_
              obtain ⟨i, hii⟩ : ∃ i : Nat, ii = (i : Int) := ⟨ii.toNat, by omega⟩; obtain ⟨k, hkk⟩ : ∃ k : Nat, kk = (k : Int) := ⟨kk.toNat, by omega⟩; have hB2 : ∀ (q : Nat) (x : SState), ((List.append [] l).set q x).length = l.length := fun q x => (by rw [List.length_set]; rfl); have hB3 := hB2 i ((List.append [] l).getD k default)
              refine m_i 1 .i64 ii (i : Int) hii ?_
              refine m_i 1 .i64 kk (k : Int) hkk ?_
              refine m_i 1 .i64 kk (k : Int) hkk ?_
              refine m_ix 0 3 363 ((List.append [] l).length) k (RL SState.cells (List.append [] l)) .i64 (by omega) (by rw [RL_length SState.size]; omega) ?_
              refine m_lxN 0 3 (k * 363) 363 (RL SState.cells (List.append [] l)) (((List.append [] l).getD k default).cells) (RL_whole (f := SState.cells) (sz := 363) (l := List.append [] l) (k := k) SState.size default (by omega)) (SState.size _) ?_
              refine m_i 1 .i64 ii (i : Int) hii ?_
              refine m_ix 0 3 363 ((List.append [] l).length) i (RL SState.cells (List.append [] l)) .i64 (by omega) (by rw [RL_length SState.size]; omega) ?_
              refine m_lxN 0 3 (i * 363) 363 (RL SState.cells (List.append [] l)) (((List.append [] l).getD i default).cells) (RL_whole (f := SState.cells) (sz := 363) (l := List.append [] l) (k := i) SState.size default (by omega)) (SState.size _) ?_
              refine m_thaw 0 ?_
              refine m_ix 0 3 363 ((List.append [] l).length) i (RL SState.cells (List.append [] l)) .i64 (by omega) (by rw [RL_length SState.size]; omega) ?_
              refine m_stRL 0 0 38 363 ((List.append [] l).length) cap30 ao29 SState.cells (List.append [] l) i ((List.append [] l).getD k default) SState.size (by decide) (SState.ones _) (by first | omega | (have := hB2; simp only [hB2]; omega)) ?_
              refine m_ix 0 3 363 ((List.append [] l).length) k (RL SState.cells ((List.append [] l).set i ((List.append [] l).getD k default))) .i64 (by omega) (by rw [RL_length SState.size]; omega) ?_
              refine m_stRL 0 0 38 363 ((List.append [] l).length) cap30 ao29 SState.cells ((List.append [] l).set i ((List.append [] l).getD k default)) k ((List.append [] l).getD i default) SState.size (by decide) (SState.ones _) (by first | omega | (have := hB2; simp only [hB2]; omega)) ?_
              refine m_thaw 1 ?_
              refine m_ldW 3 7 b1 38 363 (tip.cells) (SState.size _) ?_
              refine m_call 1 [] (fold_n tip ao29 cap30 (((List.append [] l).set i ((List.append [] l).getD k default)).set k ((List.append [] l).getD i default)) ((List.append [] l).length) (by exact (swap_len l i k).symm) ht (hRt) (by exact swap_all hl (by omega) (by omega)) (by exact swap_rt hlR (by omega) (by omega)) (by exact Nat.le_trans (Nat.le_of_eq (swap_len l i k)) (by omega))) (.cons 3 (.rd) (.cons 2 (.refl) .nil)) ?_
              refine bind_var (foldS tip (((List.append [] l).set i ((List.append [] l).getD k default)).set k ((List.append [] l).getD i default)) 0).1 fun u hu' => ?_
              refine bind_var (foldS tip (((List.append [] l).set i ((List.append [] l).getD k default)).set k ((List.append [] l).getD i default)) 0).2 fun un hun' => ?_
              obtain ⟨oku, _, _⟩ := foldS_spec (((List.append [] l).set i ((List.append [] l).getD k default)).set k ((List.append [] l).getD i default)) tip 0 ht hRt (by exact swap_all hl (by omega) (by omega)) (by exact swap_rt hlR (by omega) (by omega)); rw [← hu'] at oku
              have hku : keyS u = keyS t := by rw [hu', ht']; exact fold_same (fun x => swap_mem (by omega) (by omega) x) (allS_cons ht hl) hAN
              rintro _ _ ⟨hv31, rfl⟩
              rw [show ((.tuple #[(.agg (((foldS tip (((List.append [] l).set i ((List.append [] l).getD k default)).set k ((List.append [] l).getD i default)) 0).1).cells)), (.int .i64 (((foldS tip (((List.append [] l).set i ((List.append [] l).getD k default)).set k ((List.append [] l).getD i default)) 0).2 : Nat) : Int))]) : Value) = (.tuple #[(.agg (u.cells)), (.int .i64 ((un : Nat) : Int))]) from by rw [hu', hun']] at hv31; subst hv31
              refine m_new 3 fun b32 => ?_
              refine m_stW 0 0 363 (u.cells) (SState.size _) (SState.ones _) ?_
              refine m_plan 4 [1, 2] (.q 0 true (.q 2 true (.e 1 (.e 3 (.q 4 false (.q 5 false .n)))))) [0, 1] ?_
              refine m_ldW 0 3 b32 38 363 (u.cells) (SState.size _) ?_
              refine m_ldW 0 4 b20 38 363 (t.cells) (SState.size _) ?_
              refine m_call 0 [] (kof_j u oku) (.cons 2 (.refl) .nil) ?_
              rintro _ _ ⟨rfl, rfl⟩
              refine m_thaw 0 ?_
              refine m_call 0 [] (kof_j t okt) (.cons 2 (.refl) .nil) ?_
              rintro _ _ ⟨rfl, rfl⟩
              refine m_eqs 0 true ((⟨u.len, u.draw, stH u⟩ : OKey).cells) ((⟨t.len, t.draw, stH t⟩ : OKey).cells) ((⟨u.len, u.draw, stH u⟩ : OKey) = (⟨t.len, t.draw, stH t⟩ : OKey)) (OKey.inj (keyS_ok oku) (keyS_ok okt)) (OKey.wf (keyS_ok oku)) (OKey.wf (keyS_ok okt)) (fun _ => ?_) (fun c33 => absurd (hku) c33)
              refine m_thaw 2 ?_
              exact m_ret 2 (.bool true) [] ⟨(rfl), by kernel_rfl⟩

end Go.Proofs.YtinmmamnldephaaDoor
