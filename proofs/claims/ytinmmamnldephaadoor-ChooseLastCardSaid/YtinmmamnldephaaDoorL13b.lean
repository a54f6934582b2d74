/- Layer 13's laws: the last candidate. -/
import Derived.Test.YtinmmamnldephaaDoorL13
import Derived.Test.YtinmmamnldephaaDoorLib6
import Derived.Test.YtinmmamnldephaaDoorLib8
namespace Go.Proofs.YtinmmamnldephaaDoor
open Go Go.RowKit Go.Alm
set_option maxRecDepth 100000 in
theorem chooseLast_j (tip : SState) (ao : Option Addr) (cap : Nat) (l : List SState) (ht : SState.Ok tip) (hl : AllS l) (hc : l.length ≤ cap) (_ : cap ≤ 9223372036854775807) (hz : l.length * 396 ≤ 140737488351232) :
    Does Tryd.prog 5 #[(.agg (tip.cells)), (.slice ao l.length cap)] [(.rd ao (RL SState.cells l)), (.rd (some ⟨1, 0, none⟩) ((hw KL).toList))] [] (fun v H => v = (.bool true) ∧ H = []) := by
  have hht_slot := ht.slot; have hht_len := ht.len; have hht_count := ht.count; have hht_win_min := ht.win.min; have hht_win_ring_last := ht.win.ring.last; have hht_win_ring_counts := ht.win.ring.counts; have hht_eps_now_len := ht.eps.now.len; have hht_eps_next_len := ht.eps.next.len
  refine m_fn fun F => ?_
  refine m_new 2 fun b1 => ?_
  refine m_call 6 [] (awake13_j) (.cons 2 (.refl) .nil) ?_
  rintro _ _ ⟨rfl, rfl⟩
  refine m_ldW 9 3 b1 38 363 (tip.cells) (SState.size _) ?_
  refine m_slit 0 38 363 SState.cells [tip] SState.size fun b2 => ?_
  refine m_view 0 _ (.made 38 363 [tip].length 1 (RL SState.cells [tip])) ?_
  refine m_appRs 1 0 38 363 396 SState.cells [tip] l (SrcW.rd 1 _ cap (RL SState.cells l) (RL_length SState.size _) (RL_one SState.one _)) (⟨(by simp only [maxLen, List.length_singleton]; omega), (by simp only [List.length_singleton]; omega)⟩) fun ao3 cap4 => ?_
  refine m_call 0 [] (right13_j ao3 cap4 (List.append [tip] l) (by intro x hx; rcases List.mem_cons.1 hx with rfl | hx; exact ht; exact hl x hx) (by show l.length + 1 ≤ _; omega)) (.cons 3 (.rd) .nil) ?_
  rintro _ _ ⟨rfl, rfl⟩
  refine m_ifb 3 (!(rightL (List.append [tip] l))) (fun c5 => ?_) (fun c5 => ?_)
  · -- yes
    exact m_ret 7 (.bool true) [] ⟨(rfl), by kernel_rfl⟩
  · -- no
    have hr0 : rightL (List.append [tip] l) = true := by first | exact c5 | simpa using c5
    obtain ⟨hRt, hlR, hn20⟩ := rightL_cons hr0
    refine m_ldW 4 4 b1 38 363 (tip.cells) (SState.size _) ?_
    refine m_call 1 [] (fold_j tip ao cap l ht (hRt) (hl) (hlR) (by omega)) (.cons 1 (.refl) (.cons 2 (.refl) .nil)) ?_
    refine bind_var (foldS tip (l) 0).1 fun t ht' => ?_
    refine bind_var (foldS tip (l) 0).2 fun n hn' => ?_
    obtain ⟨okt, rt, bn⟩ := foldS_spec (l) tip 0 ht hRt hl hlR; rw [← ht'] at okt rt; rw [← hn'] at bn
    rintro _ _ ⟨hv6, rfl⟩
    rw [show ((.tuple #[(.agg (((foldS tip l 0).1).cells)), (.int .i64 (((foldS tip l 0).2 : Nat) : Int))]) : Value) = (.tuple #[(.agg (t.cells)), (.int .i64 ((n : Nat) : Int))]) from by rw [ht', hn']] at hv6; subst hv6
    refine m_new 3 fun b7 => ?_
    refine m_stW 0 0 363 (t.cells) (SState.size _) (SState.ones _) ?_
    refine m_if 11 (((l.length : Nat) : Int) = (0 : Int)) (fun c8 => ?_) (fun c8 => ?_)
    · -- yes
      refine m_ldW 2 3 b7 38 363 (t.cells) (SState.size _) ?_
      refine m_ldW 0 5 b1 38 363 (tip.cells) (SState.size _) ?_
      refine m_eqsW 0 363 true (t.cells) (tip.cells) (t = tip) (SState.inj okt ht) (SState.wf okt) (SState.wf ht) (SState.size _) (SState.size _) (SState.kinds _) (SState.kinds _) (fun _ => ?_) (fun c9 => absurd (by rw [ht']; exact foldS_nil1 (by omega)) c9)
      exact m_ret 9 (.bool (decide (((n : Nat) : Int) = (0 : Int)))) [] ⟨(congrArg Value.bool (by first | exact decide_eq_true hE2 | (rw [decide_eq_false hE3]; rfl) | exact decide_eq_true (by have := foldS_nil2 (t := tip) (l := l) (by omega); rw [← hn'] at this; omega))), by kernel_rfl⟩
    · -- no
      refine bind_var (foldS tip (l.take (l.length - 1)) 0).1 fun ah hah => ?_
      refine bind_var (foldS tip (l.take (l.length - 1)) 0).2 fun m hm' => ?_
      obtain ⟨okah, rah, bm⟩ := foldS_spec (l.take (l.length - 1)) tip 0 ht hRt (fun x hx => hl x (List.mem_of_mem_take hx)) (fun x hx => hlR x (List.mem_of_mem_take hx)); rw [← hah] at okah rah; rw [← hm', List.length_take] at bm
      refine m_cut (X := Nat) 3 [1, 5, 6] (fun (x : Nat) => [(7, (.pointer (some ⟨x, 0, none⟩))), (8, (.int .i64 ((m : Nat) : Int)))]) (fun (x : Nat) => [(.blk b1 (tip.cells) 38), (.blk x (ah.cells) 38), (.blk b7 (t.cells) 38), (.row 38 363 ao3 ((List.append [tip] l).length) cap4 (RL SState.cells (List.append [tip] l)))]) (fun (x : Nat) => True) ?_ (fun x u12 hx => ?_)
      · -- in each order
        refine m_plan 0 [1, 2, 3, 4, 5, 10] (.q 0 true (.q 1 false (.q 2 false (.q 3 false (.q 4 false (.q 5 false (.f (.e 6 (.q 7 false (.q 8 false (.q 9 false (.e 10 (.e 11 (.q 12 false .n))))))) (.e 10 (.e 6 (.q 7 false (.q 8 false (.q 9 false (.e 11 (.q 12 false .n)))))))))))))) [2] ?_
        refine m_ldW 0 3 b1 38 363 (tip.cells) (SState.size _) ?_
        refine m_i64 3 (((l.length : Nat) : Int) - (1 : Int)) (l.length - 1) (by omega) ?_
        refine m_slc 0 363 l.length cap 0 (l.length - 1) cap ((l.take (l.length - 1)).length) (cap - 0) ao ⟨(by omega), (by omega), (by omega)⟩ (by rw [List.length_take]; omega) rfl ?_
        refine m_fork 0 ?_ ?_
        · -- one of them
          refine m_call 0 [] (fold_j tip (cutA ao 0 cap 363) (cap - 0) (l.take (l.length - 1)) ht (hRt) (fun x hx => hl x (List.mem_of_mem_take hx)) (fun x hx => hlR x (List.mem_of_mem_take hx)) (by rw [List.length_take]; omega)) (.cons 1 (.cutX 0 (l.length - 1) cap 363 (RL SState.cells l) (RL SState.cells (l.take (l.length - 1))) (by omega) (takeR_cut SState.size l (l.length - 1))) (.cons 2 (.refl) .nil)) ?_
          rintro _ _ ⟨hv13, rfl⟩
          rw [show ((.tuple #[(.agg (((foldS tip (l.take (l.length - 1)) 0).1).cells)), (.int .i64 (((foldS tip (l.take (l.length - 1)) 0).2 : Nat) : Int))]) : Value) = (.tuple #[(.agg (ah.cells)), (.int .i64 ((m : Nat) : Int))]) from by rw [hah, hm']] at hv13; subst hv13
          refine m_new 3 fun b14 => ?_
          refine m_thaw 0 ?_
          refine m_stW 0 1 363 (ah.cells) (SState.size _) (SState.ones _) ?_
          refine m_thaw 2 ?_
          exact m_back 0 b14 [0, 0, 0, 0] trivial
        · -- one of them
          refine m_new 0 fun b15 => ?_
          refine m_thaw 0 ?_
          refine m_call 0 [] (fold_j tip (cutA ao 0 cap 363) (cap - 0) (l.take (l.length - 1)) ht (hRt) (fun x hx => hl x (List.mem_of_mem_take hx)) (fun x hx => hlR x (List.mem_of_mem_take hx)) (by rw [List.length_take]; omega)) (.cons 1 (.cutX 0 (l.length - 1) cap 363 (RL SState.cells l) (RL SState.cells (l.take (l.length - 1))) (by omega) (takeR_cut SState.size l (l.length - 1))) (.cons 2 (.refl) .nil)) ?_
          rintro _ _ ⟨hv16, rfl⟩
          rw [show ((.tuple #[(.agg (((foldS tip (l.take (l.length - 1)) 0).1).cells)), (.int .i64 (((foldS tip (l.take (l.length - 1)) 0).2 : Nat) : Int))]) : Value) = (.tuple #[(.agg (ah.cells)), (.int .i64 ((m : Nat) : Int))]) from by rw [hah, hm']] at hv16; subst hv16
          refine m_stW 3 1 363 (ah.cells) (SState.size _) (SState.ones _) ?_
          refine m_thaw 2 ?_
          exact m_back 0 b15 [0, 0, 0, 0] trivial
      · -- behind it
        obtain ⟨b11, rfl⟩ : ∃ y, y = x := ⟨x, rfl⟩
        refine m_i64 6 (((l.length : Nat) : Int) - (1 : Int)) (l.length - 1) (by omega) ?_
        refine m_ix 0 1 363 l.length (l.length - 1) (RL SState.cells l) .i64 (by omega) (by rw [RL_length SState.size]; omega) ?_
        refine m_lxN 0 1 ((l.length - 1) * 363) 363 (RL SState.cells l) ((l.getD (l.length - 1) default).cells) (RL_whole (f := SState.cells) (sz := 363) (l := l) (k := l.length - 1) SState.size default (by omega)) (SState.size _) ?_
        refine m_new 0 fun b17 => ?_
        refine m_stW 0 0 363 ((l.getD (l.length - 1) default).cells) (SState.size _) (SState.ones _) ?_
        refine m_ldW 5 5 b11 38 363 (ah.cells) (SState.size _) ?_
        refine m_ldW 0 3 b17 38 363 ((l.getD (l.length - 1) default).cells) (SState.size _) ?_
        refine m_call 0 [] (wins_j ah (l.getD (l.length - 1) default) okah (AllS.get hl (by omega)) (rah) (by exact hlR.get (by omega))) (.cons 2 (.refl) .nil) ?_
        rintro _ _ ⟨rfl, rfl⟩
        refine m_if 2 (winsQ ah (l.getD (l.length - 1) default)) (fun c18 => ?_) (fun c18 => ?_)
        · -- yes
          have hF := foldS_last (t := tip) (l := l) (by omega)
          rw [← hah, if_pos c18] at hF; have hE1 : t = l.getD (l.length - 1) default := (by rw [ht', hF]); have hE2 : ((n : Nat) : Int) = ((m + 1 : Nat) : Int) := (by rw [hn', hF, hm']); have hE3 : ¬ winsQ t (l.getD (l.length - 1) default) := (by rw [hE1]; exact wins_self _)
          refine m_ldW 2 6 b7 38 363 (t.cells) (SState.size _) ?_
          refine m_ldW 0 3 b17 38 363 ((l.getD (l.length - 1) default).cells) (SState.size _) ?_
          refine m_eqsW 0 363 true (t.cells) ((l.getD (l.length - 1) default).cells) (t = l.getD (l.length - 1) default) (SState.inj okt (AllS.get hl (by omega))) (SState.wf okt) (SState.wf (AllS.get hl (by omega))) (SState.size _) (SState.size _) (SState.kinds _) (SState.kinds _) (fun _ => ?_) (fun c19 => absurd (hE1) c19)
          refine m_i64 3 (((m : Nat) : Int) + (1 : Int)) (m + 1) (by omega) ?_
          refine m_sp 2 (((n : Nat) : Int) = ((m + 1 : Nat) : Int)) (fun c20 => ?_) (fun c20 => absurd (hE2) c20)
          refine m_ldW 0 6 b7 38 363 (t.cells) (SState.size _) ?_
          refine m_ldW 0 3 b17 38 363 ((l.getD (l.length - 1) default).cells) (SState.size _) ?_
          refine m_call 0 [] (wins_j t (l.getD (l.length - 1) default) okt (AllS.get hl (by omega)) (rt) (by exact hlR.get (by omega))) (.cons 2 (.refl) .nil) ?_
          rintro _ _ ⟨rfl, rfl⟩
          exact m_ret 7 (.bool (!decide (winsQ t (l.getD (l.length - 1) default)))) [] ⟨(congrArg Value.bool (by first | exact decide_eq_true hE2 | (rw [decide_eq_false hE3]; rfl) | exact decide_eq_true (by have := foldS_nil2 (t := tip) (l := l) (by omega); rw [← hn'] at this; omega))), by kernel_rfl⟩
        · -- no
          have hF := foldS_last (t := tip) (l := l) (by omega)
          rw [← hah, if_neg c18] at hF; have hE1 : t = ah := (by rw [ht', hF, hah]); have hE2 : ((n : Nat) : Int) = ((m : Nat) : Int) := (by rw [hn', hF, hm']); have hE3 : ¬ winsQ t (l.getD (l.length - 1) default) := (by rw [hE1]; exact c18)
          refine m_ldW 4 6 b7 38 363 (t.cells) (SState.size _) ?_
          refine m_ldW 0 5 b11 38 363 (ah.cells) (SState.size _) ?_
          refine m_eqsW 0 363 true (t.cells) (ah.cells) (t = ah) (SState.inj okt okah) (SState.wf okt) (SState.wf okah) (SState.size _) (SState.size _) (SState.kinds _) (SState.kinds _) (fun _ => ?_) (fun c21 => absurd (hE1) c21)
          refine m_sp 5 (((n : Nat) : Int) = ((m : Nat) : Int)) (fun c22 => ?_) (fun c22 => absurd (hE2) c22)
          refine m_ldW 0 6 b7 38 363 (t.cells) (SState.size _) ?_
          refine m_ldW 0 3 b17 38 363 ((l.getD (l.length - 1) default).cells) (SState.size _) ?_
          refine m_call 0 [] (wins_j t (l.getD (l.length - 1) default) okt (AllS.get hl (by omega)) (rt) (by exact hlR.get (by omega))) (.cons 2 (.refl) .nil) ?_
          rintro _ _ ⟨rfl, rfl⟩
          exact m_ret 6 (.bool (!decide (winsQ t (l.getD (l.length - 1) default)))) [] ⟨(congrArg Value.bool (by first | exact decide_eq_true hE2 | (rw [decide_eq_false hE3]; rfl) | exact decide_eq_true (by have := foldS_nil2 (t := tip) (l := l) (by omega); rw [← hn'] at this; omega))), by kernel_rfl⟩

end Go.Proofs.YtinmmamnldephaaDoor
