/- Layer 12 by the machine. -/
import Derived.Test.YtinmmamnldephaaGreatDoorSJ
import Derived.Test.YtinmmamnldephaaGreatDoorLib6
namespace Go.Proofs.YtinmmamnldephaaGreatDoor
open Go Go.RowKit Go.Alm
set_option maxRecDepth 100000 in
theorem isnan_u8_j (x : Nat) :
    Does Tryz.prog 104 #[(.int .u8 ((x : Nat) : Int))] [] [] (fun v H => v = (.bool false) ∧ H = []) := by
  refine m_fn fun F => ?_
  refine m_as 9 (.bool (!decide (((x : Nat) : Int) = ((x : Nat) : Int)))) (.bool false) (by rw [decide_eq_true rfl]; rfl) ?_
  exact m_ret 4 (.bool false) [] ⟨(rfl), by kernel_rfl⟩

set_option maxRecDepth 100000 in
theorem cmp_u8_j (x : Nat) (y : Nat) :
    Does Tryz.prog 98 #[(.int .u8 ((x : Nat) : Int)), (.int .u8 ((y : Nat) : Int))] [] [] (fun v H => v = (.int .i64 (cmpN x y)) ∧ H = []) := by
  refine m_fn fun F => ?_
  refine m_call 8 [] (isnan_u8_j x) .nil ?_
  rintro _ _ ⟨rfl, rfl⟩
  refine m_call 6 [] (isnan_u8_j y) .nil ?_
  rintro _ _ ⟨rfl, rfl⟩
  refine m_if 29 (((x : Nat) : Int) < ((y : Nat) : Int)) (fun c1 => ?_) (fun c1 => ?_)
  · -- yes
    exact m_ret 7 (.int .i64 (-1)) [] ⟨(by rw [cmpN_lt (by omega)]), by kernel_rfl⟩
  · -- no
    refine m_if 10 (((x : Nat) : Int) > ((y : Nat) : Int)) (fun c2 => ?_) (fun c2 => ?_)
    · -- yes
      exact m_ret 7 (.int .i64 1) [] ⟨(by rw [cmpN_gt (by omega)]), by kernel_rfl⟩
    · -- no
      exact m_ret 8 (.int .i64 0) [] ⟨(by rw [cmpN_eq (by omega)]), by kernel_rfl⟩

set_option maxRecDepth 100000 in
theorem isnan_u32_j (x : Nat) :
    Does Tryz.prog 91 #[(.int .u32 ((x : Nat) : Int))] [] [] (fun v H => v = (.bool false) ∧ H = []) := by
  refine m_fn fun F => ?_
  refine m_as 9 (.bool (!decide (((x : Nat) : Int) = ((x : Nat) : Int)))) (.bool false) (by rw [decide_eq_true rfl]; rfl) ?_
  exact m_ret 4 (.bool false) [] ⟨(rfl), by kernel_rfl⟩

set_option maxRecDepth 100000 in
theorem cmp_u32_j (x : Nat) (y : Nat) :
    Does Tryz.prog 76 #[(.int .u32 ((x : Nat) : Int)), (.int .u32 ((y : Nat) : Int))] [] [] (fun v H => v = (.int .i64 (cmpN x y)) ∧ H = []) := by
  refine m_fn fun F => ?_
  refine m_call 8 [] (isnan_u32_j x) .nil ?_
  rintro _ _ ⟨rfl, rfl⟩
  refine m_call 6 [] (isnan_u32_j y) .nil ?_
  rintro _ _ ⟨rfl, rfl⟩
  refine m_if 29 (((x : Nat) : Int) < ((y : Nat) : Int)) (fun c1 => ?_) (fun c1 => ?_)
  · -- yes
    exact m_ret 7 (.int .i64 (-1)) [] ⟨(by rw [cmpN_lt (by omega)]), by kernel_rfl⟩
  · -- no
    refine m_if 10 (((x : Nat) : Int) > ((y : Nat) : Int)) (fun c2 => ?_) (fun c2 => ?_)
    · -- yes
      exact m_ret 7 (.int .i64 1) [] ⟨(by rw [cmpN_gt (by omega)]), by kernel_rfl⟩
    · -- no
      exact m_ret 8 (.int .i64 0) [] ⟨(by rw [cmpN_eq (by omega)]), by kernel_rfl⟩

set_option maxRecDepth 100000 in
theorem slcmp_j (aoa : Option Addr) (aob : Option Addr) (ca : Nat) (cb : Nat) (a : List Nat) (b : List Nat) (ha : H32 a) (hb : H32 b) :
    Does Tryz.prog 92 #[(.slice aoa 32 ca), (.slice aob 32 cb)] [(.rd aoa (B a)), (.rd aob (B b))] [] (fun v H => v = (.int .i64 (cmpL a b)) ∧ H = []) := by
  have hla := ha.len; have hlb := hb.len
  refine m_fn fun F => ?_
  refine m_loop (X := Nat) 14 [0, 1, 9, 10] (fun (x : Nat) => [(11, (.int .i64 ((x : Nat) : Int)))]) [] (fun (x : Nat) => []) (fun (x : Nat) => (x ≤ 32) ∧ (cmpL a b = cmpL (a.drop x) (b.drop x))) (fun (x : Nat) => 32 - x) 0 (⟨Nat.zero_le _, rfl⟩) (fun x u1 hx => ?_)
  obtain ⟨i, rfl⟩ : ∃ y, y = x := ⟨x, rfl⟩
  obtain ⟨hi, hx⟩ := hx
  refine m_if 6 (((i : Nat) : Int) < (32 : Int)) (fun c2 => ?_) (fun c2 => ?_)
  · -- yes
    refine m_ix 7 1 1 32 i (B a) .i64 (by omega) (by rw [B_length, Nat.mul_one]; omega) ?_
    refine m_lx 0 1 (i * 1) (B a) (.int .u8 ((a.getD i 0 : Nat) : Int)) (by rw [Nat.mul_one]; exact B_getD _ _ (by omega)) ?_
    refine m_if 13 (((i : Nat) : Int) ≥ (32 : Int)) (fun c3 => absurd c3 (by omega)) (fun c3 => ?_)
    refine m_ix 6 2 1 32 i (B b) .i64 (by omega) (by rw [B_length, Nat.mul_one]; omega) ?_
    refine m_lx 0 2 (i * 1) (B b) (.int .u8 ((b.getD i 0 : Nat) : Int)) (by rw [Nat.mul_one]; exact B_getD _ _ (by omega)) ?_
    refine m_call 7 [] (cmp_u8_j (a.getD i 0) (b.getD i 0)) .nil ?_
    rintro _ _ ⟨rfl, rfl⟩
    refine m_ifn 9 ((cmpN (a.getD i 0) (b.getD i 0)) = (0 : Int)) (fun c4 => ?_) (fun c4 => ?_)
    · -- no
      refine m_i64 4 (((i : Nat) : Int) + (1 : Int)) (i + 1) (by omega) ?_
      exact m_back 2 (i + 1) [] ⟨⟨(by omega), cmpL_miss (by omega) (by omega) hx (by assumption)⟩, (by omega)⟩
    · -- yes
      exact m_ret 12 (.int .i64 (cmpN (a.getD i 0) (b.getD i 0))) [] ⟨(by rw [cmpL_hit (by omega) (by omega) hx (by assumption)]), by kernel_rfl⟩
  · -- no
    exact m_ret 24 (.int .i64 0) [] ⟨(by rw [hx, cmpL_end (by omega)]), by kernel_rfl⟩

set_option maxRecDepth 100000 in
theorem hashes_j (a : List Nat) (b : List Nat) (ha : H32 a) (hb : H32 b) :
    Does Tryz.prog 77 #[(.agg (hv a)), (.agg (hv b))] [] [] (fun v H => v = (.int .i64 (cmpL a b)) ∧ H = []) := by
  refine m_fn fun F => ?_
  refine m_new 2 fun b1 => ?_
  refine m_new 0 fun b2 => ?_
  refine m_plan 4 [] (.q 0 false (.q 1 false (.e 2 (.q 3 false .n)))) [] ?_
  refine m_call 2 [] (slcmp_j (some ⟨b1, 0, none⟩) (some ⟨b2, 0, none⟩) 32 32 a b ha hb) (.cons 2 (.hv 0 a ha.len) (.cons 1 (.hv 0 b hb.len) .nil)) ?_
  rintro _ _ ⟨rfl, rfl⟩
  refine m_thaw 2 ?_
  exact m_ret 2 (.int .i64 (cmpL a b)) [] ⟨(rfl), by kernel_rfl⟩

set_option maxRecDepth 100000 in
theorem longer_j (a : OKey) (b : OKey) (ha : OKey.Ok a) (hb : OKey.Ok b) :
    Does Tryz.prog 60 #[(.agg (a.cells)), (.agg (b.cells))] [] [] (fun v H => v = (.int .i64 (cmpN a.len b.len)) ∧ H = []) := by
  have hha_len := ha.len; have hhb_len := hb.len
  refine m_fn fun F => ?_
  refine m_new 2 fun b1 => ?_
  refine m_new 0 fun b2 => ?_
  refine m_ld 6 2 ?_
  refine m_ld 1 1 ?_
  refine m_call 0 [] (cmp_u32_j a.len b.len) .nil ?_
  rintro _ _ ⟨rfl, rfl⟩
  exact m_ret 4 (.int .i64 (cmpN a.len b.len)) [] ⟨(rfl), by kernel_rfl⟩

set_option maxRecDepth 100000 in
theorem drawn_j (a : OKey) (b : OKey) (ha : OKey.Ok a) (hb : OKey.Ok b) :
    Does Tryz.prog 61 #[(.agg (a.cells)), (.agg (b.cells))] [] [] (fun v H => v = (.int .i64 (cmpL a.draw b.draw)) ∧ H = []) := by
  have hha_len := ha.len; have hhb_len := hb.len
  refine m_fn fun F => ?_
  refine m_new 2 fun b1 => ?_
  refine m_new 0 fun b2 => ?_
  refine m_ld 6 2 ?_
  refine m_ld 1 1 ?_
  refine m_call 0 [] (hashes_j a.draw b.draw ha.draw hb.draw) .nil ?_
  rintro _ _ ⟨rfl, rfl⟩
  exact m_ret 4 (.int .i64 (cmpL a.draw b.draw)) [] ⟨(rfl), by kernel_rfl⟩

set_option maxRecDepth 100000 in
theorem named_j (a : OKey) (b : OKey) (ha : OKey.Ok a) (hb : OKey.Ok b) :
    Does Tryz.prog 62 #[(.agg (a.cells)), (.agg (b.cells))] [] [] (fun v H => v = (.int .i64 (cmpL a.hash b.hash)) ∧ H = []) := by
  have hha_len := ha.len; have hhb_len := hb.len
  refine m_fn fun F => ?_
  refine m_new 2 fun b1 => ?_
  refine m_new 0 fun b2 => ?_
  refine m_ld 6 2 ?_
  refine m_ld 1 1 ?_
  refine m_call 0 [] (hashes_j a.hash b.hash ha.hash hb.hash) .nil ?_
  rintro _ _ ⟨rfl, rfl⟩
  exact m_ret 4 (.int .i64 (cmpL a.hash b.hash)) [] ⟨(rfl), by kernel_rfl⟩

set_option maxRecDepth 100000 in
theorem by_j (bk : Nat) (a : OKey) (b : OKey) (ha : OKey.Ok a) (hb : OKey.Ok b) :
    Does Tryz.prog 59 #[(.agg (a.cells)), (.agg (b.cells)), (.slice (some ⟨bk, 0, none⟩) 3 3)] [(.blk bk #[(.func (.func 60) #[] #[]), (.func (.func 61) #[] #[]), (.func (.func 62) #[] #[])] 95)] [] (fun v H => v = (.int .i64 (cmpK a b)) ∧ H = []) := by
  have hha_len := ha.len; have hhb_len := hb.len
  refine m_fn fun F => ?_
  refine m_new 2 fun b1 => ?_
  refine m_new 0 fun b2 => ?_
  refine m_ld 27 1 ?_
  refine m_ld 6 3 ?_
  refine m_ld 0 2 ?_
  refine m_callv 0 [] (longer_j a b ha hb) .nil ?_
  rintro _ _ ⟨rfl, rfl⟩
  refine m_ifn 9 ((cmpN a.len b.len) = (0 : Int)) (fun c3 => ?_) (fun c3 => ?_)
  · -- no
    refine m_ld 22 1 ?_
    refine m_ld 6 3 ?_
    refine m_ld 0 2 ?_
    refine m_callv 0 [] (drawn_j a b ha hb) .nil ?_
    rintro _ _ ⟨rfl, rfl⟩
    refine m_ifn 9 ((cmpL a.draw b.draw) = (0 : Int)) (fun c4 => ?_) (fun c4 => ?_)
    · -- no
      refine m_ld 22 1 ?_
      refine m_ld 6 3 ?_
      refine m_ld 0 2 ?_
      refine m_callv 0 [] (named_j a b ha hb) .nil ?_
      rintro _ _ ⟨rfl, rfl⟩
      refine m_ifn 9 ((cmpL a.hash b.hash) = (0 : Int)) (fun c5 => ?_) (fun c5 => ?_)
      · -- no
        exact m_ret 26 (.int .i64 0) [] ⟨(by rw [cmpK_h (cmpN_0 (by assumption)) (by assumption)]; exact congrArg (Value.int .i64) (Eq.symm (by assumption))), by kernel_rfl⟩
      · -- yes
        exact m_ret 12 (.int .i64 (cmpL a.hash b.hash)) [] ⟨(by rw [cmpK_h (cmpN_0 (by assumption)) (by assumption)]), by kernel_rfl⟩
    · -- yes
      exact m_ret 12 (.int .i64 (cmpL a.draw b.draw)) [] ⟨(by rw [cmpK_d (cmpN_0 (by assumption)) (by assumption)]), by kernel_rfl⟩
  · -- yes
    exact m_ret 12 (.int .i64 (cmpN a.len b.len)) [] ⟨(by rw [cmpK_n1 (by assumption)]), by kernel_rfl⟩

set_option maxRecDepth 100000 in
theorem ocmp_j (a : OKey) (b : OKey) (ha : OKey.Ok a) (hb : OKey.Ok b) :
    Does Tryz.prog 42 #[(.agg (a.cells)), (.agg (b.cells))] [] [] (fun v H => v = (.int .i64 (cmpK a b)) ∧ H = []) := by
  have hha_len := ha.len; have hhb_len := hb.len
  refine m_fn fun F => ?_
  refine m_new 2 fun b1 => ?_
  refine m_new 0 fun b2 => ?_
  refine m_ld 5 2 ?_
  refine m_ld 0 1 ?_
  refine m_new 0 fun b3 => ?_
  refine m_call 0 [] (by_j b3 a b ha hb) (.cons 1 (.refl) .nil) ?_
  rintro _ _ ⟨rfl, rfl⟩
  exact m_ret 4 (.int .i64 (cmpK a b)) [] ⟨(rfl), by kernel_rfl⟩

set_option maxRecDepth 100000 in
theorem rhashes_j (a : List Nat) (b : List Nat) (ha : H32 a) (hb : H32 b) :
    Does Tryz.prog 44 #[(.agg (hv a)), (.agg (hv b))] [] [] (fun v H => v = (.int .i64 (cmpL a b)) ∧ H = []) := by
  have hla := ha.len; have hlb := hb.len
  refine m_fn fun F => ?_
  refine m_new 2 fun b1 => ?_
  refine m_new 0 fun b2 => ?_
  refine m_loop (X := Nat) 10 [2, 3] (fun (x : Nat) => [(5, (.int .i64 ((x : Nat) : Int)))]) [] (fun (x : Nat) => []) (fun (x : Nat) => (x ≤ 32) ∧ (cmpL a b = cmpL (a.drop x) (b.drop x))) (fun (x : Nat) => 32 - x) 0 (⟨Nat.zero_le _, rfl⟩) (fun x u3 hx => ?_)
  obtain ⟨i, rfl⟩ : ∃ y, y = x := ⟨x, rfl⟩
  obtain ⟨hi, hx⟩ := hx
  refine m_if 7 (((i : Nat) : Int) < (32 : Int)) (fun c4 => ?_) (fun c4 => ?_)
  · -- yes
    refine m_plan 6 [3, 4, 5] (.q 0 false (.q 1 false (.q 2 true (.q 3 false (.q 4 false (.q 5 true (.q 6 false .n))))))) [1, 0] ?_
    refine m_ixA 1 b1 0 1 32 i .i64 (by omega) ?_
    refine m_ldA 0 1 b1 (0 + i * 1) 23 (hv a) (.int .u8 ((a.getD i 0 : Nat) : Int)) (hv_get a (by omega)) ?_
    refine m_ixA 1 b2 0 1 32 i .i64 (by omega) ?_
    refine m_ldA 0 2 b2 (0 + i * 1) 23 (hv b) (.int .u8 ((b.getD i 0 : Nat) : Int)) (hv_get b (by omega)) ?_
    refine m_thaw 2 ?_
    refine m_if 1 (((a.getD i 0 : Nat) : Int) < ((b.getD i 0 : Nat) : Int)) (fun c5 => ?_) (fun c5 => ?_)
    · -- yes
      exact m_ret 12 (.int .i64 (-1)) [] ⟨(by rw [hx, cmpL_drop (by omega) (by omega), if_pos (by omega)]), by kernel_rfl⟩
    · -- no
      refine m_plan 3 [3, 4, 5] (.q 0 false (.q 1 false (.q 2 true (.q 3 false (.q 4 false (.q 5 true (.q 6 false .n))))))) [0, 0] ?_
      refine m_ixA 1 b1 0 1 32 i .i64 (by omega) ?_
      refine m_ldA 0 1 b1 (0 + i * 1) 23 (hv a) (.int .u8 ((a.getD i 0 : Nat) : Int)) (hv_get a (by omega)) ?_
      refine m_ixA 1 b2 0 1 32 i .i64 (by omega) ?_
      refine m_ldA 0 2 b2 (0 + i * 1) 23 (hv b) (.int .u8 ((b.getD i 0 : Nat) : Int)) (hv_get b (by omega)) ?_
      refine m_thaw 2 ?_
      refine m_if 1 (((a.getD i 0 : Nat) : Int) > ((b.getD i 0 : Nat) : Int)) (fun c6 => ?_) (fun c6 => ?_)
      · -- yes
        exact m_ret 11 (.int .i64 1) [] ⟨(by rw [hx, cmpL_drop (by omega) (by omega), if_neg (by omega), if_pos (by omega)]), by kernel_rfl⟩
      · -- no
        refine m_i64 5 (((i : Nat) : Int) + (1 : Int)) (i + 1) (by omega) ?_
        exact m_back 2 (i + 1) [1, 0] ⟨⟨(by omega), cmpL_miss (by omega) (by omega) hx (cmpN_eq (by omega))⟩, (by omega)⟩
  · -- no
    exact m_ret 11 (.int .i64 0) [] ⟨(by rw [hx, cmpL_end (by omega)]), by kernel_rfl⟩

set_option maxRecDepth 100000 in
theorem rocmp_j (a : OKey) (b : OKey) (ha : OKey.Ok a) (hb : OKey.Ok b) :
    Does Tryz.prog 25 #[(.agg (a.cells)), (.agg (b.cells))] [] [] (fun v H => v = (.int .i64 (cmpK a b)) ∧ H = []) := by
  have hha_len := ha.len; have hhb_len := hb.len
  refine m_fn fun F => ?_
  refine m_new 2 fun b1 => ?_
  refine m_new 0 fun b2 => ?_
  refine m_ld 7 2 ?_
  refine m_ld 1 1 ?_
  refine m_ifn 3 (((a.len : Nat) : Int) = ((b.len : Nat) : Int)) (fun c3 => ?_) (fun c3 => ?_)
  · -- no
    refine m_ld 6 2 ?_
    refine m_ld 1 1 ?_
    refine m_eqs 0 false (hv a.draw) (hv b.draw) (a.draw = b.draw) (hv_iff ha.draw.len hb.draw.len) (H32.wf ha.draw) (H32.wf hb.draw) (fun c4 => ?_) (fun c4 => ?_)
    · -- the same
      refine m_ld 8 2 ?_
      refine m_ld 1 1 ?_
      refine m_call 0 [] (rhashes_j a.hash b.hash ha.hash hb.hash) .nil ?_
      rintro _ _ ⟨rfl, rfl⟩
      exact m_ret 4 (.int .i64 (cmpL a.hash b.hash)) [] ⟨(by rw [cmpK_h (by omega) (by rw [c4]; exact cmpL_self _)]), by kernel_rfl⟩
    · -- not the same
      refine m_ld 6 2 ?_
      refine m_ld 1 1 ?_
      refine m_call 0 [] (rhashes_j a.draw b.draw ha.draw hb.draw) .nil ?_
      rintro _ _ ⟨rfl, rfl⟩
      exact m_ret 5 (.int .i64 (cmpL a.draw b.draw)) [] ⟨(by rw [cmpK_d (by omega) (fun e => c4 (cmpL_eq (ha.draw.len.trans hb.draw.len.symm) e))]), by kernel_rfl⟩
  · -- yes
    refine m_ld 4 2 ?_
    refine m_ld 1 1 ?_
    refine m_if 3 (((a.len : Nat) : Int) < ((b.len : Nat) : Int)) (fun c5 => ?_) (fun c5 => ?_)
    · -- yes
      exact m_ret 8 (.int .i64 (-1)) [] ⟨(by rw [cmpK_lt (by omega)]), by kernel_rfl⟩
    · -- no
      exact m_ret 9 (.int .i64 1) [] ⟨(by rw [cmpK_gt (by omega)]), by kernel_rfl⟩



set_option maxRecDepth 100000 in
theorem kof_j (s : SState) (hs : SState.Ok s) :
    Does Tryz.prog 43 #[(.agg (s.cells))] [(.rd (some ⟨0, 0, none⟩) ((hw KL).toList))] [] (fun v H => v = (.agg ((⟨s.len, s.draw, stH s⟩ : OKey).cells)) ∧ H = []) := by
  have hhs_slot := hs.slot; have hhs_len := hs.len; have hhs_count := hs.count; have hhs_win_min := hs.win.min; have hhs_win_ring_last := hs.win.ring.last; have hhs_win_ring_counts := hs.win.ring.counts; have hhs_eps_now_len := hs.eps.now.len; have hhs_eps_next_len := hs.eps.next.len
  refine m_fn fun F => ?_
  refine m_new 2 fun b1 => ?_
  refine m_new 0 fun b2 => ?_
  refine m_plan 3 [2, 3, 4, 5] (.q 0 false (.q 1 true (.q 2 false (.q 3 true (.q 4 true (.e 5 (.q 6 false (.e 7 .n)))))))) [1] ?_
  refine m_ld 1 2 ?_
  refine m_ld 1 2 ?_
  refine m_ld 0 2 ?_
  refine m_call 0 [] (stH_j s hs) (.cons 1 (.refl) .nil) ?_
  rintro _ _ ⟨rfl, rfl⟩
  refine m_thaw 0 ?_
  refine m_st 1 1 ?_
  refine m_thaw 1 ?_
  exact m_retC 2 [3] (.agg ((⟨s.len, s.draw, stH s⟩ : OKey).cells)) [] ⟨(rfl), by kernel_rfl⟩

set_option maxRecDepth 100000 in
theorem rkof_j (s : SState) (hs : SState.Ok s) :
    Does Tryz.prog 26 #[(.agg (s.cells))] [(.rd (some ⟨1, 0, none⟩) ((hw KL).toList))] [] (fun v H => v = (.agg ((⟨s.len, s.draw, stH s⟩ : OKey).cells)) ∧ H = []) := by
  have hhs_slot := hs.slot; have hhs_len := hs.len; have hhs_count := hs.count; have hhs_win_min := hs.win.min; have hhs_win_ring_last := hs.win.ring.last; have hhs_win_ring_counts := hs.win.ring.counts; have hhs_eps_now_len := hs.eps.now.len; have hhs_eps_next_len := hs.eps.next.len
  refine m_fn fun F => ?_
  refine m_new 2 fun b1 => ?_
  refine m_new 0 fun b2 => ?_
  refine m_plan 3 [2, 3, 4, 5] (.q 0 false (.q 1 true (.q 2 false (.q 3 true (.q 4 true (.e 5 (.q 6 false (.e 7 .n)))))))) [1] ?_
  refine m_ld 1 2 ?_
  refine m_ld 1 2 ?_
  refine m_ld 0 2 ?_
  refine m_call 0 [] (r9H_j s hs) (.cons 1 (.refl) .nil) ?_
  rintro _ _ ⟨rfl, rfl⟩
  refine m_thaw 0 ?_
  refine m_st 1 1 ?_
  refine m_thaw 1 ?_
  exact m_retC 2 [3] (.agg ((⟨s.len, s.draw, stH s⟩ : OKey).cells)) [] ⟨(rfl), by kernel_rfl⟩

end Go.Proofs.YtinmmamnldephaaGreatDoor
