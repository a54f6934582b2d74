/- Layers 6, 7 and 10 by the machine. -/
import Derived.Test.YtinmmamnldephaaDoorSJ
import Derived.Test.YtinmmamnldephaaDoorLib7
import Derived.Test.YtinmmamnldephaaDoorLib6
namespace Go.Proofs.YtinmmamnldephaaDoor
open Go Go.RowKit Go.Alm
set_option maxRecDepth 100000 in
theorem rsum_j (r : RRing) (hr : RRing.Ok r) (hF : RRing.Few r) :
    Does Tryd.prog 99 #[(.agg (r.cells))] [] [] (fun v H => v = (.int .u32 ((ringSum r : Nat) : Int)) ∧ H = []) := by
  have hf : r.counts.getD 0 0 + r.counts.getD 1 0 + r.counts.getD 2 0 + r.counts.getD 3 0 < 4294967295 := hF
  have hhr_last := hr.last; have hhr_counts := hr.counts
  refine m_fn fun F => ?_
  refine m_new 2 fun b1 => ?_
  refine m_ld 12 1 ?_
  refine m_u32 25 ((0 : Int) + ((r.counts.getD 0 0 : Nat) : Int)) (0 + (r.counts.getD 0 0)) (by omega) ?_
  refine m_u32 29 (((0 + (r.counts.getD 0 0) : Nat) : Int) + ((r.counts.getD 1 0 : Nat) : Int)) ((0 + (r.counts.getD 0 0)) + (r.counts.getD 1 0)) (by omega) ?_
  refine m_u32 29 ((((0 + (r.counts.getD 0 0)) + (r.counts.getD 1 0) : Nat) : Int) + ((r.counts.getD 2 0 : Nat) : Int)) (((0 + (r.counts.getD 0 0)) + (r.counts.getD 1 0)) + (r.counts.getD 2 0)) (by omega) ?_
  refine m_u32 29 (((((0 + (r.counts.getD 0 0)) + (r.counts.getD 1 0)) + (r.counts.getD 2 0) : Nat) : Int) + ((r.counts.getD 3 0 : Nat) : Int)) ((((0 + (r.counts.getD 0 0)) + (r.counts.getD 1 0)) + (r.counts.getD 2 0)) + (r.counts.getD 3 0)) (by omega) ?_
  exact m_ret 28 (.int .u32 (((((0 + (r.counts.getD 0 0)) + (r.counts.getD 1 0)) + (r.counts.getD 2 0)) + (r.counts.getD 3 0) : Nat) : Int)) [] ⟨(congrArg (fun n : Nat => Value.int .u32 (n : Int)) (by unfold ringSum RRing.cn; omega)), by kernel_rfl⟩


set_option maxRecDepth 100000 in
theorem passed_j (r : RRing) (sub : Nat) (hr : RRing.Ok r) (hs : sub < 4294967296) (hl : r.last < sub) :
    Does Tryd.prog 89 #[(.agg (r.cells)), (.int .u32 ((sub : Nat) : Int))] [] [] (fun v H => v = (.agg ((ringTo r (sub - 1)).cells)) ∧ H = []) := by
  have hhr_last := hr.last; have hhr_counts := hr.counts
  refine m_fn fun F => ?_
  refine m_new 2 fun b1 => ?_
  refine m_new 0 fun b2 => ?_
  refine m_ld 6 2 ?_
  refine m_u32 0 (((sub : Nat) : Int) - ((r.last : Nat) : Int)) (sub - r.last) (by omega) ?_
  refine m_u32 0 (((sub - r.last : Nat) : Int) - (1 : Int)) ((sub - r.last) - 1) (by omega) ?_
  refine m_if 10 ((((sub - r.last) - 1 : Nat) : Int) ≥ (4 : Int)) (fun c3 => ?_) (fun c3 => ?_)
  · -- yes
    refine m_clear 3 1 4 4 b1 1 (.int .u32 0) ?_
    refine m_min 6 .u32 ((sub - r.last) - 1) 4 (min ((sub - r.last) - 1) 4) rfl ?_
    refine m_loop (X := Nat × List Nat) 4 [2, 4, 17] (fun (x : Nat × List Nat) => [(18, (.int .u32 ((x.1 : Nat) : Int)))]) [1] (fun (x : Nat × List Nat) => [(.blk b1 ((⟨r.last, x.2⟩ : RRing).cells) 30)]) (fun (x : Nat × List Nat) => (x.1 ≤ min (sub - r.last - 1) 4) ∧ (N4 x.2) ∧ (x.2 = zp r (sub - r.last - 1) x.1)) (fun (x : Nat × List Nat) => min (sub - r.last - 1) 4 - x.1) (0, [0, 0, 0, 0]) (⟨Nat.zero_le _, n4_mk (by decide) (by decide) (by decide) (by decide), (zp_far r 0 (by omega)).symm⟩) (fun x u4 hx => ?_)
    obtain ⟨k, l⟩ := x; dsimp only at hx
    obtain ⟨hk, hl4, hq⟩ := hx
    refine m_if 6 (((k : Nat) : Int) < ((min ((sub - r.last) - 1) 4 : Nat) : Int)) (fun c5 => ?_) (fun c5 => ?_)
    · -- yes
      refine m_ld 12 1 ?_
      refine m_rem 0 .u32 (r.last) 4 ?_
      refine m_u32 0 (((r.last % 4 : Nat) : Int) + (1 : Int)) ((r.last % 4) + 1) (by omega) ?_
      refine m_u32 1 ((((r.last % 4) + 1 : Nat) : Int) + ((k : Nat) : Int)) (((r.last % 4) + 1) + k) (by omega) ?_
      refine m_call 0 [] (sring_j (((r.last % 4) + 1) + k) (by first | with_reducible assumption | omega | decide)) .nil ?_
      rintro _ _ ⟨rfl, rfl⟩
      refine m_ixA 1 b1 1 1 4 ((((r.last % 4) + 1) + k) % 4) .i64 (by omega) ?_
      refine m_stA 0 0 b1 (1 + ((((r.last % 4) + 1) + k) % 4) * 1) 30 (RRing.cells ⟨r.last, l⟩) (RRing.cells ⟨r.last, l.set ((((r.last % 4) + 1) + k) % 4) 0⟩) (.int .u32 0) (by rw [RRing.size]; omega) (RRing.put (hl4).1 (by omega)) ⟨rfl, rfl⟩ ?_
      refine m_u32 4 (((k : Nat) : Int) + (1 : Int)) (k + 1) (by omega) ?_
      exact m_back 2 (k + 1, (l.set ((((r.last % 4) + 1) + k) % 4) 0)) [0, 0] ⟨⟨(by omega), n4_set hl4 _ _ (by decide), (by rw [hq, zp_step])⟩, (by omega)⟩
    · -- no
      refine m_ld 7 1 ?_
      refine m_st 0 1 ?_
      exact m_retC 3 [2] (.agg ((⟨r.last, l⟩ : RRing).cells)) [] ⟨(by rw [← zp_end (k := k) hr hl (by omega), hq]), by kernel_rfl⟩
  · -- no
    refine m_min 6 .u32 ((sub - r.last) - 1) 4 (min ((sub - r.last) - 1) 4) rfl ?_
    refine m_loop (X := Nat × List Nat) 4 [2, 4, 17] (fun (x : Nat × List Nat) => [(18, (.int .u32 ((x.1 : Nat) : Int)))]) [1] (fun (x : Nat × List Nat) => [(.blk b1 ((⟨r.last, x.2⟩ : RRing).cells) 30)]) (fun (x : Nat × List Nat) => (x.1 ≤ min (sub - r.last - 1) 4) ∧ (N4 x.2) ∧ (x.2 = zp r (sub - r.last - 1) x.1)) (fun (x : Nat × List Nat) => min (sub - r.last - 1) 4 - x.1) (0, r.counts) (⟨Nat.zero_le _, hr.counts, (zp_near r (by omega)).symm⟩) (fun x u6 hx => ?_)
    obtain ⟨k, l⟩ := x; dsimp only at hx
    obtain ⟨hk, hl4, hq⟩ := hx
    refine m_if 6 (((k : Nat) : Int) < ((min ((sub - r.last) - 1) 4 : Nat) : Int)) (fun c7 => ?_) (fun c7 => ?_)
    · -- yes
      refine m_ld 12 1 ?_
      refine m_rem 0 .u32 (r.last) 4 ?_
      refine m_u32 0 (((r.last % 4 : Nat) : Int) + (1 : Int)) ((r.last % 4) + 1) (by omega) ?_
      refine m_u32 1 ((((r.last % 4) + 1 : Nat) : Int) + ((k : Nat) : Int)) (((r.last % 4) + 1) + k) (by omega) ?_
      refine m_call 0 [] (sring_j (((r.last % 4) + 1) + k) (by first | with_reducible assumption | omega | decide)) .nil ?_
      rintro _ _ ⟨rfl, rfl⟩
      refine m_ixA 1 b1 1 1 4 ((((r.last % 4) + 1) + k) % 4) .i64 (by omega) ?_
      refine m_stA 0 0 b1 (1 + ((((r.last % 4) + 1) + k) % 4) * 1) 30 (RRing.cells ⟨r.last, l⟩) (RRing.cells ⟨r.last, l.set ((((r.last % 4) + 1) + k) % 4) 0⟩) (.int .u32 0) (by rw [RRing.size]; omega) (RRing.put (hl4).1 (by omega)) ⟨rfl, rfl⟩ ?_
      refine m_u32 4 (((k : Nat) : Int) + (1 : Int)) (k + 1) (by omega) ?_
      exact m_back 2 (k + 1, (l.set ((((r.last % 4) + 1) + k) % 4) 0)) [0, 0] ⟨⟨(by omega), n4_set hl4 _ _ (by decide), (by rw [hq, zp_step])⟩, (by omega)⟩
    · -- no
      refine m_ld 7 1 ?_
      refine m_st 0 1 ?_
      exact m_retC 3 [2] (.agg ((⟨r.last, l⟩ : RRing).cells)) [] ⟨(by rw [← zp_end (k := k) hr hl (by omega), hq]), by kernel_rfl⟩

set_option maxRecDepth 100000 in
theorem before_j (r : RRing) (sub : Nat) (hr : RRing.Ok r) (hs : sub < 4294967296) (hR : RRing.Right r) :
    Does Tryd.prog 90 #[(.agg (r.cells)), (.int .u32 ((sub : Nat) : Int))] [] [] (fun v H => v = (.tuple #[(.int .u32 ((ringBef r sub : Nat) : Int)), (.int .i64 ((ringBE r sub : Nat) : Int))]) ∧ H = []) := by
  have hhr_last := hr.last; have hhr_counts := hr.counts
  refine m_fn fun F => ?_
  refine m_new 2 fun b1 => ?_
  refine m_ld 9 1 ?_
  refine m_if 3 (((sub : Nat) : Int) ≤ ((r.last : Nat) : Int)) (fun c2 => ?_) (fun c2 => ?_)
  · -- yes
    exact m_ret 8 (.tuple #[(.int .u32 0), (.int .i64 6)]) [] ⟨(by rw [ringBef, ringBE, if_pos (by omega), if_pos (by omega)]; kernel_rfl), by kernel_rfl⟩
  · -- no
    refine m_ld 4 1 ?_
    refine m_call 1 [] (passed_j r sub hr (by first | with_reducible assumption | omega | decide) (by first | with_reducible assumption | omega | decide)) .nil ?_
    rintro _ _ ⟨rfl, rfl⟩
    refine m_call 0 [] (rsum_j (ringTo r (sub - 1)) (ringTo_ok hr _) (ringTo_few hR.few _)) .nil ?_
    rintro _ _ ⟨rfl, rfl⟩
    exact m_ret 5 (.tuple #[(.int .u32 ((ringSum (ringTo r (sub - 1)) : Nat) : Int)), (.int .i64 0)]) [] ⟨(by rw [ringBef, ringBE, if_neg (by omega), if_neg (by omega)]; kernel_rfl), by kernel_rfl⟩

set_option maxRecDepth 100000 in
theorem rput_j (r : RRing) (sub : Nat) (hr : RRing.Ok r) (hs : sub < 4294967296) :
    Does Tryd.prog 63 #[(.agg (r.cells)), (.int .u32 ((sub : Nat) : Int))] [] [] (fun v H => v = (.tuple #[(.agg ((ringPut r sub).cells)), (.int .i64 ((ringPE r sub : Nat) : Int))]) ∧ H = []) := by
  have hhr_last := hr.last; have hhr_counts := hr.counts
  refine m_fn fun F => ?_
  refine m_new 2 fun b1 => ?_
  refine m_new 0 fun b2 => ?_
  refine m_call 6 [] (sring_j sub (by first | with_reducible assumption | omega | decide)) .nil ?_
  rintro _ _ ⟨rfl, rfl⟩
  refine m_ld 9 2 ?_
  refine m_if 4 (((sub : Nat) : Int) < ((r.last : Nat) : Int)) (fun c3 => ?_) (fun c3 => ?_)
  · -- yes
    refine m_st 3 0 ?_
    exact m_retC 6 [1, 0] (.tuple #[(.agg ((⟨0, [0, 0, 0, 0]⟩ : RRing).cells)), (.int .i64 6)]) [] ⟨(by rw [(putP_6 (by omega)).1, (putP_6 (by omega)).2]; kernel_rfl), by kernel_rfl⟩
  · -- no
    refine m_ld 4 2 ?_
    refine m_sp 1 (((sub : Nat) : Int) = ((r.last : Nat) : Int)) (fun c4 => ?_) (fun c4 => ?_)
    · -- yes
      refine m_ixA 2 b1 1 1 4 (sub % 4) .i64 (by omega) ?_
      refine m_ldA 0 2 b1 (1 + (sub % 4) * 1) 30 (RRing.cells r) (.int .u32 ((r.counts.getD (sub % 4) 0 : Nat) : Int)) (RRing.get (r := r) (by omega)) ?_
      refine m_if 5 (((r.counts.getD (sub % 4) 0 : Nat) : Int) ≥ (3 : Int)) (fun c5 => ?_) (fun c5 => ?_)
      · -- yes
        refine m_st 3 0 ?_
        exact m_retC 6 [1, 0] (.tuple #[(.agg ((⟨0, [0, 0, 0, 0]⟩ : RRing).cells)), (.int .i64 11)]) [] ⟨(by rw [(putP_11 (by omega) (by unfold RRing.cn; omega)).1, (putP_11 (by omega) (by unfold RRing.cn; omega)).2]; kernel_rfl), by kernel_rfl⟩
      · -- no
        refine m_ld 4 2 ?_
        refine m_if 4 (((sub : Nat) : Int) > ((r.last : Nat) : Int)) (fun c6 => ?_) (fun c6 => ?_)
        · -- yes
          refine m_ld 2 2 ?_
          refine m_call 1 [] (passed_j r sub hr (by first | with_reducible assumption | omega | decide) (by first | with_reducible assumption | omega | decide)) .nil ?_
          rintro _ _ ⟨rfl, rfl⟩
          refine m_st 0 1 ?_
          refine m_st 6 1 ?_
          refine m_ixA 1 b1 1 1 4 (sub % 4) .i64 (by omega) ?_
          refine m_stA 0 1 b1 (1 + (sub % 4) * 1) 30 (RRing.cells ⟨sub, ((ringTo r (sub - 1)).counts)⟩) (RRing.cells ⟨sub, ((ringTo r (sub - 1)).counts).set (sub % 4) 0⟩) (.int .u32 0) (by rw [RRing.size]; omega) (RRing.put ((ringTo_ok hr _).counts).1 (by omega)) ⟨rfl, rfl⟩ ?_
          refine m_ixA 7 b1 1 1 4 (sub % 4) .i64 (by omega) ?_
          refine m_ldA 0 2 b1 (1 + (sub % 4) * 1) 30 (RRing.cells (⟨sub, ((ringTo r (sub - 1)).counts).set (sub % 4) 0⟩ : RRing)) (.int .u32 (((((ringTo r (sub - 1)).counts).set (sub % 4) 0).getD (sub % 4) 0 : Nat) : Int)) (RRing.get (r := (⟨sub, ((ringTo r (sub - 1)).counts).set (sub % 4) 0⟩ : RRing)) (by omega)) ?_
          have hz := inc_zero (l := (ringTo r (sub - 1)).counts) rfl (p := sub % 4) (by omega)
          refine m_u32 0 ((((((ringTo r (sub - 1)).counts).set (sub % 4) 0).getD (sub % 4) 0 : Nat) : Int) + (1 : Int)) (((((ringTo r (sub - 1)).counts).set (sub % 4) 0).getD (sub % 4) 0) + 1) (by omega) ?_
          refine m_ixA 1 b1 1 1 4 (sub % 4) .i64 (by omega) ?_
          refine m_stA 0 1 b1 (1 + (sub % 4) * 1) 30 (RRing.cells ⟨sub, (((ringTo r (sub - 1)).counts).set (sub % 4) 0)⟩) (RRing.cells ⟨sub, (((ringTo r (sub - 1)).counts).set (sub % 4) 0).set (sub % 4) (((((ringTo r (sub - 1)).counts).set (sub % 4) 0).getD (sub % 4) 0) + 1)⟩) (.int .u32 ((((((ringTo r (sub - 1)).counts).set (sub % 4) 0).getD (sub % 4) 0) + 1 : Nat) : Int)) (by rw [RRing.size]; omega) (RRing.put ((n4_set (ringTo_ok hr _).counts _ _ (by decide))).1 (by omega)) ⟨rfl, rfl⟩ ?_
          refine m_ld 4 2 ?_
          refine m_st 0 0 ?_
          exact m_retC 4 [1, 0] (.tuple #[(.agg ((⟨sub, (((ringTo r (sub - 1)).counts).set (sub % 4) 0).set (sub % 4) (((((ringTo r (sub - 1)).counts).set (sub % 4) 0).getD (sub % 4) 0) + 1)⟩ : RRing).cells)), (.int .i64 0)]) [] ⟨(by rw [(putP_later (by omega)).1, (putP_later (by omega)).2]; kernel_rfl), by kernel_rfl⟩
        · -- no
          refine m_ixA 7 b1 1 1 4 (sub % 4) .i64 (by omega) ?_
          refine m_ldA 0 2 b1 (1 + (sub % 4) * 1) 30 (RRing.cells r) (.int .u32 ((r.counts.getD (sub % 4) 0 : Nat) : Int)) (RRing.get (r := r) (by omega)) ?_
          refine m_u32 0 (((r.counts.getD (sub % 4) 0 : Nat) : Int) + (1 : Int)) ((r.counts.getD (sub % 4) 0) + 1) (by omega) ?_
          refine m_ixA 1 b1 1 1 4 (sub % 4) .i64 (by omega) ?_
          refine m_stA 0 1 b1 (1 + (sub % 4) * 1) 30 (RRing.cells ⟨r.last, r.counts⟩) (RRing.cells ⟨r.last, r.counts.set (sub % 4) ((r.counts.getD (sub % 4) 0) + 1)⟩) (.int .u32 (((r.counts.getD (sub % 4) 0) + 1 : Nat) : Int)) (by rw [RRing.size]; omega) (RRing.put (hr.counts).1 (by omega)) ⟨rfl, rfl⟩ ?_
          refine m_ld 4 2 ?_
          refine m_st 0 0 ?_
          exact m_retC 4 [1, 0] (.tuple #[(.agg ((⟨r.last, r.counts.set (sub % 4) ((r.counts.getD (sub % 4) 0) + 1)⟩ : RRing).cells)), (.int .i64 0)]) [] ⟨(by rw [(putP_same hr (by omega) (by unfold RRing.cn; omega)).1, (putP_same hr (by omega) (by unfold RRing.cn; omega)).2]; kernel_rfl), by kernel_rfl⟩
    · -- no
      refine m_ld 14 2 ?_
      refine m_if 4 (((sub : Nat) : Int) > ((r.last : Nat) : Int)) (fun c7 => ?_) (fun c7 => ?_)
      · -- yes
        refine m_ld 2 2 ?_
        refine m_call 1 [] (passed_j r sub hr (by first | with_reducible assumption | omega | decide) (by first | with_reducible assumption | omega | decide)) .nil ?_
        rintro _ _ ⟨rfl, rfl⟩
        refine m_st 0 1 ?_
        refine m_st 6 1 ?_
        refine m_ixA 1 b1 1 1 4 (sub % 4) .i64 (by omega) ?_
        refine m_stA 0 1 b1 (1 + (sub % 4) * 1) 30 (RRing.cells ⟨sub, ((ringTo r (sub - 1)).counts)⟩) (RRing.cells ⟨sub, ((ringTo r (sub - 1)).counts).set (sub % 4) 0⟩) (.int .u32 0) (by rw [RRing.size]; omega) (RRing.put ((ringTo_ok hr _).counts).1 (by omega)) ⟨rfl, rfl⟩ ?_
        refine m_ixA 7 b1 1 1 4 (sub % 4) .i64 (by omega) ?_
        refine m_ldA 0 2 b1 (1 + (sub % 4) * 1) 30 (RRing.cells (⟨sub, ((ringTo r (sub - 1)).counts).set (sub % 4) 0⟩ : RRing)) (.int .u32 (((((ringTo r (sub - 1)).counts).set (sub % 4) 0).getD (sub % 4) 0 : Nat) : Int)) (RRing.get (r := (⟨sub, ((ringTo r (sub - 1)).counts).set (sub % 4) 0⟩ : RRing)) (by omega)) ?_
        have hz := inc_zero (l := (ringTo r (sub - 1)).counts) rfl (p := sub % 4) (by omega)
        refine m_u32 0 ((((((ringTo r (sub - 1)).counts).set (sub % 4) 0).getD (sub % 4) 0 : Nat) : Int) + (1 : Int)) (((((ringTo r (sub - 1)).counts).set (sub % 4) 0).getD (sub % 4) 0) + 1) (by omega) ?_
        refine m_ixA 1 b1 1 1 4 (sub % 4) .i64 (by omega) ?_
        refine m_stA 0 1 b1 (1 + (sub % 4) * 1) 30 (RRing.cells ⟨sub, (((ringTo r (sub - 1)).counts).set (sub % 4) 0)⟩) (RRing.cells ⟨sub, (((ringTo r (sub - 1)).counts).set (sub % 4) 0).set (sub % 4) (((((ringTo r (sub - 1)).counts).set (sub % 4) 0).getD (sub % 4) 0) + 1)⟩) (.int .u32 ((((((ringTo r (sub - 1)).counts).set (sub % 4) 0).getD (sub % 4) 0) + 1 : Nat) : Int)) (by rw [RRing.size]; omega) (RRing.put ((n4_set (ringTo_ok hr _).counts _ _ (by decide))).1 (by omega)) ⟨rfl, rfl⟩ ?_
        refine m_ld 4 2 ?_
        refine m_st 0 0 ?_
        exact m_retC 4 [1, 0] (.tuple #[(.agg ((⟨sub, (((ringTo r (sub - 1)).counts).set (sub % 4) 0).set (sub % 4) (((((ringTo r (sub - 1)).counts).set (sub % 4) 0).getD (sub % 4) 0) + 1)⟩ : RRing).cells)), (.int .i64 0)]) [] ⟨(by rw [(putP_later (by omega)).1, (putP_later (by omega)).2]; kernel_rfl), by kernel_rfl⟩
      · -- no
        refine m_ixA 7 b1 1 1 4 (sub % 4) .i64 (by omega) ?_
        refine m_ldA 0 2 b1 (1 + (sub % 4) * 1) 30 (RRing.cells r) (.int .u32 ((r.counts.getD (sub % 4) 0 : Nat) : Int)) (RRing.get (r := r) (by omega)) ?_
        refine m_u32 0 (((r.counts.getD (sub % 4) 0 : Nat) : Int) + (1 : Int)) ((r.counts.getD (sub % 4) 0) + 1) (by omega) ?_
        refine m_ixA 1 b1 1 1 4 (sub % 4) .i64 (by omega) ?_
        refine m_stA 0 1 b1 (1 + (sub % 4) * 1) 30 (RRing.cells ⟨r.last, r.counts⟩) (RRing.cells ⟨r.last, r.counts.set (sub % 4) ((r.counts.getD (sub % 4) 0) + 1)⟩) (.int .u32 (((r.counts.getD (sub % 4) 0) + 1 : Nat) : Int)) (by rw [RRing.size]; omega) (RRing.put (hr.counts).1 (by omega)) ⟨rfl, rfl⟩ ?_
        refine m_ld 4 2 ?_
        refine m_st 0 0 ?_
        exact m_retC 4 [1, 0] (.tuple #[(.agg ((⟨r.last, r.counts.set (sub % 4) ((r.counts.getD (sub % 4) 0) + 1)⟩ : RRing).cells)), (.int .i64 0)]) [] ⟨(by rw [(putP_same hr (by omega) (by unfold RRing.cn; omega)).1, (putP_same hr (by omega) (by unfold RRing.cn; omega)).2]; kernel_rfl), by kernel_rfl⟩





set_option maxRecDepth 100000 in
theorem least_j (xw : RWin) (s : Nat) (hxw : RWin.Ok xw) (hR : RRing.Right xw.ring) (hs : s < 4294967296) :
    Does Tryd.prog 64 #[(.agg ((aj (xw.cells) #[(.int .u32 ((s : Nat) : Int))])))] [] [] (fun v H => v = (.int .u32 ((winRel xw s : Nat) : Int)) ∧ H = []) := by
  have hhxw_min := hxw.min; have hhxw_ring_last := hxw.ring.last; have hhxw_ring_counts := hxw.ring.counts
  refine m_fn fun F => ?_
  refine m_new 2 fun b1 => ?_
  refine m_plan 4 [3, 4, 5] (.q 0 false (.q 1 false (.q 2 true (.q 3 false (.q 4 true (.e 5 (.e 6 (.q 7 false (.q 8 false (.q 9 false (.q 10 false (.q 11 false .n)))))))))))) [0] ?_
  refine m_ld 2 1 ?_
  refine m_ld 1 1 ?_
  refine m_call 0 [] (ssub_j s (by first | with_reducible assumption | omega | decide)) .nil ?_
  rintro _ _ ⟨rfl, rfl⟩
  refine m_thaw 0 ?_
  refine m_call 0 [] (before_j xw.ring (s / 3) hxw.ring (by first | with_reducible assumption | omega | decide) (by first | with_reducible assumption | omega | decide)) .nil ?_
  rintro _ _ ⟨rfl, rfl⟩
  refine m_thaw 6 ?_
  refine m_ld 5 1 ?_
  refine m_sp 1 (((s : Nat) : Int) < (12 : Int)) (fun c2 => ?_) (fun c2 => ?_)
  · -- yes
    refine m_ld 10 1 ?_
    exact m_ret 5 (.int .u32 ((xw.min : Nat) : Int)) [] ⟨(by rw [rel_min (by omega)]), by kernel_rfl⟩
  · -- no
    refine m_ifn 5 (((ringBE xw.ring (s / 3) : Nat) : Int) = (0 : Int)) (fun c3 => ?_) (fun c3 => ?_)
    · -- no
      refine m_ld 6 1 ?_
      refine m_min 1 .u32 xw.min (ringBef xw.ring (s / 3)) (min xw.min (ringBef xw.ring (s / 3))) rfl ?_
      exact m_ret 4 (.int .u32 ((min xw.min (ringBef xw.ring (s / 3)) : Nat) : Int)) [] ⟨(by rw [rel_least (by omega) (by omega)]), by kernel_rfl⟩
    · -- yes
      refine m_ld 4 1 ?_
      exact m_ret 5 (.int .u32 ((xw.min : Nat) : Int)) [] ⟨(by rw [rel_min (by omega)]), by kernel_rfl⟩

set_option maxRecDepth 100000 in
theorem wput_j (xw : RWin) (s : Nat) (hxw : RWin.Ok xw) (hR : RRing.Right xw.ring) (hs : s < 4294967296) :
    Does Tryd.prog 38 #[(.agg (xw.cells)), (.int .u32 ((s : Nat) : Int))] [] [] (fun v H => v = (.tuple #[(.agg ((winPut xw s).cells)), (.int .i64 ((ringPE xw.ring (s / 3) : Nat) : Int))]) ∧ H = []) := by
  have hhxw_min := hxw.min; have hhxw_ring_last := hxw.ring.last; have hhxw_ring_counts := hxw.ring.counts
  refine m_fn fun F => ?_
  refine m_new 2 fun b1 => ?_
  refine m_new 0 fun b2 => ?_
  refine m_cut (X := Nat) 4 [1, 2, 4] (fun (x : Nat) => [(6, (.pointer (some ⟨x, 0, none⟩))), (7, (.int .i64 ((ringPE xw.ring (s / 3) : Nat) : Int)))]) (fun (x : Nat) => [(.blk b1 (xw.cells) 32), (.blk x ((ringPut xw.ring (s / 3)).cells) 30), (.blk b2 (#[(.int .u32 0), (.int .u32 0), (.int .u32 0), (.int .u32 0), (.int .u32 0), (.int .u32 0)]) 32)]) (fun (x : Nat) => True) ?_ (fun x u4 hx => ?_)
  · -- in each order
    refine m_plan 0 [2, 3, 8] (.q 0 false (.q 1 true (.q 2 false (.f (.e 3 (.f (.e 4 (.q 5 false (.q 6 false (.q 7 false (.e 8 (.e 9 (.q 10 false .n))))))) (.e 8 (.e 4 (.q 5 false (.q 6 false (.q 7 false (.e 9 (.q 10 false .n))))))))) (.e 8 (.e 3 (.e 4 (.q 5 false (.q 6 false (.q 7 false (.e 9 (.q 10 false .n)))))))))))) [1] ?_
    refine m_ld 1 1 ?_
    refine m_fork 1 ?_ ?_
    · -- one of them
      refine m_call 0 [] (ssub_j s (by first | with_reducible assumption | omega | decide)) .nil ?_
      rintro _ _ ⟨rfl, rfl⟩
      refine m_fork 0 ?_ ?_
      · -- one of them
        refine m_call 0 [] (rput_j xw.ring (s / 3) hxw.ring (by first | with_reducible assumption | omega | decide)) .nil ?_
        rintro _ _ ⟨rfl, rfl⟩
        refine m_new 3 fun b5 => ?_
        refine m_thaw 0 ?_
        refine m_st 0 1 ?_
        refine m_thaw 2 ?_
        exact m_back 0 b5 [0, 0, 0] trivial
      · -- one of them
        refine m_new 0 fun b6 => ?_
        refine m_thaw 0 ?_
        refine m_call 0 [] (rput_j xw.ring (s / 3) hxw.ring (by first | with_reducible assumption | omega | decide)) .nil ?_
        rintro _ _ ⟨rfl, rfl⟩
        refine m_st 3 1 ?_
        refine m_thaw 2 ?_
        exact m_back 0 b6 [0, 0, 0] trivial
    · -- one of them
      refine m_new 0 fun b7 => ?_
      refine m_call 0 [] (ssub_j s (by first | with_reducible assumption | omega | decide)) .nil ?_
      rintro _ _ ⟨rfl, rfl⟩
      refine m_thaw 0 ?_
      refine m_call 0 [] (rput_j xw.ring (s / 3) hxw.ring (by first | with_reducible assumption | omega | decide)) .nil ?_
      rintro _ _ ⟨rfl, rfl⟩
      refine m_st 3 1 ?_
      refine m_thaw 2 ?_
      exact m_back 0 b7 [0, 0, 0] trivial
  · -- behind it
    obtain ⟨b3, rfl⟩ : ∃ y, y = x := ⟨x, rfl⟩
    refine m_ifn 8 (((ringPE xw.ring (s / 3) : Nat) : Int) = (0 : Int)) (fun c8 => ?_) (fun c8 => ?_)
    · -- no
      refine m_plan 3 [1, 3, 4] (.q 0 true (.q 1 false (.q 2 false (.q 4 true (.e 3 (.q 5 false (.e 6 (.q 7 false .n)))))))) [0, 0] ?_
      refine m_ld 0 1 ?_
      refine m_ld 2 2 ?_
      refine m_call 0 [] (least_j xw s hxw (by first | with_reducible assumption | omega | decide) (by first | with_reducible assumption | omega | decide)) .nil ?_
      rintro _ _ ⟨rfl, rfl⟩
      refine m_thaw 0 ?_
      refine m_st 1 2 ?_
      refine m_thaw 2 ?_
      exact m_retC 2 [3, 0] (.tuple #[(.agg ((⟨winRel xw s, ringPut xw.ring (s / 3)⟩ : RWin).cells)), (.int .i64 0)]) [] ⟨(by rw [winPut_yes (by omega), show ringPE xw.ring (s / 3) = 0 from by omega]; kernel_rfl), by kernel_rfl⟩
    · -- yes
      refine m_st 4 2 ?_
      exact m_retC 5 [3, 0] (.tuple #[(.agg ((⟨0, (⟨0, [0, 0, 0, 0]⟩ : RRing)⟩ : RWin).cells)), (.int .i64 ((ringPE xw.ring (s / 3) : Nat) : Int))]) [] ⟨(by rw [winPut_no (by omega)]; kernel_rfl), by kernel_rfl⟩

set_option maxRecDepth 100000 in
theorem wrel_j (xw : RWin) (s : Nat) (hxw : RWin.Ok xw) (hR : RRing.Right xw.ring) (hs : s < 4294967296) :
    Does Tryd.prog 91 #[(.agg (xw.cells)), (.int .u32 ((s : Nat) : Int))] [] [] (fun v H => v = (.int .u32 ((winRel xw s : Nat) : Int)) ∧ H = []) := by
  have hhxw_min := hxw.min; have hhxw_ring_last := hxw.ring.last; have hhxw_ring_counts := hxw.ring.counts
  refine m_fn fun F => ?_
  refine m_new 2 fun b1 => ?_
  refine m_ld 5 1 ?_
  refine m_call 2 [] (least_j xw s hxw (by first | with_reducible assumption | omega | decide) (by first | with_reducible assumption | omega | decide)) .nil ?_
  rintro _ _ ⟨rfl, rfl⟩
  exact m_ret 4 (.int .u32 ((winRel xw s : Nat) : Int)) [] ⟨(rfl), by kernel_rfl⟩



set_option maxRecDepth 100000 in
theorem first_j (bk : Nat) (e1 : Nat) (e2 : Nat) (e3 : Nat) (e4 : Nat) (_ : e1 < 9223372036854775808) (he2 : e2 < 9223372036854775808) (he3 : e3 < 9223372036854775808) (he4 : e4 < 9223372036854775808) :
    Does Tryd.prog 40 #[(.slice (some ⟨bk, 0, none⟩) 4 4)] [(.blk bk #[(.int .i64 ((e1 : Nat) : Int)), (.int .i64 ((e2 : Nat) : Int)), (.int .i64 ((e3 : Nat) : Int)), (.int .i64 ((e4 : Nat) : Int))] 41)] [] (fun v H => v = (.int .i64 ((firE e1 e2 e3 e4 : Nat) : Int)) ∧ H = []) := by
  refine m_fn fun F => ?_
  refine m_ld 29 1 ?_
  refine m_ifn 9 (((e1 : Nat) : Int) = (0 : Int)) (fun c1 => ?_) (fun c1 => ?_)
  · -- no
    refine m_ld 22 1 ?_
    refine m_ifn 9 (((e2 : Nat) : Int) = (0 : Int)) (fun c2 => ?_) (fun c2 => ?_)
    · -- no
      refine m_ld 22 1 ?_
      refine m_ifn 9 (((e3 : Nat) : Int) = (0 : Int)) (fun c3 => ?_) (fun c3 => ?_)
      · -- no
        refine m_ld 22 1 ?_
        refine m_ifn 9 (((e4 : Nat) : Int) = (0 : Int)) (fun c4 => ?_) (fun c4 => ?_)
        · -- no
          exact m_ret 26 (.int .i64 0) [] ⟨(congrArg (fun n : Nat => Value.int .i64 (n : Int)) (by unfold firE; split <;> (try split) <;> (try split) <;> omega)), by kernel_rfl⟩
        · -- yes
          exact m_ret 12 (.int .i64 ((e4 : Nat) : Int)) [] ⟨(congrArg (fun n : Nat => Value.int .i64 (n : Int)) (by unfold firE; split <;> (try split) <;> (try split) <;> omega)), by kernel_rfl⟩
      · -- yes
        exact m_ret 12 (.int .i64 ((e3 : Nat) : Int)) [] ⟨(congrArg (fun n : Nat => Value.int .i64 (n : Int)) (by unfold firE; split <;> (try split) <;> (try split) <;> omega)), by kernel_rfl⟩
    · -- yes
      exact m_ret 12 (.int .i64 ((e2 : Nat) : Int)) [] ⟨(congrArg (fun n : Nat => Value.int .i64 (n : Int)) (by unfold firE; split <;> (try split) <;> (try split) <;> omega)), by kernel_rfl⟩
  · -- yes
    exact m_ret 12 (.int .i64 ((e1 : Nat) : Int)) [] ⟨(congrArg (fun n : Nat => Value.int .i64 (n : Int)) (by unfold firE; split <;> (try split) <;> (try split) <;> omega)), by kernel_rfl⟩

set_option maxRecDepth 100000 in
theorem more_j (n : Nat) (k : Nat) (hn : n < 4294967296) (hk : k < 4294967296) :
    Does Tryd.prog 37 #[(.int .u32 ((n : Nat) : Int)), (.int .u32 ((k : Nat) : Int))] [] [] (fun v H => v = (.tuple #[(.int .u32 ((morV n k : Nat) : Int)), (.int .i64 ((morE n k : Nat) : Int))]) ∧ H = []) := by
  refine m_fn fun F => ?_
  refine m_call 10 [] (add32_j n k (by first | with_reducible assumption | omega | decide) (by first | with_reducible assumption | omega | decide)) .nil ?_
  rintro _ _ ⟨rfl, rfl⟩
  refine m_ifn 14 (n + k < 4294967296) (fun c1 => ?_) (fun c1 => ?_)
  · -- no
    exact m_ret 10 (.tuple #[(.int .u32 ((nar (n + k) : Nat) : Int)), (.int .i64 0)]) [] ⟨(by rw [morV, morE, if_pos (by omega), if_pos (by omega), nar_yes (by omega)]; kernel_rfl), by kernel_rfl⟩
  · -- yes
    exact m_ret 8 (.tuple #[(.int .u32 0), (.int .i64 5)]) [] ⟨(by rw [morV, morE, if_neg (by omega), if_neg (by omega)]; kernel_rfl), by kernel_rfl⟩

set_option maxRecDepth 100000 in
theorem child_j (s : SState) (b : GBlk) (hs : SState.Ok s) (hR : SState.Right s) (hb : GBlk.Ok b) :
    Does Tryd.prog 14 #[(.agg (s.cells)), (.agg (b.cells))] [(.rd (some ⟨1, 0, none⟩) ((hw KL).toList))] [] (fun v H => v = (.tuple #[(.agg ((childS s b).cells)), (.int .i64 ((childE s b : Nat) : Int))]) ∧ H = []) := by
  have hRR := hR.1.2
  have hhs_slot := hs.slot; have hhs_len := hs.len; have hhs_count := hs.count; have hhs_win_min := hs.win.min; have hhs_win_ring_last := hs.win.ring.last; have hhs_win_ring_counts := hs.win.ring.counts; have hhs_eps_now_len := hs.eps.now.len; have hhs_eps_next_len := hs.eps.next.len; have hhb_slot := hb.slot
  refine m_fn fun F => ?_
  refine m_new 2 fun b1 => ?_
  refine m_new 0 fun b2 => ?_
  refine m_new 0 fun b3 => ?_
  refine m_ld 7 3 ?_
  refine m_ld 1 4 ?_
  refine m_if 3 (((b.slot : Nat) : Int) ≤ ((s.slot : Nat) : Int)) (fun c4 => ?_) (fun c4 => ?_)
  · -- yes
    refine m_stW 3 0 363 ((⟨Z32, Z32, Z32, 0, 0, 0, (⟨0, (⟨0, [0, 0, 0, 0]⟩ : RRing)⟩ : RWin), (⟨(⟨Z32, Z32, Z32, Z32, 0⟩ : EData), (⟨Z32, Z32, Z32, Z32, 0⟩ : EData)⟩ : EPair)⟩ : SState).cells) (SState.size _) (SState.ones _) ?_
    exact m_retCW 5 2 [0] 363 b3 38 ((⟨Z32, Z32, Z32, 0, 0, 0, (⟨0, (⟨0, [0, 0, 0, 0]⟩ : RRing)⟩ : RWin), (⟨(⟨Z32, Z32, Z32, Z32, 0⟩ : EData), (⟨Z32, Z32, Z32, Z32, 0⟩ : EData)⟩ : EPair)⟩ : SState).cells) (SState.size _) (.tuple #[(.agg ((⟨Z32, Z32, Z32, 0, 0, 0, (⟨0, (⟨0, [0, 0, 0, 0]⟩ : RRing)⟩ : RWin), (⟨(⟨Z32, Z32, Z32, Z32, 0⟩ : EData), (⟨Z32, Z32, Z32, Z32, 0⟩ : EData)⟩ : EPair)⟩ : SState).cells)), (.int .i64 6)]) [] ⟨(by rw [(child_slot (by omega)).1, (child_slot (by omega)).2]; kernel_rfl), by kernel_rfl⟩
  · -- no
    refine m_ld 11 4 ?_
    refine m_ld 1 3 ?_
    refine m_call 0 [] (sturns_j s.slot b.slot (by first | with_reducible assumption | omega | decide) (by first | with_reducible assumption | omega | decide)) .nil ?_
    rintro _ _ ⟨rfl, rfl⟩
    refine m_if 2 (((b.slot / 24 : Nat) : Int) > ((s.slot / 24 : Nat) : Int)) (fun c5 => ?_) (fun c5 => ?_)
    · -- yes
      refine m_ldW 6 4 b1 38 363 (s.cells) (SState.size _) ?_
      refine m_call 0 [] (stH_j s hs) (.cons 1 (.refl) .nil) ?_
      rintro _ _ ⟨rfl, rfl⟩
      refine m_new 0 fun b6 => ?_
      refine m_st 0 0 ?_
      refine m_ld 5 5 ?_
      refine m_call 0 [] (more_j s.len 1 (by first | with_reducible assumption | omega | decide) (by first | with_reducible assumption | omega | decide)) .nil ?_
      rintro _ _ ⟨rfl, rfl⟩
      refine m_ld 10 5 ?_
      refine m_call 1 [] (more_j s.count 1 (by first | with_reducible assumption | omega | decide) (by first | with_reducible assumption | omega | decide)) .nil ?_
      rintro _ _ ⟨rfl, rfl⟩
      refine m_ld 10 5 ?_
      refine m_ld 1 4 ?_
      refine m_call 0 [] (wput_j s.win b.slot hs.win (by first | with_reducible assumption | omega | decide) (by first | with_reducible assumption | omega | decide)) .nil ?_
      rintro _ _ ⟨rfl, rfl⟩
      refine m_new 3 fun b7 => ?_
      refine m_st 0 0 ?_
      refine m_ld 6 6 ?_
      refine m_ld 1 6 ?_
      refine m_ld 1 5 ?_
      refine m_ld 0 3 ?_
      refine m_ld 1 6 ?_
      refine m_ld 1 5 ?_
      refine m_call 1 [] (efollow_j s.eps (⟨s.slot, b.slot, stH s, s.led, b.draw⟩ : EBlk) hs.eps ⟨(by first | omega | decide | exact nar_lt _ | with_reducible assumption | (dsimp only; first | omega | exact nar_lt _)), (by first | omega | decide | exact nar_lt _ | with_reducible assumption | (dsimp only; first | omega | exact nar_lt _)), (stH_ok _), hs.led, hb.draw⟩) (.cons 1 (.refl) .nil) ?_
      rintro _ _ ⟨hv8, rfl⟩
      rw [show ((.tuple #[(.agg ((folP s.eps (⟨s.slot, b.slot, stH s, s.led, b.draw⟩ : EBlk)).cells)), (.int .i64 ((folE s.eps (⟨s.slot, b.slot, stH s, s.led, b.draw⟩ : EBlk) : Nat) : Int))]) : Value) = (.tuple #[(.agg ((folP s.eps (gblkE s b)).cells)), (.int .i64 ((folE s.eps (gblkE s b) : Nat) : Int))]) from rfl] at hv8; subst hv8
      refine m_new 3 fun b9 => ?_
      refine m_st 0 0 ?_
      refine m_new 10 fun b10 => ?_
      refine m_call 0 [] (first_j b10 (morE s.len 1) (morE s.count 1) (ringPE s.win.ring (b.slot / 3)) (folE s.eps (gblkE s b)) (morE_lt _ _) (morE_lt _ _) (ringPE_lt _ _) (folE_lt _ _)) (.cons 2 (.refl) .nil) ?_
      rintro _ _ ⟨rfl, rfl⟩
      refine m_ifn 9 (((firE (morE s.len 1) (morE s.count 1) (ringPE s.win.ring (b.slot / 3)) (folE s.eps (gblkE s b)) : Nat) : Int) = (0 : Int)) (fun c11 => ?_) (fun c11 => ?_)
      · -- no
        refine m_ld 4 5 ?_
        refine m_ld 1 7 ?_
        refine m_ld 1 7 ?_
        refine m_ld 1 7 ?_
        refine m_ld 2 4 ?_
        refine m_ld 0 3 ?_
        refine m_stW 1 4 363 ((⟨stH s, b.led, b.draw, b.slot, morV s.len 1, morV s.count 1, winPut s.win b.slot, folP s.eps (gblkE s b)⟩ : SState).cells) (SState.size _) (SState.ones _) ?_
        exact m_retCW 4 6 [0] 363 b3 38 ((⟨stH s, b.led, b.draw, b.slot, morV s.len 1, morV s.count 1, winPut s.win b.slot, folP s.eps (gblkE s b)⟩ : SState).cells) (SState.size _) (.tuple #[(.agg ((⟨stH s, b.led, b.draw, b.slot, morV s.len 1, morV s.count 1, winPut s.win b.slot, folP s.eps (gblkE s b)⟩ : SState).cells)), (.int .i64 0)]) [] ⟨(by rw [(child_yes (by omega) (turn_1 (by omega)) (by omega)).1, (child_yes (by omega) (turn_1 (by omega)) (by omega)).2]; kernel_rfl), by kernel_rfl⟩
      · -- yes
        refine m_stW 4 4 363 ((⟨Z32, Z32, Z32, 0, 0, 0, (⟨0, (⟨0, [0, 0, 0, 0]⟩ : RRing)⟩ : RWin), (⟨(⟨Z32, Z32, Z32, Z32, 0⟩ : EData), (⟨Z32, Z32, Z32, Z32, 0⟩ : EData)⟩ : EPair)⟩ : SState).cells) (SState.size _) (SState.ones _) ?_
        exact m_retCW 5 6 [0] 363 b3 38 ((⟨Z32, Z32, Z32, 0, 0, 0, (⟨0, (⟨0, [0, 0, 0, 0]⟩ : RRing)⟩ : RWin), (⟨(⟨Z32, Z32, Z32, Z32, 0⟩ : EData), (⟨Z32, Z32, Z32, Z32, 0⟩ : EData)⟩ : EPair)⟩ : SState).cells) (SState.size _) (.tuple #[(.agg ((⟨Z32, Z32, Z32, 0, 0, 0, (⟨0, (⟨0, [0, 0, 0, 0]⟩ : RRing)⟩ : RWin), (⟨(⟨Z32, Z32, Z32, Z32, 0⟩ : EData), (⟨Z32, Z32, Z32, Z32, 0⟩ : EData)⟩ : EPair)⟩ : SState).cells)), (.int .i64 ((firE (morE s.len 1) (morE s.count 1) (ringPE s.win.ring (b.slot / 3)) (folE s.eps (gblkE s b)) : Nat) : Int))]) [] ⟨(by rw [(child_no (by omega) (turn_1 (by omega)) (by omega)).1, (child_no (by omega) (turn_1 (by omega)) (by omega)).2]; kernel_rfl), by kernel_rfl⟩
    · -- no
      refine m_ldW 4 4 b1 38 363 (s.cells) (SState.size _) ?_
      refine m_call 0 [] (stH_j s hs) (.cons 1 (.refl) .nil) ?_
      rintro _ _ ⟨rfl, rfl⟩
      refine m_new 0 fun b12 => ?_
      refine m_st 0 0 ?_
      refine m_ld 5 5 ?_
      refine m_call 0 [] (more_j s.len 1 (by first | with_reducible assumption | omega | decide) (by first | with_reducible assumption | omega | decide)) .nil ?_
      rintro _ _ ⟨rfl, rfl⟩
      refine m_ld 10 5 ?_
      refine m_call 1 [] (more_j s.count 0 (by first | with_reducible assumption | omega | decide) (by first | with_reducible assumption | omega | decide)) .nil ?_
      rintro _ _ ⟨rfl, rfl⟩
      refine m_ld 10 5 ?_
      refine m_ld 1 4 ?_
      refine m_call 0 [] (wput_j s.win b.slot hs.win (by first | with_reducible assumption | omega | decide) (by first | with_reducible assumption | omega | decide)) .nil ?_
      rintro _ _ ⟨rfl, rfl⟩
      refine m_new 3 fun b13 => ?_
      refine m_st 0 0 ?_
      refine m_ld 6 6 ?_
      refine m_ld 1 6 ?_
      refine m_ld 1 5 ?_
      refine m_ld 0 3 ?_
      refine m_ld 1 6 ?_
      refine m_ld 1 5 ?_
      refine m_call 1 [] (efollow_j s.eps (⟨s.slot, b.slot, stH s, s.led, b.draw⟩ : EBlk) hs.eps ⟨(by first | omega | decide | exact nar_lt _ | with_reducible assumption | (dsimp only; first | omega | exact nar_lt _)), (by first | omega | decide | exact nar_lt _ | with_reducible assumption | (dsimp only; first | omega | exact nar_lt _)), (stH_ok _), hs.led, hb.draw⟩) (.cons 1 (.refl) .nil) ?_
      rintro _ _ ⟨hv14, rfl⟩
      rw [show ((.tuple #[(.agg ((folP s.eps (⟨s.slot, b.slot, stH s, s.led, b.draw⟩ : EBlk)).cells)), (.int .i64 ((folE s.eps (⟨s.slot, b.slot, stH s, s.led, b.draw⟩ : EBlk) : Nat) : Int))]) : Value) = (.tuple #[(.agg ((folP s.eps (gblkE s b)).cells)), (.int .i64 ((folE s.eps (gblkE s b) : Nat) : Int))]) from rfl] at hv14; subst hv14
      refine m_new 3 fun b15 => ?_
      refine m_st 0 0 ?_
      refine m_new 10 fun b16 => ?_
      refine m_call 0 [] (first_j b16 (morE s.len 1) (morE s.count 0) (ringPE s.win.ring (b.slot / 3)) (folE s.eps (gblkE s b)) (morE_lt _ _) (morE_lt _ _) (ringPE_lt _ _) (folE_lt _ _)) (.cons 2 (.refl) .nil) ?_
      rintro _ _ ⟨rfl, rfl⟩
      refine m_ifn 9 (((firE (morE s.len 1) (morE s.count 0) (ringPE s.win.ring (b.slot / 3)) (folE s.eps (gblkE s b)) : Nat) : Int) = (0 : Int)) (fun c17 => ?_) (fun c17 => ?_)
      · -- no
        refine m_ld 4 5 ?_
        refine m_ld 1 7 ?_
        refine m_ld 1 7 ?_
        refine m_ld 1 7 ?_
        refine m_ld 2 4 ?_
        refine m_ld 0 3 ?_
        refine m_stW 1 4 363 ((⟨stH s, b.led, b.draw, b.slot, morV s.len 1, morV s.count 0, winPut s.win b.slot, folP s.eps (gblkE s b)⟩ : SState).cells) (SState.size _) (SState.ones _) ?_
        exact m_retCW 4 6 [0] 363 b3 38 ((⟨stH s, b.led, b.draw, b.slot, morV s.len 1, morV s.count 0, winPut s.win b.slot, folP s.eps (gblkE s b)⟩ : SState).cells) (SState.size _) (.tuple #[(.agg ((⟨stH s, b.led, b.draw, b.slot, morV s.len 1, morV s.count 0, winPut s.win b.slot, folP s.eps (gblkE s b)⟩ : SState).cells)), (.int .i64 0)]) [] ⟨(by rw [(child_yes (by omega) (turn_0 (by omega)) (by omega)).1, (child_yes (by omega) (turn_0 (by omega)) (by omega)).2]; kernel_rfl), by kernel_rfl⟩
      · -- yes
        refine m_stW 4 4 363 ((⟨Z32, Z32, Z32, 0, 0, 0, (⟨0, (⟨0, [0, 0, 0, 0]⟩ : RRing)⟩ : RWin), (⟨(⟨Z32, Z32, Z32, Z32, 0⟩ : EData), (⟨Z32, Z32, Z32, Z32, 0⟩ : EData)⟩ : EPair)⟩ : SState).cells) (SState.size _) (SState.ones _) ?_
        exact m_retCW 5 6 [0] 363 b3 38 ((⟨Z32, Z32, Z32, 0, 0, 0, (⟨0, (⟨0, [0, 0, 0, 0]⟩ : RRing)⟩ : RWin), (⟨(⟨Z32, Z32, Z32, Z32, 0⟩ : EData), (⟨Z32, Z32, Z32, Z32, 0⟩ : EData)⟩ : EPair)⟩ : SState).cells) (SState.size _) (.tuple #[(.agg ((⟨Z32, Z32, Z32, 0, 0, 0, (⟨0, (⟨0, [0, 0, 0, 0]⟩ : RRing)⟩ : RWin), (⟨(⟨Z32, Z32, Z32, Z32, 0⟩ : EData), (⟨Z32, Z32, Z32, Z32, 0⟩ : EData)⟩ : EPair)⟩ : SState).cells)), (.int .i64 ((firE (morE s.len 1) (morE s.count 0) (ringPE s.win.ring (b.slot / 3)) (folE s.eps (gblkE s b)) : Nat) : Int))]) [] ⟨(by rw [(child_no (by omega) (turn_0 (by omega)) (by omega)).1, (child_no (by omega) (turn_0 (by omega)) (by omega)).2]; kernel_rfl), by kernel_rfl⟩


end Go.Proofs.YtinmmamnldephaaDoor
