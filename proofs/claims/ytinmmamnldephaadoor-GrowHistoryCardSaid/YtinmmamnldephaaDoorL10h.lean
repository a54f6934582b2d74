/- Layer 10's history. -/
import Derived.Test.YtinmmamnldephaaDoorL10a
import Derived.Test.YtinmmamnldephaaDoorLib8
import Derived.Test.YtinmmamnldephaaDoorLib7
import Derived.Test.YtinmmamnldephaaDoorLib6
namespace Go.Proofs.YtinmmamnldephaaDoor
open Go Go.RowKit Go.Alm
set_option maxRecDepth 100000 in
theorem counted_j (ao : Option Addr) (cap : Nat) (S : List Nat) (g : Int) (hS : AllN S) (hn : S.length ≤ 1000000) (hg : -9223372036854775808 ≤ g ∧ g ≤ 9223372036854775807) :
    Does Tryd.prog 17 #[(.slice ao S.length cap), (.int .i64 g)] [(.rd ao (RL nC S))] [] (fun v H => v = (.int .u32 ((subC S g : Nat) : Int)) ∧ H = []) := by
  refine m_fn fun F => ?_
  refine m_if 12 (g < (0 : Int)) (fun c1 => ?_) (fun c1 => ?_)
  · -- yes
    exact m_ret 7 (.int .u32 3) [] ⟨(by rw [subC_neg (by omega)]; first | done | rfl), by kernel_rfl⟩
  · -- no
    refine m_loop (X := Nat × Nat) 16 [1, 10, 11] (fun (x : Nat × Nat) => [(5, (.int .u32 ((x.2 : Nat) : Int))), (12, (.int .i64 ((x.1 : Nat) : Int)))]) [] (fun (x : Nat × Nat) => []) (fun (x : Nat × Nat) => (x.1 ≤ S.length) ∧ (x.2 = subC (S.take x.1) g) ∧ (x.2 ≤ x.1)) (fun (x : Nat × Nat) => S.length - x.1) (0, 0) (⟨Nat.zero_le _, (subC_nil (by omega)).symm, Nat.le_refl 0⟩) (fun x u2 hx => ?_)
    obtain ⟨i, n⟩ := x; dsimp only at hx
    obtain ⟨hi, hq, hni⟩ := hx
    have hsg : i < S.length → S.getD i 0 < 4294967296 := fun h => hS.get h
    refine m_if 6 (((i : Nat) : Int) < ((S.length : Nat) : Int)) (fun c3 => ?_) (fun c3 => ?_)
    · -- yes
      refine m_ix 6 1 1 S.length i (RL nC S) .i64 (by omega) (by rw [RL_length nC_size]; omega) ?_
      refine m_lx 0 1 (i * 1) (RL nC S) (.int .u32 ((S.getD i 0 : Nat) : Int)) (RL_get0 (k := i) nC_size 0 (by omega) (by decide) (by kernel_rfl)) ?_
      refine m_call 6 [] (rsub_j (S.getD i 0) (hS.get (by omega))) .nil ?_
      rintro _ _ ⟨rfl, rfl⟩
      refine m_i64 0 ((((S.getD i 0) / 3 : Nat) : Int)) ((S.getD i 0) / 3) (by omega) ?_
      refine m_if 4 ((((S.getD i 0) / 3 : Nat) : Int) = g) (fun c4 => ?_) (fun c4 => ?_)
      · -- yes
        refine m_u32 2 (((n : Nat) : Int) + (1 : Int)) (n + 1) (by omega) ?_
        refine m_i64 5 (((i : Nat) : Int) + (1 : Int)) (i + 1) (by omega) ?_
        exact m_back 2 (i + 1, n + 1) [] ⟨⟨(by omega), subC_yes (by omega) hq (by omega) (by omega), (by omega)⟩, (by omega)⟩
      · -- no
        refine m_i64 4 (((i : Nat) : Int) + (1 : Int)) (i + 1) (by omega) ?_
        exact m_back 2 (i + 1, n) [] ⟨⟨(by omega), subC_no (by omega) hq (by omega) (by omega), (by omega)⟩, (by omega)⟩
    · -- no
      exact m_ret 12 (.int .u32 ((n : Nat) : Int)) [] ⟨(by rw [hq, show i = S.length from by omega, List.take_length]), by kernel_rfl⟩

set_option maxRecDepth 100000 in
theorem whole_j (ao : Option Addr) (cap : Nat) (S : List Nat) (hS : AllN S) (hn : S.length ≤ 1000000) (hc : S.length ≤ cap) (hcm : cap ≤ 9223372036854775807) :
    Does Tryd.prog 15 #[(.slice ao S.length cap)] [(.rd ao (RL nC S))] [] (fun v H => v = (.int .u32 ((wholeN S S.length : Nat) : Int)) ∧ H = []) := by
  refine m_fn fun F => ?_
  refine m_loop (X := Nat × Nat) 19 [0, 8, 9] (fun (x : Nat × Nat) => [(3, (.int .u32 ((x.2 : Nat) : Int))), (10, (.int .i64 ((x.1 : Nat) : Int)))]) [] (fun (x : Nat × Nat) => []) (fun (x : Nat × Nat) => (x.1 ≤ S.length) ∧ (x.2 = wholeN S x.1) ∧ (x.2 ≤ 12)) (fun (x : Nat × Nat) => S.length - x.1) (0, 12) (⟨Nat.zero_le _, rfl, Nat.le_refl 12⟩) (fun x u1 hx => ?_)
  obtain ⟨i, out⟩ := x; dsimp only at hx
  obtain ⟨hi, hq, hol⟩ := hx
  have hsg : i < S.length → S.getD i 0 < 4294967296 := fun h => hS.get h; have hsg2 : i - 1 < S.length → S.getD (i - 1) 0 < 4294967296 := fun h => hS.get h; have htl : (S.take i).length ≤ i := (by rw [List.length_take]; omega); have hw1 := subC_le (S.take i) (((S.getD i 0 / 3 : Nat) : Int) - 1); have hw2 := subC_le (S.take i) (((S.getD i 0 / 3 : Nat) : Int) - 2); have hw3 := subC_le (S.take i) (((S.getD i 0 / 3 : Nat) : Int) - 3); have hw4 := subC_le (S.take i) (((S.getD i 0 / 3 : Nat) : Int) - 4)
  refine m_if 6 (((i : Nat) : Int) < ((S.length : Nat) : Int)) (fun c2 => ?_) (fun c2 => ?_)
  · -- yes
    refine m_ix 7 1 1 S.length i (RL nC S) .i64 (by omega) (by rw [RL_length nC_size]; omega) ?_
    refine m_lx 0 1 (i * 1) (RL nC S) (.int .u32 ((S.getD i 0 : Nat) : Int)) (RL_get0 (k := i) nC_size 0 (by omega) (by decide) (by kernel_rfl)) ?_
    refine m_plan 6 [8] (.q 0 false (.q 1 false (.q 2 false (.q 3 false (.q 4 false (.q 5 false (.q 6 false (.q 7 false (.q 9 false (.q 10 false (.q 11 false (.q 12 false (.q 13 true (.e 8 (.e 14 (.q 15 false (.q 16 false .n))))))))))))))))) [] ?_
    refine m_sp 2 (((i : Nat) : Int) = (0 : Int)) (fun c3 => ?_) (fun c3 => ?_)
    · -- yes
      refine m_thaw 15 ?_
      refine m_i64 7 (((i : Nat) : Int) + (1 : Int)) (i + 1) (by omega) ?_
      exact m_back 2 (i + 1, out) [] ⟨⟨(by omega), (by exact whole_skip hq (by omega)), (by omega)⟩, (by omega)⟩
    · -- no
      refine m_sp 3 (((S.getD i 0 : Nat) : Int) < (12 : Int)) (fun c4 => ?_) (fun c4 => ?_)
      · -- yes
        refine m_thaw 11 ?_
        refine m_i64 7 (((i : Nat) : Int) + (1 : Int)) (i + 1) (by omega) ?_
        exact m_back 2 (i + 1, out) [] ⟨⟨(by omega), (by exact whole_skip hq (by omega)), (by omega)⟩, (by omega)⟩
      · -- no
        refine m_i64 3 (((i : Nat) : Int) - (1 : Int)) (i - 1) (by omega) ?_
        refine m_ix 0 1 1 S.length (i - 1) (RL nC S) .i64 (by omega) (by rw [RL_length nC_size]; omega) ?_
        refine m_lx 0 1 ((i - 1) * 1) (RL nC S) (.int .u32 ((S.getD (i - 1) 0 : Nat) : Int)) (RL_get0 (k := i - 1) nC_size 0 (by omega) (by decide) (by kernel_rfl)) ?_
        refine m_call 0 [] (rsub_j (S.getD i 0) (hS.get (by omega))) .nil ?_
        rintro _ _ ⟨rfl, rfl⟩
        refine m_call 0 [] (rsub_j (S.getD (i - 1) 0) (hS.get (by omega))) .nil ?_
        rintro _ _ ⟨rfl, rfl⟩
        refine m_thaw 3 ?_
        refine m_if 1 ((((S.getD i 0) / 3 : Nat) : Int) = (((S.getD (i - 1) 0) / 3 : Nat) : Int)) (fun c5 => ?_) (fun c5 => ?_)
        · -- yes
          refine m_i64 5 (((i : Nat) : Int) + (1 : Int)) (i + 1) (by omega) ?_
          exact m_back 2 (i + 1, out) [] ⟨⟨(by omega), (by exact whole_skip hq (by omega)), (by omega)⟩, (by omega)⟩
        · -- no
          refine m_plan 27 [] (.q 0 false (.q 1 false (.q 2 false (.q 3 false (.q 4 false (.q 7 false (.e 5 (.q 6 false (.q 8 false (.e 9 (.q 10 false (.q 11 false .n)))))))))))) [] ?_
          refine m_slc 3 1 S.length cap 0 i cap ((S.take i).length) (cap - 0) ao ⟨(by omega), (by omega), (by omega)⟩ (by rw [List.length_take]; omega) rfl ?_
          refine m_call 2 [] (rsub_j (S.getD i 0) (hS.get (by omega))) .nil ?_
          rintro _ _ ⟨rfl, rfl⟩
          refine m_i64 0 ((((S.getD i 0) / 3 : Nat) : Int)) ((S.getD i 0) / 3) (by omega) ?_
          refine m_i 0 .i64 (IntKind.i64.wrap ((((S.getD i 0) / 3 : Nat) : Int) - (1 : Int))) ((((S.getD i 0) / 3 : Nat) : Int) - (1 : Int)) (wrapN_i64 (by omega) (by omega)) ?_
          refine m_call 0 [] (counted_j (cutA ao 0 cap 1) (cap - 0) (S.take i) ((((S.getD i 0) / 3 : Nat) : Int) - (1 : Int)) (hS.take _) (by rw [List.length_take]; omega) (by omega)) (.cons 1 (.cutX 0 i cap 1 (RL nC S) (RL nC (S.take i)) (by omega) (takeN_cut S i)) .nil) ?_
          rintro _ _ ⟨rfl, rfl⟩
          refine m_u32 0 ((0 : Int) + ((subC (S.take i) ((((S.getD i 0) / 3 : Nat) : Int) - (1 : Int)) : Nat) : Int)) (0 + (subC (S.take i) ((((S.getD i 0) / 3 : Nat) : Int) - (1 : Int)))) (by omega) ?_
          refine m_thaw 2 ?_
          refine m_plan 20 [] (.q 0 false (.q 1 false (.q 2 false (.q 3 false (.q 4 false (.q 7 false (.e 5 (.q 6 false (.q 8 false (.e 9 (.q 10 false (.q 11 false .n)))))))))))) [] ?_
          refine m_slc 3 1 S.length cap 0 i cap ((S.take i).length) (cap - 0) ao ⟨(by omega), (by omega), (by omega)⟩ (by rw [List.length_take]; omega) rfl ?_
          refine m_call 2 [] (rsub_j (S.getD i 0) (hS.get (by omega))) .nil ?_
          rintro _ _ ⟨rfl, rfl⟩
          refine m_i64 0 ((((S.getD i 0) / 3 : Nat) : Int)) ((S.getD i 0) / 3) (by omega) ?_
          refine m_i 0 .i64 (IntKind.i64.wrap ((((S.getD i 0) / 3 : Nat) : Int) - (2 : Int))) ((((S.getD i 0) / 3 : Nat) : Int) - (2 : Int)) (wrapN_i64 (by omega) (by omega)) ?_
          refine m_call 0 [] (counted_j (cutA ao 0 cap 1) (cap - 0) (S.take i) ((((S.getD i 0) / 3 : Nat) : Int) - (2 : Int)) (hS.take _) (by rw [List.length_take]; omega) (by omega)) (.cons 1 (.cutX 0 i cap 1 (RL nC S) (RL nC (S.take i)) (by omega) (takeN_cut S i)) .nil) ?_
          rintro _ _ ⟨rfl, rfl⟩
          refine m_u32 0 (((0 + (subC (S.take i) ((((S.getD i 0) / 3 : Nat) : Int) - (1 : Int))) : Nat) : Int) + ((subC (S.take i) ((((S.getD i 0) / 3 : Nat) : Int) - (2 : Int)) : Nat) : Int)) ((0 + (subC (S.take i) ((((S.getD i 0) / 3 : Nat) : Int) - (1 : Int)))) + (subC (S.take i) ((((S.getD i 0) / 3 : Nat) : Int) - (2 : Int)))) (by omega) ?_
          refine m_thaw 2 ?_
          refine m_plan 20 [] (.q 0 false (.q 1 false (.q 2 false (.q 3 false (.q 4 false (.q 7 false (.e 5 (.q 6 false (.q 8 false (.e 9 (.q 10 false (.q 11 false .n)))))))))))) [] ?_
          refine m_slc 3 1 S.length cap 0 i cap ((S.take i).length) (cap - 0) ao ⟨(by omega), (by omega), (by omega)⟩ (by rw [List.length_take]; omega) rfl ?_
          refine m_call 2 [] (rsub_j (S.getD i 0) (hS.get (by omega))) .nil ?_
          rintro _ _ ⟨rfl, rfl⟩
          refine m_i64 0 ((((S.getD i 0) / 3 : Nat) : Int)) ((S.getD i 0) / 3) (by omega) ?_
          refine m_i 0 .i64 (IntKind.i64.wrap ((((S.getD i 0) / 3 : Nat) : Int) - (3 : Int))) ((((S.getD i 0) / 3 : Nat) : Int) - (3 : Int)) (wrapN_i64 (by omega) (by omega)) ?_
          refine m_call 0 [] (counted_j (cutA ao 0 cap 1) (cap - 0) (S.take i) ((((S.getD i 0) / 3 : Nat) : Int) - (3 : Int)) (hS.take _) (by rw [List.length_take]; omega) (by omega)) (.cons 1 (.cutX 0 i cap 1 (RL nC S) (RL nC (S.take i)) (by omega) (takeN_cut S i)) .nil) ?_
          rintro _ _ ⟨rfl, rfl⟩
          refine m_u32 0 ((((0 + (subC (S.take i) ((((S.getD i 0) / 3 : Nat) : Int) - (1 : Int)))) + (subC (S.take i) ((((S.getD i 0) / 3 : Nat) : Int) - (2 : Int))) : Nat) : Int) + ((subC (S.take i) ((((S.getD i 0) / 3 : Nat) : Int) - (3 : Int)) : Nat) : Int)) (((0 + (subC (S.take i) ((((S.getD i 0) / 3 : Nat) : Int) - (1 : Int)))) + (subC (S.take i) ((((S.getD i 0) / 3 : Nat) : Int) - (2 : Int)))) + (subC (S.take i) ((((S.getD i 0) / 3 : Nat) : Int) - (3 : Int)))) (by omega) ?_
          refine m_thaw 2 ?_
          refine m_plan 20 [] (.q 0 false (.q 1 false (.q 2 false (.q 3 false (.q 4 false (.q 7 false (.e 5 (.q 6 false (.q 8 false (.e 9 (.q 10 false (.q 11 false .n)))))))))))) [] ?_
          refine m_slc 3 1 S.length cap 0 i cap ((S.take i).length) (cap - 0) ao ⟨(by omega), (by omega), (by omega)⟩ (by rw [List.length_take]; omega) rfl ?_
          refine m_call 2 [] (rsub_j (S.getD i 0) (hS.get (by omega))) .nil ?_
          rintro _ _ ⟨rfl, rfl⟩
          refine m_i64 0 ((((S.getD i 0) / 3 : Nat) : Int)) ((S.getD i 0) / 3) (by omega) ?_
          refine m_i 0 .i64 (IntKind.i64.wrap ((((S.getD i 0) / 3 : Nat) : Int) - (4 : Int))) ((((S.getD i 0) / 3 : Nat) : Int) - (4 : Int)) (wrapN_i64 (by omega) (by omega)) ?_
          refine m_call 0 [] (counted_j (cutA ao 0 cap 1) (cap - 0) (S.take i) ((((S.getD i 0) / 3 : Nat) : Int) - (4 : Int)) (hS.take _) (by rw [List.length_take]; omega) (by omega)) (.cons 1 (.cutX 0 i cap 1 (RL nC S) (RL nC (S.take i)) (by omega) (takeN_cut S i)) .nil) ?_
          rintro _ _ ⟨rfl, rfl⟩
          refine m_u32 0 (((((0 + (subC (S.take i) ((((S.getD i 0) / 3 : Nat) : Int) - (1 : Int)))) + (subC (S.take i) ((((S.getD i 0) / 3 : Nat) : Int) - (2 : Int)))) + (subC (S.take i) ((((S.getD i 0) / 3 : Nat) : Int) - (3 : Int))) : Nat) : Int) + ((subC (S.take i) ((((S.getD i 0) / 3 : Nat) : Int) - (4 : Int)) : Nat) : Int)) ((((0 + (subC (S.take i) ((((S.getD i 0) / 3 : Nat) : Int) - (1 : Int)))) + (subC (S.take i) ((((S.getD i 0) / 3 : Nat) : Int) - (2 : Int)))) + (subC (S.take i) ((((S.getD i 0) / 3 : Nat) : Int) - (3 : Int)))) + (subC (S.take i) ((((S.getD i 0) / 3 : Nat) : Int) - (4 : Int)))) (by omega) ?_
          refine m_thaw 2 ?_
          refine m_min 24 .u32 out ((((0 + (subC (S.take i) ((((S.getD i 0) / 3 : Nat) : Int) - (1 : Int)))) + (subC (S.take i) ((((S.getD i 0) / 3 : Nat) : Int) - (2 : Int)))) + (subC (S.take i) ((((S.getD i 0) / 3 : Nat) : Int) - (3 : Int)))) + (subC (S.take i) ((((S.getD i 0) / 3 : Nat) : Int) - (4 : Int)))) (min out ((((0 + (subC (S.take i) ((((S.getD i 0) / 3 : Nat) : Int) - (1 : Int)))) + (subC (S.take i) ((((S.getD i 0) / 3 : Nat) : Int) - (2 : Int)))) + (subC (S.take i) ((((S.getD i 0) / 3 : Nat) : Int) - (3 : Int)))) + (subC (S.take i) ((((S.getD i 0) / 3 : Nat) : Int) - (4 : Int))))) rfl ?_
          refine m_i64 5 (((i : Nat) : Int) + (1 : Int)) (i + 1) (by omega) ?_
          exact m_back 2 (i + 1, min out ((((0 + (subC (S.take i) ((((S.getD i 0) / 3 : Nat) : Int) - (1 : Int)))) + (subC (S.take i) ((((S.getD i 0) / 3 : Nat) : Int) - (2 : Int)))) + (subC (S.take i) ((((S.getD i 0) / 3 : Nat) : Int) - (3 : Int)))) + (subC (S.take i) ((((S.getD i 0) / 3 : Nat) : Int) - (4 : Int))))) [] ⟨⟨(by omega), (by exact whole_min hq (by omega) (by unfold winC; omega)), (by omega)⟩, (by omega)⟩
  · -- no
    exact m_ret 12 (.int .u32 ((out : Nat) : Int)) [] ⟨(by rw [hq, show i = S.length from by omega]), by kernel_rfl⟩

end Go.Proofs.YtinmmamnldephaaDoor
