/- Layer 9 by the machine. -/
import Derived.Test.YtinmmamnldephaaDoorNJ
import Derived.Test.YtinmmamnldephaaDoorWO
import Derived.Test.YtinmmamnldephaaDoorLib5
import Derived.Test.YtinmmamnldephaaDoorLib6
namespace Go.Proofs.YtinmmamnldephaaDoor
open Go Go.RowKit Go.Alm
set_option maxRecDepth 100000 in
theorem parts_j (sb : Nat) :
    Does Tryd.prog 56 #[(.pointer (some ⟨sb, 0, none⟩))] [] [] (fun v H => ∃ (b' : Nat), v = (.func (.func 79) #[] #[(.pointer (some ⟨b', 0, none⟩))]) ∧ H = [(.blk b' #[(.pointer (some ⟨sb, 0, none⟩))] 147)]) := by
  refine m_fn fun F => ?_
  refine m_new 2 fun b1 => ?_
  exact m_ret 10 (.func (.func 79) #[] #[(.pointer (some ⟨b1, 0, none⟩))]) [0] ⟨b1, (rfl), by kernel_rfl⟩

set_option maxRecDepth 100000 in
theorem hashes3_j (X : Type) (l : Nat) (yb : Nat) (bk : Nat) (sb : Nat) (o0 : Nat) (o1 : Nat) (o2 : Nat) (I0 : X → Re) (I1 : X → Re) (I2 : X → Re) (I3 : X → Re) (x : X) (h0 : YD Tryd.prog l #[(.pointer (some ⟨sb, o0, none⟩)), (.pointer none)] I0 I1) (h1 : YD Tryd.prog l #[(.pointer (some ⟨sb, o1, none⟩)), (.pointer none)] I1 I2) (h2 : YD Tryd.prog l #[(.pointer (some ⟨sb, o2, none⟩)), (.pointer none)] I2 I3) :
    Does Tryd.prog 80 #[(.slice (some ⟨bk, 0, none⟩) 3 3), (.pointer (some ⟨yb, 0, none⟩))] [(.blk bk #[(.pointer (some ⟨sb, o0, none⟩)), (.pointer (some ⟨sb, o1, none⟩)), (.pointer (some ⟨sb, o2, none⟩))] 119), (.blk yb #[(.func (.yield l) #[] #[])] 148)] [(.gen (I0 x))] (fun v H => ∃ (y : X), v = (.bool true) ∧ H = [(.gen (I3 y))]) := by
  refine m_fn fun F => ?_
  refine m_ld 29 1 ?_
  refine m_ld 5 2 ?_
  refine m_yield 1 [0] x h0 (fun y1 => ?_)
  refine m_ld 26 1 ?_
  refine m_ld 5 2 ?_
  refine m_yield 1 [0] y1 h1 (fun y2 => ?_)
  refine m_ld 26 1 ?_
  refine m_ld 5 2 ?_
  refine m_yield 1 [0] y2 h2 (fun y3 => ?_)
  exact m_ret 30 (.bool true) [0] ⟨y3, (rfl), by kernel_rfl⟩

set_option maxRecDepth 100000 in
theorem hashes4_j (X : Type) (l : Nat) (yb : Nat) (bk : Nat) (sb : Nat) (o0 : Nat) (o1 : Nat) (o2 : Nat) (o3 : Nat) (I0 : X → Re) (I1 : X → Re) (I2 : X → Re) (I3 : X → Re) (I4 : X → Re) (x : X) (h0 : YD Tryd.prog l #[(.pointer (some ⟨sb, o0, none⟩)), (.pointer none)] I0 I1) (h1 : YD Tryd.prog l #[(.pointer (some ⟨sb, o1, none⟩)), (.pointer none)] I1 I2) (h2 : YD Tryd.prog l #[(.pointer (some ⟨sb, o2, none⟩)), (.pointer none)] I2 I3) (h3 : YD Tryd.prog l #[(.pointer (some ⟨sb, o3, none⟩)), (.pointer none)] I3 I4) :
    Does Tryd.prog 80 #[(.slice (some ⟨bk, 0, none⟩) 4 4), (.pointer (some ⟨yb, 0, none⟩))] [(.blk bk #[(.pointer (some ⟨sb, o0, none⟩)), (.pointer (some ⟨sb, o1, none⟩)), (.pointer (some ⟨sb, o2, none⟩)), (.pointer (some ⟨sb, o3, none⟩))] 119), (.blk yb #[(.func (.yield l) #[] #[])] 148)] [(.gen (I0 x))] (fun v H => ∃ (y : X), v = (.bool true) ∧ H = [(.gen (I4 y))]) := by
  refine m_fn fun F => ?_
  refine m_ld 29 1 ?_
  refine m_ld 5 2 ?_
  refine m_yield 1 [0] x h0 (fun y1 => ?_)
  refine m_ld 26 1 ?_
  refine m_ld 5 2 ?_
  refine m_yield 1 [0] y1 h1 (fun y2 => ?_)
  refine m_ld 26 1 ?_
  refine m_ld 5 2 ?_
  refine m_yield 1 [0] y2 h2 (fun y3 => ?_)
  refine m_ld 26 1 ?_
  refine m_ld 5 2 ?_
  refine m_yield 1 [0] y3 h3 (fun y4 => ?_)
  exact m_ret 30 (.bool true) [0] ⟨y4, (rfl), by kernel_rfl⟩

set_option maxRecDepth 100000 in
theorem nums9_j (X : Type) (l : Nat) (yb : Nat) (bk : Nat) (sb : Nat) (o0 : Nat) (o1 : Nat) (o2 : Nat) (o3 : Nat) (o4 : Nat) (o5 : Nat) (o6 : Nat) (o7 : Nat) (o8 : Nat) (I0 : X → Re) (I1 : X → Re) (I2 : X → Re) (I3 : X → Re) (I4 : X → Re) (I5 : X → Re) (I6 : X → Re) (I7 : X → Re) (I8 : X → Re) (I9 : X → Re) (x : X) (h0 : YD Tryd.prog l #[(.pointer none), (.pointer (some ⟨sb, o0, none⟩))] I0 I1) (h1 : YD Tryd.prog l #[(.pointer none), (.pointer (some ⟨sb, o1, none⟩))] I1 I2) (h2 : YD Tryd.prog l #[(.pointer none), (.pointer (some ⟨sb, o2, none⟩))] I2 I3) (h3 : YD Tryd.prog l #[(.pointer none), (.pointer (some ⟨sb, o3, none⟩))] I3 I4) (h4 : YD Tryd.prog l #[(.pointer none), (.pointer (some ⟨sb, o4, none⟩))] I4 I5) (h5 : YD Tryd.prog l #[(.pointer none), (.pointer (some ⟨sb, o5, none⟩))] I5 I6) (h6 : YD Tryd.prog l #[(.pointer none), (.pointer (some ⟨sb, o6, none⟩))] I6 I7) (h7 : YD Tryd.prog l #[(.pointer none), (.pointer (some ⟨sb, o7, none⟩))] I7 I8) (h8 : YD Tryd.prog l #[(.pointer none), (.pointer (some ⟨sb, o8, none⟩))] I8 I9) :
    Does Tryd.prog 81 #[(.slice (some ⟨bk, 0, none⟩) 9 9), (.pointer (some ⟨yb, 0, none⟩))] [(.blk bk #[(.pointer (some ⟨sb, o0, none⟩)), (.pointer (some ⟨sb, o1, none⟩)), (.pointer (some ⟨sb, o2, none⟩)), (.pointer (some ⟨sb, o3, none⟩)), (.pointer (some ⟨sb, o4, none⟩)), (.pointer (some ⟨sb, o5, none⟩)), (.pointer (some ⟨sb, o6, none⟩)), (.pointer (some ⟨sb, o7, none⟩)), (.pointer (some ⟨sb, o8, none⟩))] 120), (.blk yb #[(.func (.yield l) #[] #[])] 148)] [(.gen (I0 x))] (fun v H => ∃ (y : X), v = (.bool true) ∧ H = [(.gen (I9 y))]) := by
  refine m_fn fun F => ?_
  refine m_ld 29 1 ?_
  refine m_ld 5 2 ?_
  refine m_yield 1 [0] x h0 (fun y1 => ?_)
  refine m_ld 26 1 ?_
  refine m_ld 5 2 ?_
  refine m_yield 1 [0] y1 h1 (fun y2 => ?_)
  refine m_ld 26 1 ?_
  refine m_ld 5 2 ?_
  refine m_yield 1 [0] y2 h2 (fun y3 => ?_)
  refine m_ld 26 1 ?_
  refine m_ld 5 2 ?_
  refine m_yield 1 [0] y3 h3 (fun y4 => ?_)
  refine m_ld 26 1 ?_
  refine m_ld 5 2 ?_
  refine m_yield 1 [0] y4 h4 (fun y5 => ?_)
  refine m_ld 26 1 ?_
  refine m_ld 5 2 ?_
  refine m_yield 1 [0] y5 h5 (fun y6 => ?_)
  refine m_ld 26 1 ?_
  refine m_ld 5 2 ?_
  refine m_yield 1 [0] y6 h6 (fun y7 => ?_)
  refine m_ld 26 1 ?_
  refine m_ld 5 2 ?_
  refine m_yield 1 [0] y7 h7 (fun y8 => ?_)
  refine m_ld 26 1 ?_
  refine m_ld 5 2 ?_
  refine m_yield 1 [0] y8 h8 (fun y9 => ?_)
  exact m_ret 30 (.bool true) [0] ⟨y9, (rfl), by kernel_rfl⟩

set_option maxRecDepth 100000 in
theorem nums1_j (X : Type) (l : Nat) (yb : Nat) (bk : Nat) (sb : Nat) (o0 : Nat) (I0 : X → Re) (I1 : X → Re) (x : X) (h0 : YD Tryd.prog l #[(.pointer none), (.pointer (some ⟨sb, o0, none⟩))] I0 I1) :
    Does Tryd.prog 81 #[(.slice (some ⟨bk, 0, none⟩) 1 1), (.pointer (some ⟨yb, 0, none⟩))] [(.blk bk #[(.pointer (some ⟨sb, o0, none⟩))] 120), (.blk yb #[(.func (.yield l) #[] #[])] 148)] [(.gen (I0 x))] (fun v H => ∃ (y : X), v = (.bool true) ∧ H = [(.gen (I1 y))]) := by
  refine m_fn fun F => ?_
  refine m_ld 29 1 ?_
  refine m_ld 5 2 ?_
  refine m_yield 1 [0] x h0 (fun y1 => ?_)
  exact m_ret 30 (.bool true) [0] ⟨y1, (rfl), by kernel_rfl⟩

set_option maxRecDepth 100000 in
theorem iter_j (X : Type) (l : Nat) (sb : Nat) (pb : Nat) (I : Nat → X → Re) (x : X) (hY : ∀ i, i < 22 → YD Tryd.prog l (ptsV sb i) (I i) (I (i + 1))) :
    Does Tryd.prog 79 #[(.func (.yield l) #[] #[]), (.pointer (some ⟨pb, 0, none⟩))] [(.blk pb #[(.pointer (some ⟨sb, 0, none⟩))] 147)] [(.gen (I 0 x))] (fun v H => ∃ (y : X), v = (.tuple #[]) ∧ H = [(.gen (I 22 y))]) := by
  refine m_fn fun F => ?_
  refine m_new 2 fun b1 => ?_
  refine m_ld 16 1 ?_
  refine m_plan 8 [4, 5, 6, 7, 8, 9, 18, 19, 20, 21, 22, 23, 24, 25, 26, 27, 28, 29, 30, 31, 32, 33, 34, 35, 36, 37, 38, 39, 40, 41, 42, 43, 44, 45, 46] (.q 0 false (.q 1 true (.q 2 false (.q 3 false (.q 4 true (.q 5 false (.q 6 false (.q 7 true (.q 8 false (.q 9 false (.e 10 (.e 11 (.q 12 false (.q 13 false (.q 14 false (.q 15 true (.q 16 false (.q 17 false (.q 18 true (.q 19 false (.q 20 false (.q 21 true (.q 22 false (.q 23 false (.q 24 true (.q 25 false (.q 26 false (.q 27 false (.q 28 false (.q 29 false (.q 30 false (.q 31 false (.q 32 false (.q 33 false (.q 34 false (.q 35 false (.q 36 false (.q 37 false (.q 38 false (.q 39 false (.q 40 false (.q 41 false (.q 42 false (.q 43 false (.q 44 false (.q 45 false (.q 46 false (.e 47 (.e 48 (.q 49 false (.q 50 false .n))))))))))))))))))))))))))))))))))))))))))))))))))) [] ?_
  refine m_ld 1 1 ?_
  refine m_ld 2 1 ?_
  refine m_ld 2 1 ?_
  refine m_new 2 fun b2 => ?_
  refine m_callv 0 [2] (hashes3_j X l b1 b2 sb 0 32 64 (I 0) (I 1) (I 2) (I 3) x (cast (by kernel_rfl) (hY 0 (by decide))) (cast (by kernel_rfl) (hY 1 (by decide))) (cast (by kernel_rfl) (hY 2 (by decide)))) (.cons 2 (.refl) (.cons 3 (.refl) .nil)) ?_
  rintro _ _ ⟨y3, rfl, rfl⟩
  refine m_ld 3 1 ?_
  refine m_ld 2 1 ?_
  refine m_ld 2 1 ?_
  refine m_ld 2 1 ?_
  refine m_new 22 fun b4 => ?_
  refine m_callv 0 [1] (nums9_j X l b1 b4 sb 96 97 98 99 100 101 102 103 104 (I 3) (I 4) (I 5) (I 6) (I 7) (I 8) (I 9) (I 10) (I 11) (I 12) y3 (cast (by kernel_rfl) (hY 3 (by decide))) (cast (by kernel_rfl) (hY 4 (by decide))) (cast (by kernel_rfl) (hY 5 (by decide))) (cast (by kernel_rfl) (hY 6 (by decide))) (cast (by kernel_rfl) (hY 7 (by decide))) (cast (by kernel_rfl) (hY 8 (by decide))) (cast (by kernel_rfl) (hY 9 (by decide))) (cast (by kernel_rfl) (hY 10 (by decide))) (cast (by kernel_rfl) (hY 11 (by decide)))) (.cons 2 (.refl) (.cons 4 (.refl) .nil)) ?_
  rintro _ _ ⟨y5, rfl, rfl⟩
  refine m_thaw 3 ?_
  refine m_plan 5 [4, 5, 6, 7, 8, 9, 10] (.q 0 true (.q 1 false (.q 2 false (.q 3 false (.q 4 true (.q 5 false (.q 6 false (.q 7 false (.q 10 false (.e 8 (.q 9 false .n))))))))))) [] ?_
  refine m_ld 0 1 ?_
  refine m_ld 3 1 ?_
  refine m_new 4 fun b6 => ?_
  refine m_thaw 2 ?_
  refine m_ld 17 2 ?_
  refine m_plan 4 [] (.q 0 false (.q 1 false (.q 2 false (.q 3 false (.q 4 false (.q 5 false (.q 6 false (.q 7 false (.q 8 false (.q 9 false (.q 10 false (.q 11 false (.q 12 false (.e 13 (.e 14 (.q 15 false (.q 16 false (.q 17 false (.q 18 false (.q 19 false (.q 20 false (.e 21 (.e 22 (.q 23 false (.q 24 false .n))))))))))))))))))))))))) [] ?_
  refine m_new 13 fun b7 => ?_
  refine m_callv 0 [2] (hashes4_j X l b1 b7 sb 105 137 169 201 (I 12) (I 13) (I 14) (I 15) (I 16) y5 (cast (by kernel_rfl) (hY 12 (by decide))) (cast (by kernel_rfl) (hY 13 (by decide))) (cast (by kernel_rfl) (hY 14 (by decide))) (cast (by kernel_rfl) (hY 15 (by decide)))) (.cons 2 (.refl) (.cons 6 (.refl) .nil)) ?_
  rintro _ _ ⟨y8, rfl, rfl⟩
  refine m_new 6 fun b9 => ?_
  refine m_callv 0 [1] (nums1_j X l b1 b9 sb 233 (I 16) (I 17) y8 (cast (by kernel_rfl) (hY 16 (by decide)))) (.cons 2 (.refl) (.cons 7 (.refl) .nil)) ?_
  rintro _ _ ⟨y10, rfl, rfl⟩
  refine m_thaw 3 ?_
  refine m_ld 24 5 ?_
  refine m_plan 4 [] (.q 0 false (.q 1 false (.q 2 false (.q 3 false (.q 4 false (.q 5 false (.q 6 false (.q 7 false (.q 8 false (.q 9 false (.q 10 false (.q 11 false (.q 12 false (.e 13 (.e 14 (.q 15 false (.q 16 false (.q 17 false (.q 18 false (.q 19 false (.q 20 false (.e 21 (.e 22 (.q 23 false (.q 24 false .n))))))))))))))))))))))))) [] ?_
  refine m_new 13 fun b11 => ?_
  refine m_callv 0 [1] (hashes4_j X l b1 b11 sb 234 266 298 330 (I 17) (I 18) (I 19) (I 20) (I 21) y10 (cast (by kernel_rfl) (hY 17 (by decide))) (cast (by kernel_rfl) (hY 18 (by decide))) (cast (by kernel_rfl) (hY 19 (by decide))) (cast (by kernel_rfl) (hY 20 (by decide)))) (.cons 2 (.refl) (.cons 8 (.refl) .nil)) ?_
  rintro _ _ ⟨y12, rfl, rfl⟩
  refine m_new 6 fun b13 => ?_
  refine m_callv 0 [1] (nums1_j X l b1 b13 sb 362 (I 21) (I 22) y12 (cast (by kernel_rfl) (hY 21 (by decide)))) (.cons 2 (.refl) (.cons 9 (.refl) .nil)) ?_
  rintro _ _ ⟨y14, rfl, rfl⟩
  refine m_thaw 3 ?_
  exact m_ret 21 (.tuple #[]) [0] ⟨y14, (rfl), by kernel_rfl⟩

set_option maxRecDepth 100000 in
theorem ringG_j :
    Does Tryd.prog 53 #[] [] [] (fun v H => v = (.agg (ring1.cells)) ∧ H = []) := by
  refine m_fn fun F => ?_
  refine m_new 2 fun b1 => ?_
  refine m_new 4 fun b2 => ?_
  refine m_st 31 0 ?_
  refine m_st 29 0 ?_
  refine m_st 29 0 ?_
  refine m_st 29 0 ?_
  refine m_st 24 0 ?_
  refine m_ld 4 1 ?_
  refine m_st 0 1 ?_
  exact m_retC 3 [2] (.agg ((⟨0, [1, 3, 3, 3]⟩ : RRing).cells)) [] ⟨(rfl), by kernel_rfl⟩

set_option maxRecDepth 100000 in
theorem winG_j :
    Does Tryd.prog 29 #[] [] [] (fun v H => v = (.agg (win1.cells)) ∧ H = []) := by
  refine m_fn fun F => ?_
  refine m_new 2 fun b1 => ?_
  refine m_call 4 [] (ringG_j) .nil ?_
  rintro _ _ ⟨rfl, rfl⟩
  refine m_st 1 0 ?_
  exact m_retC 3 [1] (.agg ((⟨12, ring1⟩ : RWin).cells)) [] ⟨(rfl), by kernel_rfl⟩



set_option maxRecDepth 100000 in
theorem stateG_j (led : List Nat) (hl : H32 led) :
    Does Tryd.prog 8 #[(.agg (hv led))] [] [] (fun v H => v = (.agg ((stateF led).cells)) ∧ H = []) := by
  refine m_fn fun F => ?_
  refine m_new 2 fun b1 => ?_
  refine m_new 0 fun b2 => ?_
  refine m_plan 3 [1, 2, 3] (.q 0 true (.q 2 true (.e 1 (.e 3 (.q 4 false (.e 5 .n)))))) [1] ?_
  refine m_ld 0 1 ?_
  refine m_ld 0 1 ?_
  refine m_call 0 [] (winG_j) .nil ?_
  rintro _ _ ⟨rfl, rfl⟩
  refine m_call 0 [] (efirst_j led hl) .nil ?_
  rintro _ _ ⟨rfl, rfl⟩
  refine m_thaw 0 ?_
  refine m_st 1 1 ?_
  refine m_thaw 1 ?_
  exact m_retC 2 [2] (.agg ((⟨Z32, led, Z32, 0, 1, 0, win1, pairF led⟩ : SState).cells)) [] ⟨(rfl), by kernel_rfl⟩


set_option maxRecDepth 100000 in
theorem ringR_j (r : RRing) (hr : RRing.Ok r) :
    Does Tryd.prog 68 #[(.agg (r.cells))] [] [] (fun v H => v = (.bool (decide (RRing.Right r))) ∧ H = []) := by
  have hhr_last := hr.last; have hhr_counts := hr.counts
  refine m_fn fun F => ?_
  refine m_new 2 fun b1 => ?_
  refine m_ld 7 1 ?_
  refine m_if 28 (((r.counts.getD 0 0 : Nat) : Int) > (3 : Int)) (fun c2 => ?_) (fun c2 => ?_)
  · -- yes
    exact m_ret 11 (.bool false) [] ⟨(by rw [decide_eq_false (by unfold RRing.Right; omega)]), by kernel_rfl⟩
  · -- no
    refine m_if 31 (((r.counts.getD 1 0 : Nat) : Int) > (3 : Int)) (fun c3 => ?_) (fun c3 => ?_)
    · -- yes
      exact m_ret 11 (.bool false) [] ⟨(by rw [decide_eq_false (by unfold RRing.Right; omega)]), by kernel_rfl⟩
    · -- no
      refine m_if 31 (((r.counts.getD 2 0 : Nat) : Int) > (3 : Int)) (fun c4 => ?_) (fun c4 => ?_)
      · -- yes
        exact m_ret 11 (.bool false) [] ⟨(by rw [decide_eq_false (by unfold RRing.Right; omega)]), by kernel_rfl⟩
      · -- no
        refine m_if 31 (((r.counts.getD 3 0 : Nat) : Int) > (3 : Int)) (fun c5 => ?_) (fun c5 => ?_)
        · -- yes
          exact m_ret 11 (.bool false) [] ⟨(by rw [decide_eq_false (by unfold RRing.Right; omega)]), by kernel_rfl⟩
        · -- no
          refine m_ld 22 1 ?_
          refine m_ld 1 1 ?_
          refine m_eqs 1 false (r.cells) ((⟨r.last, [0, 0, 0, 0]⟩ : RRing).cells) (r = (⟨r.last, [0, 0, 0, 0]⟩ : RRing)) (RRing.inj hr ⟨(by first | omega | decide | exact nar_lt _ | with_reducible assumption | (dsimp only; first | omega | exact nar_lt _)), (show N4 [0, 0, 0, 0] from by decide)⟩) (RRing.wf hr) (RRing.wf ⟨(by first | omega | decide | exact nar_lt _ | with_reducible assumption | (dsimp only; first | omega | exact nar_lt _)), (show N4 [0, 0, 0, 0] from by decide)⟩) (fun c6 => ?_) (fun c6 => ?_)
          · -- the same
            exact m_ret 13 (.bool false) [] ⟨(by rw [decide_eq_false (RRing.not0 c6)]), by kernel_rfl⟩
          · -- not the same
            refine m_ld 2 1 ?_
            refine m_call 0 [] (sring_j r.last (by first | with_reducible assumption | omega | decide)) .nil ?_
            rintro _ _ ⟨rfl, rfl⟩
            refine m_ixA 1 b1 1 1 4 (r.last % 4) .i64 (by omega) ?_
            refine m_ldA 0 1 b1 (1 + (r.last % 4) * 1) 30 (RRing.cells r) (.int .u32 ((r.counts.getD (r.last % 4) 0 : Nat) : Int)) (RRing.get (r := r) (by omega)) ?_
            exact m_ret 6 (.bool (decide (((r.counts.getD (r.last % 4) 0 : Nat) : Int) > (0 : Int)))) [] ⟨(by refine congrArg Value.bool (decide_eq_decide.2 ?_); unfold RRing.Right; omega), by kernel_rfl⟩

set_option maxRecDepth 100000 in
theorem rringR_j (r : RRing) (hr : RRing.Ok r) :
    Does Tryd.prog 92 #[(.agg (r.cells))] [] [] (fun v H => v = (.bool (decide (RRing.Right r))) ∧ H = []) := by
  have hhr_last := hr.last; have hhr_counts := hr.counts
  refine m_fn fun F => ?_
  refine m_new 2 fun b1 => ?_
  refine m_ld 28 1 ?_
  refine m_if 3 (((r.counts.getD 0 0 : Nat) : Int) > (3 : Int)) (fun c2 => ?_) (fun c2 => ?_)
  · -- yes
    exact m_ret 11 (.bool false) [] ⟨(by rw [decide_eq_false (by unfold RRing.Right; omega)]), by kernel_rfl⟩
  · -- no
    refine m_ld 26 1 ?_
    refine m_if 3 (((r.counts.getD 1 0 : Nat) : Int) > (3 : Int)) (fun c3 => ?_) (fun c3 => ?_)
    · -- yes
      exact m_ret 11 (.bool false) [] ⟨(by rw [decide_eq_false (by unfold RRing.Right; omega)]), by kernel_rfl⟩
    · -- no
      refine m_ld 26 1 ?_
      refine m_if 3 (((r.counts.getD 2 0 : Nat) : Int) > (3 : Int)) (fun c4 => ?_) (fun c4 => ?_)
      · -- yes
        exact m_ret 11 (.bool false) [] ⟨(by rw [decide_eq_false (by unfold RRing.Right; omega)]), by kernel_rfl⟩
      · -- no
        refine m_ld 26 1 ?_
        refine m_if 3 (((r.counts.getD 3 0 : Nat) : Int) > (3 : Int)) (fun c5 => ?_) (fun c5 => ?_)
        · -- yes
          exact m_ret 11 (.bool false) [] ⟨(by rw [decide_eq_false (by unfold RRing.Right; omega)]), by kernel_rfl⟩
        · -- no
          refine m_ld 25 1 ?_
          refine m_rem 0 .u32 (r.last) 4 ?_
          refine m_i64 0 (((r.last % 4 : Nat) : Int)) (r.last % 4) (by omega) ?_
          refine m_ixA 1 b1 1 1 4 (r.last % 4) .i64 (by omega) ?_
          refine m_ldA 0 1 b1 (1 + (r.last % 4) * 1) 95 (RRing.cells r) (.int .u32 ((r.counts.getD (r.last % 4) 0 : Nat) : Int)) (RRing.get (r := r) (by omega)) ?_
          exact m_ret 5 (.bool (decide (((r.counts.getD (r.last % 4) 0 : Nat) : Int) ≥ (1 : Int)))) [] ⟨(by refine congrArg Value.bool (decide_eq_decide.2 ?_); unfold RRing.Right; omega), by kernel_rfl⟩

set_option maxRecDepth 100000 in
theorem winR_j (x : RWin) (hx : RWin.Ok x) :
    Does Tryd.prog 42 #[(.agg (x.cells))] [] [] (fun v H => v = (.bool (decide (RWin.Right x))) ∧ H = []) := by
  have hhx_min := hx.min; have hhx_ring_last := hx.ring.last; have hhx_ring_counts := hx.ring.counts
  refine m_fn fun F => ?_
  refine m_new 2 fun b1 => ?_
  refine m_ld 6 1 ?_
  refine m_sp 1 (((x.min : Nat) : Int) ≤ (12 : Int)) (fun c2 => ?_) (fun c2 => ?_)
  · -- yes
    refine m_ld 1 1 ?_
    refine m_call 0 [] (ringR_j x.ring hx.ring) .nil ?_
    rintro _ _ ⟨rfl, rfl⟩
    exact m_ret 5 (.bool (decide (RRing.Right x.ring))) [] ⟨(congrArg Value.bool (decide_eq_decide.2 ⟨fun h => ⟨by omega, h⟩, fun h => h.2⟩)), by kernel_rfl⟩
  · -- no
    exact m_ret 8 (.bool false) [] ⟨(by rw [decide_eq_false (by unfold RWin.Right; omega)]), by kernel_rfl⟩

set_option maxRecDepth 100000 in
theorem rwinR_j (x : RWin) (hx : RWin.Ok x) :
    Does Tryd.prog 71 #[(.agg (x.cells))] [] [] (fun v H => v = (.bool (decide (RWin.Right x))) ∧ H = []) := by
  have hhx_min := hx.min; have hhx_ring_last := hx.ring.last; have hhx_ring_counts := hx.ring.counts
  refine m_fn fun F => ?_
  refine m_new 2 fun b1 => ?_
  refine m_ld 6 1 ?_
  refine m_sp 1 (((x.min : Nat) : Int) ≤ (12 : Int)) (fun c2 => ?_) (fun c2 => ?_)
  · -- yes
    refine m_ld 1 1 ?_
    refine m_call 0 [] (rringR_j x.ring hx.ring) .nil ?_
    rintro _ _ ⟨rfl, rfl⟩
    exact m_ret 5 (.bool (decide (RRing.Right x.ring))) [] ⟨(congrArg Value.bool (decide_eq_decide.2 ⟨fun h => ⟨by omega, h⟩, fun h => h.2⟩)), by kernel_rfl⟩
  · -- no
    exact m_ret 8 (.bool false) [] ⟨(by rw [decide_eq_false (by unfold RWin.Right; omega)]), by kernel_rfl⟩

set_option maxRecDepth 100000 in
theorem stR_j (s : SState) (hs : SState.Ok s) :
    Does Tryd.prog 19 #[(.agg (s.cells))] [] [] (fun v H => v = (.bool (decide (SState.Right s))) ∧ H = []) := by
  have hhs_slot := hs.slot; have hhs_len := hs.len; have hhs_count := hs.count; have hhs_win_min := hs.win.min; have hhs_win_ring_last := hs.win.ring.last; have hhs_win_ring_counts := hs.win.ring.counts; have hhs_eps_now_len := hs.eps.now.len; have hhs_eps_next_len := hs.eps.next.len
  refine m_fn fun F => ?_
  refine m_new 2 fun b1 => ?_
  refine m_ld 8 1 ?_
  refine m_plan 4 [8, 9, 10, 22, 23, 29, 30, 31, 37, 38, 42, 43, 44, 45, 46, 47, 48, 49, 50, 51, 52, 53, 54, 55, 56, 57, 58] (.q 0 false (.q 1 true (.e 2 (.q 3 false (.q 4 false (.q 5 false (.q 6 false (.q 7 true (.q 8 false (.q 9 true (.e 10 (.q 11 false (.q 12 false (.q 13 false (.q 14 false (.q 15 true (.q 16 false (.q 17 false (.q 18 false (.q 19 false (.q 20 true (.q 21 false (.q 22 false (.q 23 true (.q 24 false (.q 25 false (.q 26 false (.q 27 false (.q 28 true (.q 29 false (.q 30 true (.e 31 (.q 32 false (.q 33 false (.q 34 false (.q 35 false (.q 36 true (.q 37 false (.q 38 true (.q 39 false (.q 40 false (.q 41 false (.q 42 false (.q 43 false (.q 44 false (.q 45 false (.q 46 false (.q 47 false (.q 48 true (.q 49 false (.q 50 false (.q 51 false (.q 52 false (.q 53 false (.q 54 false (.q 55 true (.e 56 (.q 57 false (.q 58 false (.q 59 false .n)))))))))))))))))))))))))))))))))))))))))))))))))))))))))))) [0] ?_
  refine m_ld 1 1 ?_
  refine m_call 0 [] (winR_j s.win hs.win) .nil ?_
  rintro _ _ ⟨rfl, rfl⟩
  refine m_sp 0 (RWin.Right s.win) (fun c2 => ?_) (fun c2 => ?_)
  · -- yes
    refine m_ld 3 1 ?_
    refine m_ld 1 1 ?_
    refine m_call 0 [] (ssub_j s.slot (by first | with_reducible assumption | omega | decide)) .nil ?_
    rintro _ _ ⟨rfl, rfl⟩
    refine m_sp 2 (((s.win.ring.last : Nat) : Int) = ((s.slot / 3 : Nat) : Int)) (fun c3 => ?_) (fun c3 => ?_)
    · -- yes
      refine m_ld 1 1 ?_
      refine m_sp 2 (((s.len : Nat) : Int) > (0 : Int)) (fun c4 => ?_) (fun c4 => ?_)
      · -- yes
        refine m_ld 1 1 ?_
        refine m_u32 0 (((s.len : Nat) : Int) - (1 : Int)) (s.len - 1) (by omega) ?_
        refine m_ld 1 1 ?_
        refine m_sp 2 (((s.len - 1 : Nat) : Int) ≤ ((s.slot : Nat) : Int)) (fun c5 => ?_) (fun c5 => ?_)
        · -- yes
          refine m_ld 1 1 ?_
          refine m_ld 1 1 ?_
          refine m_call 0 [] (sepoch_j s.slot (by first | with_reducible assumption | omega | decide)) .nil ?_
          rintro _ _ ⟨rfl, rfl⟩
          refine m_sp 2 (((s.count : Nat) : Int) ≤ ((s.slot / 24 : Nat) : Int)) (fun c6 => ?_) (fun c6 => ?_)
          · -- yes
            refine m_ld 1 1 ?_
            refine m_ld 1 1 ?_
            refine m_sp 2 (((s.count : Nat) : Int) < ((s.len : Nat) : Int)) (fun c7 => ?_) (fun c7 => ?_)
            · -- yes
              refine m_sp 3 (((s.eps.next.len : Nat) : Int) > (0 : Int)) (fun c8 => ?_) (fun c8 => ?_)
              · -- yes
                refine m_ld 2 1 ?_
                refine m_sp 2 (((s.eps.next.len : Nat) : Int) ≤ ((s.len : Nat) : Int)) (fun c9 => ?_) (fun c9 => ?_)
                · -- yes
                  refine m_u32 1 (((s.eps.next.len : Nat) : Int) - (1 : Int)) (s.eps.next.len - 1) (by omega) ?_
                  refine m_ld 1 1 ?_
                  refine m_call 0 [] (splace_j s.slot (by first | with_reducible assumption | omega | decide)) .nil ?_
                  rintro _ _ ⟨rfl, rfl⟩
                  refine m_thaw 4 ?_
                  exact m_ret 2 (.bool (decide (((s.eps.next.len - 1 : Nat) : Int) ≤ ((s.slot % 24 : Nat) : Int)))) [] ⟨(congrArg Value.bool (decide_eq_decide.2 ⟨fun h => ⟨c2, by omega⟩, fun h => by unfold SState.Right at h; omega⟩)), by kernel_rfl⟩
                · -- no
                  refine m_thaw 9 ?_
                  exact m_ret 2 (.bool false) [] ⟨(by rw [decide_eq_false (by unfold SState.Right; omega)]), by kernel_rfl⟩
              · -- no
                refine m_thaw 15 ?_
                exact m_ret 2 (.bool false) [] ⟨(by rw [decide_eq_false (by unfold SState.Right; omega)]), by kernel_rfl⟩
            · -- no
              refine m_thaw 19 ?_
              exact m_ret 2 (.bool false) [] ⟨(by rw [decide_eq_false (by unfold SState.Right; omega)]), by kernel_rfl⟩
          · -- no
            refine m_thaw 26 ?_
            exact m_ret 2 (.bool false) [] ⟨(by rw [decide_eq_false (by unfold SState.Right; omega)]), by kernel_rfl⟩
        · -- no
          refine m_thaw 34 ?_
          exact m_ret 2 (.bool false) [] ⟨(by rw [decide_eq_false (by unfold SState.Right; omega)]), by kernel_rfl⟩
      · -- no
        refine m_thaw 42 ?_
        exact m_ret 2 (.bool false) [] ⟨(by rw [decide_eq_false (by unfold SState.Right; omega)]), by kernel_rfl⟩
    · -- no
      refine m_thaw 47 ?_
      exact m_ret 2 (.bool false) [] ⟨(by rw [decide_eq_false (by unfold SState.Right; omega)]), by kernel_rfl⟩
  · -- no
    refine m_thaw 57 ?_
    exact m_ret 2 (.bool false) [] ⟨(by rw [decide_eq_false (fun h => c2 h.1)]), by kernel_rfl⟩

set_option maxRecDepth 100000 in
theorem rstR_j (s : SState) (hs : SState.Ok s) :
    Does Tryd.prog 47 #[(.agg (s.cells))] [] [] (fun v H => v = (.bool (decide (SState.Right s))) ∧ H = []) := by
  have hhs_slot := hs.slot; have hhs_len := hs.len; have hhs_count := hs.count; have hhs_win_min := hs.win.min; have hhs_win_ring_last := hs.win.ring.last; have hhs_win_ring_counts := hs.win.ring.counts; have hhs_eps_now_len := hs.eps.now.len; have hhs_eps_next_len := hs.eps.next.len
  refine m_fn fun F => ?_
  refine m_new 2 fun b1 => ?_
  refine m_plan 5 [9, 10, 11] (.q 0 false (.q 1 true (.e 2 (.q 3 false (.q 4 false (.q 5 false (.q 6 false (.q 7 false (.q 8 true (.q 9 false (.q 10 true (.e 11 (.q 12 false (.q 13 false .n)))))))))))))) [0] ?_
  refine m_ld 1 1 ?_
  refine m_call 0 [] (rwinR_j s.win hs.win) .nil ?_
  rintro _ _ ⟨rfl, rfl⟩
  refine m_spn 1 (RWin.Right s.win) (fun c2 => ?_) (fun c2 => ?_)
  · -- no
    refine m_ld 3 1 ?_
    refine m_ld 1 1 ?_
    refine m_call 0 [] (rsub_j s.slot (by first | with_reducible assumption | omega | decide)) .nil ?_
    rintro _ _ ⟨rfl, rfl⟩
    refine m_thaw 3 ?_
    refine m_ifn 1 (((s.win.ring.last : Nat) : Int) = ((s.slot / 3 : Nat) : Int)) (fun c3 => ?_) (fun c3 => ?_)
    · -- no
      refine m_ld 6 1 ?_
      refine m_sp 1 (((s.len : Nat) : Int) < (1 : Int)) (fun c4 => ?_) (fun c4 => ?_)
      · -- yes
        exact m_ret 19 (.bool false) [] ⟨(by rw [decide_eq_false (by unfold SState.Right; omega)]), by kernel_rfl⟩
      · -- no
        refine m_ld 1 1 ?_
        refine m_u64 0 (((s.len : Nat) : Int)) (s.len) (by omega) ?_
        refine m_ld 1 1 ?_
        refine m_u64 0 (((s.slot : Nat) : Int)) (s.slot) (by omega) ?_
        refine m_u64 0 (((s.slot : Nat) : Int) + (1 : Int)) (s.slot + 1) (by omega) ?_
        refine m_if 4 (((s.len : Nat) : Int) > ((s.slot + 1 : Nat) : Int)) (fun c5 => ?_) (fun c5 => ?_)
        · -- yes
          exact m_ret 7 (.bool false) [] ⟨(by rw [decide_eq_false (by unfold SState.Right; omega)]), by kernel_rfl⟩
        · -- no
          refine m_plan 4 [2, 3, 4, 9, 10] (.q 0 false (.q 1 true (.q 2 false (.q 3 true (.e 4 (.q 5 false (.q 6 false (.q 7 false (.q 8 true (.q 9 false (.q 10 true (.q 11 false (.q 12 false .n))))))))))))) [0] ?_
          refine m_ld 1 1 ?_
          refine m_ld 1 1 ?_
          refine m_call 0 [] (repoch_j s.slot (by first | with_reducible assumption | omega | decide)) .nil ?_
          rintro _ _ ⟨rfl, rfl⟩
          refine m_sp 1 (((s.count : Nat) : Int) > ((s.slot / 24 : Nat) : Int)) (fun c6 => ?_) (fun c6 => ?_)
          · -- yes
            refine m_thaw 7 ?_
            exact m_ret 9 (.bool false) [] ⟨(by rw [decide_eq_false (by unfold SState.Right; omega)]), by kernel_rfl⟩
          · -- no
            refine m_ld 1 1 ?_
            refine m_ld 1 1 ?_
            refine m_thaw 3 ?_
            refine m_if 1 (((s.count : Nat) : Int) ≥ ((s.len : Nat) : Int)) (fun c7 => ?_) (fun c7 => ?_)
            · -- yes
              exact m_ret 7 (.bool false) [] ⟨(by rw [decide_eq_false (by unfold SState.Right; omega)]), by kernel_rfl⟩
            · -- no
              refine m_ld 7 1 ?_
              refine m_sp 7 (((s.eps.next.len : Nat) : Int) ≥ (1 : Int)) (fun c8 => ?_) (fun c8 => ?_)
              · -- yes
                refine m_ld 2 1 ?_
                refine m_sp 2 (((s.eps.next.len : Nat) : Int) ≤ ((s.len : Nat) : Int)) (fun c9 => ?_) (fun c9 => ?_)
                · -- yes
                  refine m_u64 1 (((s.eps.next.len : Nat) : Int)) (s.eps.next.len) (by omega) ?_
                  refine m_ld 1 1 ?_
                  refine m_call 0 [] (rplace_j s.slot (by first | with_reducible assumption | omega | decide)) .nil ?_
                  rintro _ _ ⟨rfl, rfl⟩
                  refine m_u64 0 (((s.slot % 24 : Nat) : Int)) (s.slot % 24) (by omega) ?_
                  refine m_u64 0 (((s.slot % 24 : Nat) : Int) + (1 : Int)) ((s.slot % 24) + 1) (by omega) ?_
                  exact m_ret 6 (.bool (decide (((s.eps.next.len : Nat) : Int) ≤ (((s.slot % 24) + 1 : Nat) : Int)))) [] ⟨(congrArg Value.bool (decide_eq_decide.2 ⟨fun h => ⟨c2, by omega⟩, fun h => by unfold SState.Right at h; omega⟩)), by kernel_rfl⟩
                · -- no
                  exact m_ret 13 (.bool false) [] ⟨(by rw [decide_eq_false (by unfold SState.Right; omega)]), by kernel_rfl⟩
              · -- no
                exact m_ret 19 (.bool false) [] ⟨(by rw [decide_eq_false (by unfold SState.Right; omega)]), by kernel_rfl⟩
    · -- yes
      exact m_ret 7 (.bool false) [] ⟨(by rw [decide_eq_false (by unfold SState.Right; omega)]), by kernel_rfl⟩
  · -- yes
    refine m_thaw 10 ?_
    exact m_ret 9 (.bool false) [] ⟨(by rw [decide_eq_false (fun h => c2 h.1)]), by kernel_rfl⟩

set_option maxRecDepth 100000 in
theorem stbytes_j (s : SState) (hs : SState.Ok s) :
    Does Tryd.prog 32 #[(.agg (s.cells))] [] [] (fun v H => ∃ (ao' : Option Addr), ∃ (cap' : Nat), v = (.slice ao' s.bytes.length cap') ∧ H = [(.row 5 1 ao' s.bytes.length cap' (B s.bytes))]) := by
  have hhs_slot := hs.slot; have hhs_len := hs.len; have hhs_count := hs.count; have hhs_win_min := hs.win.min; have hhs_win_ring_last := hs.win.ring.last; have hhs_win_ring_counts := hs.win.ring.counts; have hhs_eps_now_len := hs.eps.now.len; have hhs_eps_next_len := hs.eps.next.len
  refine m_fnM fun F => ?_
  refine m_new 2 fun b1 => ?_
  refine m_new 6 fun b2 => ?_
  refine m_new 0 fun b3 => ?_
  refine m_st 0 0 ?_
  refine m_call 5 [] (parts_j b1) .nil ?_
  rintro _ _ ⟨b4, rfl, rfl⟩
  refine m_go 3 ?_
  refine m_view 2 (.gen (wrRe 5 115 b2 (.slice none 0 0) [])) (View.writer (by kernel_rfl)) ?_
  refine m_range (X := Value) 0 79 22 #[(.pointer (some ⟨b4, 0, none⟩))] (ptsV b1) (fun i x => [(.blk b3 #[(.pointer (some ⟨b2, 0, none⟩))] 113), (.gen (wrRe 5 115 b2 x (s.pre i))), (.blk b1 (s.cells) 38)]) [(.blk b4 #[(.pointer (some ⟨b1, 0, none⟩))] 147)] [1, 1, 1, 0] (.slice none 0 0) (fun l I hY x => (iter_j (Value) l b1 b4 I x hY).mono fun _ _ ⟨y, _, h⟩ => ⟨y, h⟩) (Up.s (Up.s (Up.s (Up.s (Up.s (Up.s (Up.s (Up.s (Up.s (Up.s (Up.s (Up.s (Up.s (Up.s (Up.s (Up.s (Up.s (Up.s (Up.s (Up.s (Up.s (Up.s Up.z ?_) ?_) ?_) ?_) ?_) ?_) ?_) ?_) ?_) ?_) ?_) ?_) ?_) ?_) ?_) ?_) ?_) ?_) ?_) ?_) ?_) ?_) (fun D x => ?_)
  · -- round 0
    intro x F' lp'; refine ⟨by kernel_rfl, ?_⟩
    obtain ⟨v, rfl⟩ : ∃ y, y = x := ⟨x, rfl⟩
    refine m_planR 8 [1, 2, 3] (.q 0 true (.q 1 false (.q 2 false (.q 3 true (.e 4 .n))))) [0, 1] ?_
    refine m_ld 0 2 ?_
    refine m_ld 2 3 ?_
    refine m_thaw 0 ?_
    refine m_call 0 [2] (whash_o b2 v (s.pre 0) s.prev (by have := pre_len hs 0; omega) hs.prev) .nil ?_
    rintro _ _ ⟨v5, rfl, rfl⟩
    refine m_thaw 1 ?_
    refine m_pick [1, 0, 0] ?_
    exact m_rend 1 v5
  · -- round 1
    intro x F' lp'; refine ⟨by kernel_rfl, ?_⟩
    obtain ⟨v, rfl⟩ : ∃ y, y = x := ⟨x, rfl⟩
    refine m_planR 8 [1, 2, 3] (.q 0 true (.q 1 false (.q 2 false (.q 3 true (.e 4 .n))))) [0, 1] ?_
    refine m_ld 0 2 ?_
    refine m_ld 2 3 ?_
    refine m_thaw 0 ?_
    refine m_call 0 [2] (whash_o b2 v (s.pre 1) s.led (by have := pre_len hs 1; omega) hs.led) .nil ?_
    rintro _ _ ⟨v6, rfl, rfl⟩
    refine m_thaw 1 ?_
    refine m_pick [1, 0, 0] ?_
    exact m_rend 1 v6
  · -- round 2
    intro x F' lp'; refine ⟨by kernel_rfl, ?_⟩
    obtain ⟨v, rfl⟩ : ∃ y, y = x := ⟨x, rfl⟩
    refine m_planR 8 [1, 2, 3] (.q 0 true (.q 1 false (.q 2 false (.q 3 true (.e 4 .n))))) [0, 1] ?_
    refine m_ld 0 2 ?_
    refine m_ld 2 3 ?_
    refine m_thaw 0 ?_
    refine m_call 0 [2] (whash_o b2 v (s.pre 2) s.draw (by have := pre_len hs 2; omega) hs.draw) .nil ?_
    rintro _ _ ⟨v7, rfl, rfl⟩
    refine m_thaw 1 ?_
    refine m_pick [1, 0, 0] ?_
    exact m_rend 1 v7
  · -- round 3
    intro x F' lp'; refine ⟨by kernel_rfl, ?_⟩
    obtain ⟨v, rfl⟩ : ∃ y, y = x := ⟨x, rfl⟩
    refine m_planR 8 [1, 2, 3] (.q 0 true (.q 1 false (.q 2 false (.q 3 true (.e 4 .n))))) [0, 1] ?_
    refine m_ld 0 2 ?_
    refine m_ld 2 3 ?_
    refine m_thaw 0 ?_
    refine m_call 0 [2] (wnum_o b2 v (s.pre 3) s.slot (by have := pre_len hs 3; omega) (by first | omega | exact hs.win.ring.counts.lt _)) .nil ?_
    rintro _ _ ⟨v8, rfl, rfl⟩
    refine m_thaw 1 ?_
    refine m_pick [1, 0, 0] ?_
    exact m_rend 1 v8
  · -- round 4
    intro x F' lp'; refine ⟨by kernel_rfl, ?_⟩
    obtain ⟨v, rfl⟩ : ∃ y, y = x := ⟨x, rfl⟩
    refine m_planR 8 [1, 2, 3] (.q 0 true (.q 1 false (.q 2 false (.q 3 true (.e 4 .n))))) [0, 1] ?_
    refine m_ld 0 2 ?_
    refine m_ld 2 3 ?_
    refine m_thaw 0 ?_
    refine m_call 0 [2] (wnum_o b2 v (s.pre 4) s.len (by have := pre_len hs 4; omega) (by first | omega | exact hs.win.ring.counts.lt _)) .nil ?_
    rintro _ _ ⟨v9, rfl, rfl⟩
    refine m_thaw 1 ?_
    refine m_pick [1, 0, 0] ?_
    exact m_rend 1 v9
  · -- round 5
    intro x F' lp'; refine ⟨by kernel_rfl, ?_⟩
    obtain ⟨v, rfl⟩ : ∃ y, y = x := ⟨x, rfl⟩
    refine m_planR 8 [1, 2, 3] (.q 0 true (.q 1 false (.q 2 false (.q 3 true (.e 4 .n))))) [0, 1] ?_
    refine m_ld 0 2 ?_
    refine m_ld 2 3 ?_
    refine m_thaw 0 ?_
    refine m_call 0 [2] (wnum_o b2 v (s.pre 5) s.count (by have := pre_len hs 5; omega) (by first | omega | exact hs.win.ring.counts.lt _)) .nil ?_
    rintro _ _ ⟨v10, rfl, rfl⟩
    refine m_thaw 1 ?_
    refine m_pick [1, 0, 0] ?_
    exact m_rend 1 v10
  · -- round 6
    intro x F' lp'; refine ⟨by kernel_rfl, ?_⟩
    obtain ⟨v, rfl⟩ : ∃ y, y = x := ⟨x, rfl⟩
    refine m_planR 8 [1, 2, 3] (.q 0 true (.q 1 false (.q 2 false (.q 3 true (.e 4 .n))))) [0, 1] ?_
    refine m_ld 0 2 ?_
    refine m_ld 2 3 ?_
    refine m_thaw 0 ?_
    refine m_call 0 [2] (wnum_o b2 v (s.pre 6) s.win.min (by have := pre_len hs 6; omega) (by first | omega | exact hs.win.ring.counts.lt _)) .nil ?_
    rintro _ _ ⟨v11, rfl, rfl⟩
    refine m_thaw 1 ?_
    refine m_pick [1, 0, 0] ?_
    exact m_rend 1 v11
  · -- round 7
    intro x F' lp'; refine ⟨by kernel_rfl, ?_⟩
    obtain ⟨v, rfl⟩ : ∃ y, y = x := ⟨x, rfl⟩
    refine m_planR 8 [1, 2, 3] (.q 0 true (.q 1 false (.q 2 false (.q 3 true (.e 4 .n))))) [0, 1] ?_
    refine m_ld 0 2 ?_
    refine m_ld 2 3 ?_
    refine m_thaw 0 ?_
    refine m_call 0 [2] (wnum_o b2 v (s.pre 7) s.win.ring.last (by have := pre_len hs 7; omega) (by first | omega | exact hs.win.ring.counts.lt _)) .nil ?_
    rintro _ _ ⟨v12, rfl, rfl⟩
    refine m_thaw 1 ?_
    refine m_pick [1, 0, 0] ?_
    exact m_rend 1 v12
  · -- round 8
    intro x F' lp'; refine ⟨by kernel_rfl, ?_⟩
    obtain ⟨v, rfl⟩ : ∃ y, y = x := ⟨x, rfl⟩
    refine m_planR 8 [1, 2, 3] (.q 0 true (.q 1 false (.q 2 false (.q 3 true (.e 4 .n))))) [0, 1] ?_
    refine m_ld 0 2 ?_
    refine m_ld 2 3 ?_
    refine m_thaw 0 ?_
    refine m_call 0 [2] (wnum_o b2 v (s.pre 8) (s.win.ring.counts.getD 0 0) (by have := pre_len hs 8; omega) (by first | omega | exact hs.win.ring.counts.lt _)) .nil ?_
    rintro _ _ ⟨v13, rfl, rfl⟩
    refine m_thaw 1 ?_
    refine m_pick [1, 0, 0] ?_
    exact m_rend 1 v13
  · -- round 9
    intro x F' lp'; refine ⟨by kernel_rfl, ?_⟩
    obtain ⟨v, rfl⟩ : ∃ y, y = x := ⟨x, rfl⟩
    refine m_planR 8 [1, 2, 3] (.q 0 true (.q 1 false (.q 2 false (.q 3 true (.e 4 .n))))) [0, 1] ?_
    refine m_ld 0 2 ?_
    refine m_ld 2 3 ?_
    refine m_thaw 0 ?_
    refine m_call 0 [2] (wnum_o b2 v (s.pre 9) (s.win.ring.counts.getD 1 0) (by have := pre_len hs 9; omega) (by first | omega | exact hs.win.ring.counts.lt _)) .nil ?_
    rintro _ _ ⟨v14, rfl, rfl⟩
    refine m_thaw 1 ?_
    refine m_pick [1, 0, 0] ?_
    exact m_rend 1 v14
  · -- round 10
    intro x F' lp'; refine ⟨by kernel_rfl, ?_⟩
    obtain ⟨v, rfl⟩ : ∃ y, y = x := ⟨x, rfl⟩
    refine m_planR 8 [1, 2, 3] (.q 0 true (.q 1 false (.q 2 false (.q 3 true (.e 4 .n))))) [0, 1] ?_
    refine m_ld 0 2 ?_
    refine m_ld 2 3 ?_
    refine m_thaw 0 ?_
    refine m_call 0 [2] (wnum_o b2 v (s.pre 10) (s.win.ring.counts.getD 2 0) (by have := pre_len hs 10; omega) (by first | omega | exact hs.win.ring.counts.lt _)) .nil ?_
    rintro _ _ ⟨v15, rfl, rfl⟩
    refine m_thaw 1 ?_
    refine m_pick [1, 0, 0] ?_
    exact m_rend 1 v15
  · -- round 11
    intro x F' lp'; refine ⟨by kernel_rfl, ?_⟩
    obtain ⟨v, rfl⟩ : ∃ y, y = x := ⟨x, rfl⟩
    refine m_planR 8 [1, 2, 3] (.q 0 true (.q 1 false (.q 2 false (.q 3 true (.e 4 .n))))) [0, 1] ?_
    refine m_ld 0 2 ?_
    refine m_ld 2 3 ?_
    refine m_thaw 0 ?_
    refine m_call 0 [2] (wnum_o b2 v (s.pre 11) (s.win.ring.counts.getD 3 0) (by have := pre_len hs 11; omega) (by first | omega | exact hs.win.ring.counts.lt _)) .nil ?_
    rintro _ _ ⟨v16, rfl, rfl⟩
    refine m_thaw 1 ?_
    refine m_pick [1, 0, 0] ?_
    exact m_rend 1 v16
  · -- round 12
    intro x F' lp'; refine ⟨by kernel_rfl, ?_⟩
    obtain ⟨v, rfl⟩ : ∃ y, y = x := ⟨x, rfl⟩
    refine m_planR 8 [1, 2, 3] (.q 0 true (.q 1 false (.q 2 false (.q 3 true (.e 4 .n))))) [0, 1] ?_
    refine m_ld 0 2 ?_
    refine m_ld 2 3 ?_
    refine m_thaw 0 ?_
    refine m_call 0 [2] (whash_o b2 v (s.pre 12) s.eps.now.led (by have := pre_len hs 12; omega) hs.eps.now.led) .nil ?_
    rintro _ _ ⟨v17, rfl, rfl⟩
    refine m_thaw 1 ?_
    refine m_pick [1, 0, 0] ?_
    exact m_rend 1 v17
  · -- round 13
    intro x F' lp'; refine ⟨by kernel_rfl, ?_⟩
    obtain ⟨v, rfl⟩ : ∃ y, y = x := ⟨x, rfl⟩
    refine m_planR 8 [1, 2, 3] (.q 0 true (.q 1 false (.q 2 false (.q 3 true (.e 4 .n))))) [0, 1] ?_
    refine m_ld 0 2 ?_
    refine m_ld 2 3 ?_
    refine m_thaw 0 ?_
    refine m_call 0 [2] (whash_o b2 v (s.pre 13) s.eps.now.seed (by have := pre_len hs 13; omega) hs.eps.now.seed) .nil ?_
    rintro _ _ ⟨v18, rfl, rfl⟩
    refine m_thaw 1 ?_
    refine m_pick [1, 0, 0] ?_
    exact m_rend 1 v18
  · -- round 14
    intro x F' lp'; refine ⟨by kernel_rfl, ?_⟩
    obtain ⟨v, rfl⟩ : ∃ y, y = x := ⟨x, rfl⟩
    refine m_planR 8 [1, 2, 3] (.q 0 true (.q 1 false (.q 2 false (.q 3 true (.e 4 .n))))) [0, 1] ?_
    refine m_ld 0 2 ?_
    refine m_ld 2 3 ?_
    refine m_thaw 0 ?_
    refine m_call 0 [2] (whash_o b2 v (s.pre 14) s.eps.now.start (by have := pre_len hs 14; omega) hs.eps.now.start) .nil ?_
    rintro _ _ ⟨v19, rfl, rfl⟩
    refine m_thaw 1 ?_
    refine m_pick [1, 0, 0] ?_
    exact m_rend 1 v19
  · -- round 15
    intro x F' lp'; refine ⟨by kernel_rfl, ?_⟩
    obtain ⟨v, rfl⟩ : ∃ y, y = x := ⟨x, rfl⟩
    refine m_planR 8 [1, 2, 3] (.q 0 true (.q 1 false (.q 2 false (.q 3 true (.e 4 .n))))) [0, 1] ?_
    refine m_ld 0 2 ?_
    refine m_ld 2 3 ?_
    refine m_thaw 0 ?_
    refine m_call 0 [2] (whash_o b2 v (s.pre 15) s.eps.now.lock (by have := pre_len hs 15; omega) hs.eps.now.lock) .nil ?_
    rintro _ _ ⟨v20, rfl, rfl⟩
    refine m_thaw 1 ?_
    refine m_pick [1, 0, 0] ?_
    exact m_rend 1 v20
  · -- round 16
    intro x F' lp'; refine ⟨by kernel_rfl, ?_⟩
    obtain ⟨v, rfl⟩ : ∃ y, y = x := ⟨x, rfl⟩
    refine m_planR 8 [1, 2, 3] (.q 0 true (.q 1 false (.q 2 false (.q 3 true (.e 4 .n))))) [0, 1] ?_
    refine m_ld 0 2 ?_
    refine m_ld 2 3 ?_
    refine m_thaw 0 ?_
    refine m_call 0 [2] (wnum_o b2 v (s.pre 16) s.eps.now.len (by have := pre_len hs 16; omega) (by first | omega | exact hs.win.ring.counts.lt _)) .nil ?_
    rintro _ _ ⟨v21, rfl, rfl⟩
    refine m_thaw 1 ?_
    refine m_pick [1, 0, 0] ?_
    exact m_rend 1 v21
  · -- round 17
    intro x F' lp'; refine ⟨by kernel_rfl, ?_⟩
    obtain ⟨v, rfl⟩ : ∃ y, y = x := ⟨x, rfl⟩
    refine m_planR 8 [1, 2, 3] (.q 0 true (.q 1 false (.q 2 false (.q 3 true (.e 4 .n))))) [0, 1] ?_
    refine m_ld 0 2 ?_
    refine m_ld 2 3 ?_
    refine m_thaw 0 ?_
    refine m_call 0 [2] (whash_o b2 v (s.pre 17) s.eps.next.led (by have := pre_len hs 17; omega) hs.eps.next.led) .nil ?_
    rintro _ _ ⟨v22, rfl, rfl⟩
    refine m_thaw 1 ?_
    refine m_pick [1, 0, 0] ?_
    exact m_rend 1 v22
  · -- round 18
    intro x F' lp'; refine ⟨by kernel_rfl, ?_⟩
    obtain ⟨v, rfl⟩ : ∃ y, y = x := ⟨x, rfl⟩
    refine m_planR 8 [1, 2, 3] (.q 0 true (.q 1 false (.q 2 false (.q 3 true (.e 4 .n))))) [0, 1] ?_
    refine m_ld 0 2 ?_
    refine m_ld 2 3 ?_
    refine m_thaw 0 ?_
    refine m_call 0 [2] (whash_o b2 v (s.pre 18) s.eps.next.seed (by have := pre_len hs 18; omega) hs.eps.next.seed) .nil ?_
    rintro _ _ ⟨v23, rfl, rfl⟩
    refine m_thaw 1 ?_
    refine m_pick [1, 0, 0] ?_
    exact m_rend 1 v23
  · -- round 19
    intro x F' lp'; refine ⟨by kernel_rfl, ?_⟩
    obtain ⟨v, rfl⟩ : ∃ y, y = x := ⟨x, rfl⟩
    refine m_planR 8 [1, 2, 3] (.q 0 true (.q 1 false (.q 2 false (.q 3 true (.e 4 .n))))) [0, 1] ?_
    refine m_ld 0 2 ?_
    refine m_ld 2 3 ?_
    refine m_thaw 0 ?_
    refine m_call 0 [2] (whash_o b2 v (s.pre 19) s.eps.next.start (by have := pre_len hs 19; omega) hs.eps.next.start) .nil ?_
    rintro _ _ ⟨v24, rfl, rfl⟩
    refine m_thaw 1 ?_
    refine m_pick [1, 0, 0] ?_
    exact m_rend 1 v24
  · -- round 20
    intro x F' lp'; refine ⟨by kernel_rfl, ?_⟩
    obtain ⟨v, rfl⟩ : ∃ y, y = x := ⟨x, rfl⟩
    refine m_planR 8 [1, 2, 3] (.q 0 true (.q 1 false (.q 2 false (.q 3 true (.e 4 .n))))) [0, 1] ?_
    refine m_ld 0 2 ?_
    refine m_ld 2 3 ?_
    refine m_thaw 0 ?_
    refine m_call 0 [2] (whash_o b2 v (s.pre 20) s.eps.next.lock (by have := pre_len hs 20; omega) hs.eps.next.lock) .nil ?_
    rintro _ _ ⟨v25, rfl, rfl⟩
    refine m_thaw 1 ?_
    refine m_pick [1, 0, 0] ?_
    exact m_rend 1 v25
  · -- round 21
    intro x F' lp'; refine ⟨by kernel_rfl, ?_⟩
    obtain ⟨v, rfl⟩ : ∃ y, y = x := ⟨x, rfl⟩
    refine m_planR 8 [1, 2, 3] (.q 0 true (.q 1 false (.q 2 false (.q 3 true (.e 4 .n))))) [0, 1] ?_
    refine m_ld 0 2 ?_
    refine m_ld 2 3 ?_
    refine m_thaw 0 ?_
    refine m_call 0 [2] (wnum_o b2 v (s.pre 21) s.eps.next.len (by have := pre_len hs 21; omega) (by first | omega | exact hs.win.ring.counts.lt _)) .nil ?_
    rintro _ _ ⟨v26, rfl, rfl⟩
    refine m_thaw 1 ?_
    refine m_pick [1, 0, 0] ?_
    exact m_rend 1 v26
  obtain ⟨v, rfl⟩ : ∃ y, y = x := ⟨x, rfl⟩
  refine m_ld 4 2 ?_
  refine m_call 0 [] (wbytes_o b2 v (s.pre 22) (by have := pre_len hs 22; omega)) (.cons 3 (.refl) .nil) ?_
  rintro _ _ ⟨ao27, cap28, rfl, rfl⟩
  exact m_retM 4 D 0 (.slice ao27 ((s.pre 22).length) cap28) [0] ⟨ao27, cap28, (rfl), by kernel_rfl⟩





set_option maxRecDepth 100000 in
theorem stH_j (s : SState) (hs : SState.Ok s) :
    Does Tryd.prog 9 #[(.agg (s.cells))] [(.rd (some ⟨1, 0, none⟩) ((hw KL).toList))] [] (fun v H => v = (.agg (hv (stH s))) ∧ H = []) := by
  have hbl := bytes_le hs
  have hhs_slot := hs.slot; have hhs_len := hs.len; have hhs_count := hs.count; have hhs_win_min := hs.win.min; have hhs_win_ring_last := hs.win.ring.last; have hhs_win_ring_counts := hs.win.ring.counts; have hhs_eps_now_len := hs.eps.now.len; have hhs_eps_next_len := hs.eps.next.len
  refine m_fn fun F => ?_
  refine m_new 2 fun b1 => ?_
  refine m_new 0 fun b2 => ?_
  refine m_ld 4 3 ?_
  refine m_call 0 [] (stbytes_j s hs) .nil ?_
  rintro _ _ ⟨ao3, cap4, rfl, rfl⟩
  refine m_new 0 fun b5 => ?_
  refine m_rowle 3 s.bytes.length cap4 fun hc6 hc6' => ?_
  refine m_call 0 [] (tagof_j (⟨#[115, 116, 97, 116, 101]⟩ : ByteArray) _ (some ⟨b5, 0, none⟩) 1 [⟨ao3, cap4, s.bytes⟩] (Nat.le_of_ble_eq_true (by kernel_rfl)) (by exact parts1 (by first | omega | (dsimp only; omega)))) (.consH (HView.rows 2 (.cons 3 s.bytes.length cap4 (.rd) rfl ((bytes_byt hs)) ⟨hc6, hc6'⟩ .nil)) (.cons 1 (.refl) .nil)) ?_
  rintro _ _ ⟨hv7, rfl⟩
  rw [show ((.agg (hv (tagL (sB (⟨#[115, 116, 97, 116, 101]⟩ : ByteArray)) [⟨ao3, cap4, s.bytes⟩]))) : Value) = (.agg (hv (stH s))) from rfl] at hv7; subst hv7
  refine m_st 0 2 ?_
  exact m_retC 3 [4] (.agg (hv (stH s))) [] ⟨(rfl), by kernel_rfl⟩


end Go.Proofs.YtinmmamnldephaaDoor
