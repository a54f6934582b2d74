/- Layer 16 by the machine. -/
import Derived.Test.YtokdfjelilhekaaDoorTJ
import Derived.Test.YtokdfjelilhekaaDoorLib8
namespace Go.Proofs.YtokdfjelilhekaaDoor
open Go Go.RowKit Go.Alm
set_option maxRecDepth 100000 in
theorem pthere_j (pl : Int) :
    Does Tryd.prog 51 #[(.int .i64 pl)] [] [] (fun v H => v = (.bool (decide (placeOk pl))) ∧ H = []) := by
  refine m_fn fun F => ?_
  refine m_sp 9 (pl ≥ (0 : Int)) (fun c1 => ?_) (fun c1 => ?_)
  · -- yes
    exact m_ret 7 (.bool (decide (pl < (16 : Int)))) [] ⟨(by refine congrArg Value.bool (decide_eq_decide.2 ⟨fun h => ⟨by omega, by omega⟩, fun h => by obtain ⟨h1, h2⟩ := h; omega⟩)), by kernel_rfl⟩
  · -- no
    exact m_ret 7 (.bool false) [] ⟨(by rw [decide_eq_false (fun h => by obtain ⟨h1, h2⟩ := h; omega)]), by kernel_rfl⟩

set_option maxRecDepth 100000 in
theorem sides0_j (q : Nat) (x : List Nat) (b : List Nat) (hq : q < 16) (_ : H32 x) (_ : H32 b) :
    Does Tryd.prog 52 #[(.int .i64 ((q : Nat) : Int)), (.int .i64 0), (.agg (hv x)), (.agg (hv b))] [] [] (fun v H => v = (.tuple #[(.agg (hv (upL q 0 x b))), (.agg (hv (upR q 0 x b)))]) ∧ H = []) := by
  refine m_fn fun F => ?_
  refine m_new 2 fun b1 => ?_
  refine m_new 0 fun b2 => ?_
  refine m_new 0 fun b3 => ?_
  refine m_new 0 fun b4 => ?_
  refine m_shr 7 .i64 (q) 0 ?_
  refine m_i 0 .i64 (IntKind.i64.wrap (((BitVec.ofInt 64 ((q / 1 : Nat) : Int) &&& BitVec.ofInt 64 (1 : Int)).toNat : Nat) : Int)) (((q / 1) % 2 : Nat) : Int) (and1 (by omega)) ?_
  refine m_if 3 ((((q / 1) % 2 : Nat) : Int) = (0 : Int)) (fun c5 => ?_) (fun c5 => ?_)
  · -- yes
    refine m_plan 1 [1, 2] (.q 0 true (.q 1 true (.e 2 (.e 3 .n)))) [3, 2] ?_
    refine m_ld 0 1 ?_
    refine m_ld 0 2 ?_
    refine m_st 0 1 ?_
    refine m_thaw 0 ?_
    refine m_st 0 2 ?_
    refine m_thaw 1 ?_
    exact m_retC 3 [4, 3] (.tuple #[(.agg (hv x)), (.agg (hv b))]) [] ⟨(by rw [(side_0 (x := x) (b := b) (show q / 2 ^ 0 % 2 = 0 from (show q / 1 % 2 = 0 by omega))).1, (side_0 (x := x) (b := b) (show q / 2 ^ 0 % 2 = 0 from (show q / 1 % 2 = 0 by omega))).2]; first | done | kernel_rfl), by kernel_rfl⟩
  · -- no
    refine m_plan 3 [1, 2] (.q 0 true (.q 1 true (.e 2 (.e 3 .n)))) [2, 2] ?_
    refine m_ld 0 1 ?_
    refine m_ld 0 2 ?_
    refine m_st 0 1 ?_
    refine m_thaw 0 ?_
    refine m_st 0 2 ?_
    refine m_thaw 1 ?_
    exact m_retC 2 [4, 3] (.tuple #[(.agg (hv b)), (.agg (hv x))]) [] ⟨(by rw [(side_1 (x := x) (b := b) (show ¬ q / 2 ^ 0 % 2 = 0 from (show ¬ q / 1 % 2 = 0 by omega))).1, (side_1 (x := x) (b := b) (show ¬ q / 2 ^ 0 % 2 = 0 from (show ¬ q / 1 % 2 = 0 by omega))).2]; first | done | kernel_rfl), by kernel_rfl⟩

set_option maxRecDepth 100000 in
theorem sides1_j (q : Nat) (x : List Nat) (b : List Nat) (hq : q < 16) (_ : H32 x) (_ : H32 b) :
    Does Tryd.prog 52 #[(.int .i64 ((q : Nat) : Int)), (.int .i64 1), (.agg (hv x)), (.agg (hv b))] [] [] (fun v H => v = (.tuple #[(.agg (hv (upL q 1 x b))), (.agg (hv (upR q 1 x b)))]) ∧ H = []) := by
  refine m_fn fun F => ?_
  refine m_new 2 fun b1 => ?_
  refine m_new 0 fun b2 => ?_
  refine m_new 0 fun b3 => ?_
  refine m_new 0 fun b4 => ?_
  refine m_shr 7 .i64 (q) 1 ?_
  refine m_i 0 .i64 (IntKind.i64.wrap (((BitVec.ofInt 64 ((q / 2 : Nat) : Int) &&& BitVec.ofInt 64 (1 : Int)).toNat : Nat) : Int)) (((q / 2) % 2 : Nat) : Int) (and1 (by omega)) ?_
  refine m_if 3 ((((q / 2) % 2 : Nat) : Int) = (0 : Int)) (fun c5 => ?_) (fun c5 => ?_)
  · -- yes
    refine m_plan 1 [1, 2] (.q 0 true (.q 1 true (.e 2 (.e 3 .n)))) [3, 2] ?_
    refine m_ld 0 1 ?_
    refine m_ld 0 2 ?_
    refine m_st 0 1 ?_
    refine m_thaw 0 ?_
    refine m_st 0 2 ?_
    refine m_thaw 1 ?_
    exact m_retC 3 [4, 3] (.tuple #[(.agg (hv x)), (.agg (hv b))]) [] ⟨(by rw [(side_0 (x := x) (b := b) (show q / 2 ^ 1 % 2 = 0 from (show q / 2 % 2 = 0 by omega))).1, (side_0 (x := x) (b := b) (show q / 2 ^ 1 % 2 = 0 from (show q / 2 % 2 = 0 by omega))).2]; first | done | kernel_rfl), by kernel_rfl⟩
  · -- no
    refine m_plan 3 [1, 2] (.q 0 true (.q 1 true (.e 2 (.e 3 .n)))) [2, 2] ?_
    refine m_ld 0 1 ?_
    refine m_ld 0 2 ?_
    refine m_st 0 1 ?_
    refine m_thaw 0 ?_
    refine m_st 0 2 ?_
    refine m_thaw 1 ?_
    exact m_retC 2 [4, 3] (.tuple #[(.agg (hv b)), (.agg (hv x))]) [] ⟨(by rw [(side_1 (x := x) (b := b) (show ¬ q / 2 ^ 1 % 2 = 0 from (show ¬ q / 2 % 2 = 0 by omega))).1, (side_1 (x := x) (b := b) (show ¬ q / 2 ^ 1 % 2 = 0 from (show ¬ q / 2 % 2 = 0 by omega))).2]; first | done | kernel_rfl), by kernel_rfl⟩

set_option maxRecDepth 100000 in
theorem sides2_j (q : Nat) (x : List Nat) (b : List Nat) (hq : q < 16) (_ : H32 x) (_ : H32 b) :
    Does Tryd.prog 52 #[(.int .i64 ((q : Nat) : Int)), (.int .i64 2), (.agg (hv x)), (.agg (hv b))] [] [] (fun v H => v = (.tuple #[(.agg (hv (upL q 2 x b))), (.agg (hv (upR q 2 x b)))]) ∧ H = []) := by
  refine m_fn fun F => ?_
  refine m_new 2 fun b1 => ?_
  refine m_new 0 fun b2 => ?_
  refine m_new 0 fun b3 => ?_
  refine m_new 0 fun b4 => ?_
  refine m_shr 7 .i64 (q) 2 ?_
  refine m_i 0 .i64 (IntKind.i64.wrap (((BitVec.ofInt 64 ((q / 4 : Nat) : Int) &&& BitVec.ofInt 64 (1 : Int)).toNat : Nat) : Int)) (((q / 4) % 2 : Nat) : Int) (and1 (by omega)) ?_
  refine m_if 3 ((((q / 4) % 2 : Nat) : Int) = (0 : Int)) (fun c5 => ?_) (fun c5 => ?_)
  · -- yes
    refine m_plan 1 [1, 2] (.q 0 true (.q 1 true (.e 2 (.e 3 .n)))) [3, 2] ?_
    refine m_ld 0 1 ?_
    refine m_ld 0 2 ?_
    refine m_st 0 1 ?_
    refine m_thaw 0 ?_
    refine m_st 0 2 ?_
    refine m_thaw 1 ?_
    exact m_retC 3 [4, 3] (.tuple #[(.agg (hv x)), (.agg (hv b))]) [] ⟨(by rw [(side_0 (x := x) (b := b) (show q / 2 ^ 2 % 2 = 0 from (show q / 4 % 2 = 0 by omega))).1, (side_0 (x := x) (b := b) (show q / 2 ^ 2 % 2 = 0 from (show q / 4 % 2 = 0 by omega))).2]; first | done | kernel_rfl), by kernel_rfl⟩
  · -- no
    refine m_plan 3 [1, 2] (.q 0 true (.q 1 true (.e 2 (.e 3 .n)))) [2, 2] ?_
    refine m_ld 0 1 ?_
    refine m_ld 0 2 ?_
    refine m_st 0 1 ?_
    refine m_thaw 0 ?_
    refine m_st 0 2 ?_
    refine m_thaw 1 ?_
    exact m_retC 2 [4, 3] (.tuple #[(.agg (hv b)), (.agg (hv x))]) [] ⟨(by rw [(side_1 (x := x) (b := b) (show ¬ q / 2 ^ 2 % 2 = 0 from (show ¬ q / 4 % 2 = 0 by omega))).1, (side_1 (x := x) (b := b) (show ¬ q / 2 ^ 2 % 2 = 0 from (show ¬ q / 4 % 2 = 0 by omega))).2]; first | done | kernel_rfl), by kernel_rfl⟩

set_option maxRecDepth 100000 in
theorem sides3_j (q : Nat) (x : List Nat) (b : List Nat) (hq : q < 16) (_ : H32 x) (_ : H32 b) :
    Does Tryd.prog 52 #[(.int .i64 ((q : Nat) : Int)), (.int .i64 3), (.agg (hv x)), (.agg (hv b))] [] [] (fun v H => v = (.tuple #[(.agg (hv (upL q 3 x b))), (.agg (hv (upR q 3 x b)))]) ∧ H = []) := by
  refine m_fn fun F => ?_
  refine m_new 2 fun b1 => ?_
  refine m_new 0 fun b2 => ?_
  refine m_new 0 fun b3 => ?_
  refine m_new 0 fun b4 => ?_
  refine m_shr 7 .i64 (q) 3 ?_
  refine m_i 0 .i64 (IntKind.i64.wrap (((BitVec.ofInt 64 ((q / 8 : Nat) : Int) &&& BitVec.ofInt 64 (1 : Int)).toNat : Nat) : Int)) (((q / 8) % 2 : Nat) : Int) (and1 (by omega)) ?_
  refine m_if 3 ((((q / 8) % 2 : Nat) : Int) = (0 : Int)) (fun c5 => ?_) (fun c5 => ?_)
  · -- yes
    refine m_plan 1 [1, 2] (.q 0 true (.q 1 true (.e 2 (.e 3 .n)))) [3, 2] ?_
    refine m_ld 0 1 ?_
    refine m_ld 0 2 ?_
    refine m_st 0 1 ?_
    refine m_thaw 0 ?_
    refine m_st 0 2 ?_
    refine m_thaw 1 ?_
    exact m_retC 3 [4, 3] (.tuple #[(.agg (hv x)), (.agg (hv b))]) [] ⟨(by rw [(side_0 (x := x) (b := b) (show q / 2 ^ 3 % 2 = 0 from (show q / 8 % 2 = 0 by omega))).1, (side_0 (x := x) (b := b) (show q / 2 ^ 3 % 2 = 0 from (show q / 8 % 2 = 0 by omega))).2]; first | done | kernel_rfl), by kernel_rfl⟩
  · -- no
    refine m_plan 3 [1, 2] (.q 0 true (.q 1 true (.e 2 (.e 3 .n)))) [2, 2] ?_
    refine m_ld 0 1 ?_
    refine m_ld 0 2 ?_
    refine m_st 0 1 ?_
    refine m_thaw 0 ?_
    refine m_st 0 2 ?_
    refine m_thaw 1 ?_
    exact m_retC 2 [4, 3] (.tuple #[(.agg (hv b)), (.agg (hv x))]) [] ⟨(by rw [(side_1 (x := x) (b := b) (show ¬ q / 2 ^ 3 % 2 = 0 from (show ¬ q / 8 % 2 = 0 by omega))).1, (side_1 (x := x) (b := b) (show ¬ q / 2 ^ 3 % 2 = 0 from (show ¬ q / 8 % 2 = 0 by omega))).2]; first | done | kernel_rfl), by kernel_rfl⟩

set_option maxRecDepth 100000 in
theorem lead_j (pl : Int) (leaf : List Nat) (p : Path4) (hleaf : H32 leaf) (hp : Path4.Ok p) :
    Does Tryd.prog 30 #[(.int .i64 pl), (.agg (hv leaf)), (.agg (p.cells))] [(.rd (some ⟨1, 0, none⟩) ((hw KL).toList))] [] (fun v H => v = (.tuple #[(.agg (hv (leadL pl leaf p))), (.int .i64 ((pathE pl : Nat) : Int))]) ∧ H = []) := by
  refine m_fn fun F => ?_
  refine m_new 2 fun b1 => ?_
  refine m_new 0 fun b2 => ?_
  refine m_new 0 fun b3 => ?_
  refine m_call 7 [] (pthere_j pl) .nil ?_
  rintro _ _ ⟨rfl, rfl⟩
  refine m_ifn 3 (placeOk pl) (fun c4 => ?_) (fun c4 => ?_)
  · -- no
    obtain ⟨q, hq0⟩ : ∃ q : Nat, pl = (q : Int) := ⟨pl.toNat, by have h1 := c4.1; omega⟩; have hq16 : q < 16 := (by have h2 := c4.2; omega)
    refine m_ld 4 4 ?_
    refine m_new 0 fun b5 => ?_
    refine m_st 0 0 ?_
    refine m_ld 5 4 ?_
    refine m_new 20 fun b6 => ?_
    refine m_st 1 0 ?_
    refine m_i 4 .i64 pl (q : Int) hq0 ?_
    refine m_ld 1 3 ?_
    refine m_ld 0 2 ?_
    refine m_call 0 [] (sides0_j q leaf p.a (by first | with_reducible assumption | omega | decide) hleaf hp.a) .nil ?_
    rintro _ _ ⟨rfl, rfl⟩
    refine m_new 3 fun b7 => ?_
    refine m_new 0 fun b8 => ?_
    refine m_st 0 1 ?_
    refine m_st 0 0 ?_
    refine m_ld 5 3 ?_
    refine m_ld 0 2 ?_
    refine m_call 0 [] (join_j 1 (upL q 0 leaf p.a) (upR q 0 leaf p.a) (by first | with_reducible assumption | omega | decide) (upL_ok hleaf hp.a) (upR_ok hleaf hp.a)) (.cons 1 (.refl) .nil) ?_
    rintro _ _ ⟨hv9, rfl⟩
    rw [show ((.agg (hv (joinL 1 (upL q 0 leaf p.a) (upR q 0 leaf p.a)))) : Value) = (.agg (hv (up q 0 leaf p.a))) from rfl] at hv9; subst hv9
    refine m_st 0 3 ?_
    refine m_new 23 fun b10 => ?_
    refine m_st 1 0 ?_
    refine m_i 4 .i64 pl (q : Int) hq0 ?_
    refine m_ld 1 6 ?_
    refine m_ld 0 2 ?_
    refine m_call 0 [] (sides1_j q (up q 0 leaf p.a) p.b (by first | with_reducible assumption | omega | decide) (up_ok _ _ _ _) hp.b) .nil ?_
    rintro _ _ ⟨rfl, rfl⟩
    refine m_new 3 fun b11 => ?_
    refine m_new 0 fun b12 => ?_
    refine m_st 0 1 ?_
    refine m_st 0 0 ?_
    refine m_ld 5 3 ?_
    refine m_ld 0 2 ?_
    refine m_call 0 [] (join_j 2 (upL q 1 (up q 0 leaf p.a) p.b) (upR q 1 (up q 0 leaf p.a) p.b) (by first | with_reducible assumption | omega | decide) (upL_ok (up_ok _ _ _ _) hp.b) (upR_ok (up_ok _ _ _ _) hp.b)) (.cons 1 (.refl) .nil) ?_
    rintro _ _ ⟨hv13, rfl⟩
    rw [show ((.agg (hv (joinL 2 (upL q 1 (up q 0 leaf p.a) p.b) (upR q 1 (up q 0 leaf p.a) p.b)))) : Value) = (.agg (hv (up q 1 (up q 0 leaf p.a) p.b))) from rfl] at hv13; subst hv13
    refine m_st 0 6 ?_
    refine m_new 23 fun b14 => ?_
    refine m_st 1 0 ?_
    refine m_i 4 .i64 pl (q : Int) hq0 ?_
    refine m_ld 1 9 ?_
    refine m_ld 0 2 ?_
    refine m_call 0 [] (sides2_j q (up q 1 (up q 0 leaf p.a) p.b) p.c (by first | with_reducible assumption | omega | decide) (up_ok _ _ _ _) hp.c) .nil ?_
    rintro _ _ ⟨rfl, rfl⟩
    refine m_new 3 fun b15 => ?_
    refine m_new 0 fun b16 => ?_
    refine m_st 0 1 ?_
    refine m_st 0 0 ?_
    refine m_ld 5 3 ?_
    refine m_ld 0 2 ?_
    refine m_call 0 [] (join_j 3 (upL q 2 (up q 1 (up q 0 leaf p.a) p.b) p.c) (upR q 2 (up q 1 (up q 0 leaf p.a) p.b) p.c) (by first | with_reducible assumption | omega | decide) (upL_ok (up_ok _ _ _ _) hp.c) (upR_ok (up_ok _ _ _ _) hp.c)) (.cons 1 (.refl) .nil) ?_
    rintro _ _ ⟨hv17, rfl⟩
    rw [show ((.agg (hv (joinL 3 (upL q 2 (up q 1 (up q 0 leaf p.a) p.b) p.c) (upR q 2 (up q 1 (up q 0 leaf p.a) p.b) p.c)))) : Value) = (.agg (hv (up q 2 (up q 1 (up q 0 leaf p.a) p.b) p.c))) from rfl] at hv17; subst hv17
    refine m_st 0 9 ?_
    refine m_new 23 fun b18 => ?_
    refine m_st 1 0 ?_
    refine m_i 4 .i64 pl (q : Int) hq0 ?_
    refine m_ld 1 12 ?_
    refine m_ld 0 2 ?_
    refine m_call 0 [] (sides3_j q (up q 2 (up q 1 (up q 0 leaf p.a) p.b) p.c) p.d (by first | with_reducible assumption | omega | decide) (up_ok _ _ _ _) hp.d) .nil ?_
    rintro _ _ ⟨rfl, rfl⟩
    refine m_new 3 fun b19 => ?_
    refine m_new 0 fun b20 => ?_
    refine m_st 0 1 ?_
    refine m_st 0 0 ?_
    refine m_ld 5 3 ?_
    refine m_ld 0 2 ?_
    refine m_call 0 [] (join_j 4 (upL q 3 (up q 2 (up q 1 (up q 0 leaf p.a) p.b) p.c) p.d) (upR q 3 (up q 2 (up q 1 (up q 0 leaf p.a) p.b) p.c) p.d) (by first | with_reducible assumption | omega | decide) (upL_ok (up_ok _ _ _ _) hp.d) (upR_ok (up_ok _ _ _ _) hp.d)) (.cons 1 (.refl) .nil) ?_
    rintro _ _ ⟨hv21, rfl⟩
    rw [show ((.agg (hv (joinL 4 (upL q 3 (up q 2 (up q 1 (up q 0 leaf p.a) p.b) p.c) p.d) (upR q 3 (up q 2 (up q 1 (up q 0 leaf p.a) p.b) p.c) p.d)))) : Value) = (.agg (hv (up q 3 (up q 2 (up q 1 (up q 0 leaf p.a) p.b) p.c) p.d))) from rfl] at hv21; subst hv21
    refine m_st 0 12 ?_
    refine m_ld 22 14 ?_
    refine m_st 0 13 ?_
    exact m_retC 4 [15, 0] (.tuple #[(.agg (hv (up q 3 (up q 2 (up q 1 (up q 0 leaf p.a) p.b) p.c) p.d))), (.int .i64 0)]) [] ⟨(by rw [leadL_yes hq0 hq16, pathE_yes (by rw [hq0]; exact placeOk_nat hq16)]; first | done | kernel_rfl), by kernel_rfl⟩
  · -- yes
    refine m_st 3 0 ?_
    exact m_retC 5 [2, 0] (.tuple #[(.agg (hv Z32)), (.int .i64 1)]) [] ⟨(by rw [leadL_no (fun h => by have h1 := h.1; have h2 := h.2; first | omega | contradiction), pathE_no (fun h => by have h1 := h.1; have h2 := h.2; first | omega | contradiction)]; first | done | kernel_rfl), by kernel_rfl⟩

set_option maxRecDepth 100000 in
theorem bit_j (q : Nat) (h : Nat) (hq : q < 16) (hh : h < 16) :
    Does Tryd.prog 53 #[(.int .i64 ((q : Nat) : Int)), (.int .i64 ((h : Nat) : Int))] [] [] (fun v H => v = (.int .i64 ((q / 2 ^ h % 2 : Nat) : Int)) ∧ H = []) := by
  refine m_fn fun F => ?_
  refine m_loop (X := Nat × Nat) 12 [1] (fun (x : Nat × Nat) => [(0, (.int .i64 ((x.2 : Nat) : Int))), (5, (.int .i64 ((x.1 : Nat) : Int)))]) [] (fun (x : Nat × Nat) => []) (fun (x : Nat × Nat) => (x.1 ≤ h) ∧ (x.2 = q / 2 ^ x.1) ∧ (x.2 < 16)) (fun (x : Nat × Nat) => h - x.1) (0, q) (⟨Nat.zero_le _, by simp, hq⟩) (fun x u1 hx => ?_)
  obtain ⟨i, x⟩ := x; dsimp only at hx
  obtain ⟨hi, hx, hx2⟩ := hx
  refine m_if 8 (((i : Nat) : Int) < ((h : Nat) : Int)) (fun c2 => ?_) (fun c2 => ?_)
  · -- yes
    refine m_i 6 .i64 (IntKind.i64.wrap (((x : Nat) : Int).tdiv ((2 : Nat) : Int))) ((x / 2 : Nat) : Int) (quo_i64 (by omega)) ?_
    refine m_i64 6 (((i : Nat) : Int) + (1 : Int)) (i + 1) (by omega) ?_
    exact m_back 2 (i + 1, x / 2) [] ⟨⟨(by omega), (by rw [hx, Nat.pow_succ, Nat.div_div_eq_div_mul]), (by omega)⟩, (by omega)⟩
  · -- no
    refine m_rem 8 .i64 (x) 2 ?_
    exact m_ret 4 (.int .i64 ((x % 2 : Nat) : Int)) [] ⟨(by rw [hx, show i = h from by omega]), by kernel_rfl⟩

set_option maxRecDepth 100000 in
theorem rlead_j (pl : Int) (leaf : List Nat) (p : Path4) (hleaf : H32 leaf) (hp : Path4.Ok p) :
    Does Tryd.prog 31 #[(.int .i64 pl), (.agg (hv leaf)), (.agg (p.cells))] [(.rd (some ⟨0, 0, none⟩) ((hw KL).toList))] [] (fun v H => v = (.tuple #[(.agg (hv (leadL pl leaf p))), (.int .i64 ((pathE pl : Nat) : Int))]) ∧ H = []) := by
  refine m_fn fun F => ?_
  refine m_new 2 fun b1 => ?_
  refine m_new 0 fun b2 => ?_
  refine m_new 0 fun b3 => ?_
  refine m_sp 8 (pl < (0 : Int)) (fun c4 => ?_) (fun c4 => ?_)
  · -- yes
    refine m_st 9 0 ?_
    exact m_retC 5 [2, 0] (.tuple #[(.agg (hv Z32)), (.int .i64 1)]) [] ⟨(by rw [leadL_no (fun h => by have h1 := h.1; have h2 := h.2; first | omega | contradiction), pathE_no (fun h => by have h1 := h.1; have h2 := h.2; first | omega | contradiction)]; first | done | kernel_rfl), by kernel_rfl⟩
  · -- no
    refine m_if 5 (pl > (15 : Int)) (fun c5 => ?_) (fun c5 => ?_)
    · -- yes
      refine m_st 3 0 ?_
      exact m_retC 5 [2, 0] (.tuple #[(.agg (hv Z32)), (.int .i64 1)]) [] ⟨(by rw [leadL_no (fun h => by have h1 := h.1; have h2 := h.2; first | omega | contradiction), pathE_no (fun h => by have h1 := h.1; have h2 := h.2; first | omega | contradiction)]; first | done | kernel_rfl), by kernel_rfl⟩
    · -- no
      obtain ⟨q, hq0⟩ : ∃ q : Nat, pl = (q : Int) := ⟨pl.toNat, by omega⟩; have hq16 : q < 16 := (by omega); have hpo : placeOk pl := (by rw [hq0]; exact placeOk_nat hq16)
      refine m_ld 4 4 ?_
      refine m_new 0 fun b6 => ?_
      refine m_st 0 0 ?_
      refine m_i 24 .i64 pl (q : Int) hq0 ?_
      refine m_call 1 [] (bit_j q 0 (hq16) (by first | with_reducible assumption | omega | decide)) .nil ?_
      rintro _ _ ⟨rfl, rfl⟩
      refine m_if 3 (((q / 2 ^ 0 % 2 : Nat) : Int) = (0 : Int)) (fun c7 => ?_) (fun c7 => ?_)
      · -- yes
        refine m_plan 0 [3, 4, 5] (.q 0 false (.q 1 false (.q 2 true (.q 3 false (.q 4 false (.q 5 true (.e 6 (.e 7 .n)))))))) [0, 1] ?_
        refine m_ld 2 2 ?_
        refine m_ld 2 3 ?_
        refine m_thaw 0 ?_
        refine m_call 0 [] (rjoin_j 1 leaf p.a (by first | with_reducible assumption | omega | decide) hleaf hp.a) (.cons 1 (.refl) .nil) ?_
        rintro _ _ ⟨hv8, rfl⟩
        rw [show ((.agg (hv (joinL 1 leaf p.a))) : Value) = (.agg (hv (up q 0 leaf p.a))) from by rw [up_0 (q := q) (h := 0) (by omega)]; first | done | rfl] at hv8; subst hv8
        refine m_st 0 0 ?_
        refine m_thaw 1 ?_
        refine m_i 22 .i64 pl (q : Int) hq0 ?_
        refine m_call 1 [] (bit_j q 1 (hq16) (by first | with_reducible assumption | omega | decide)) .nil ?_
        rintro _ _ ⟨rfl, rfl⟩
        refine m_if 3 (((q / 2 ^ 1 % 2 : Nat) : Int) = (0 : Int)) (fun c9 => ?_) (fun c9 => ?_)
        · -- yes
          refine m_plan 0 [3, 4, 5] (.q 0 false (.q 1 false (.q 2 true (.q 3 false (.q 4 false (.q 5 true (.e 6 (.e 7 .n)))))))) [0, 0] ?_
          refine m_ld 2 2 ?_
          refine m_ld 2 3 ?_
          refine m_thaw 0 ?_
          refine m_call 0 [] (rjoin_j 2 (up q 0 leaf p.a) p.b (by first | with_reducible assumption | omega | decide) (up_ok _ _ _ _) hp.b) (.cons 1 (.refl) .nil) ?_
          rintro _ _ ⟨hv10, rfl⟩
          rw [show ((.agg (hv (joinL 2 (up q 0 leaf p.a) p.b))) : Value) = (.agg (hv (up q 1 (up q 0 leaf p.a) p.b))) from by rw [up_0 (q := q) (h := 1) (by omega)]; first | done | rfl] at hv10; subst hv10
          refine m_st 0 0 ?_
          refine m_thaw 1 ?_
          refine m_i 22 .i64 pl (q : Int) hq0 ?_
          refine m_call 1 [] (bit_j q 2 (hq16) (by first | with_reducible assumption | omega | decide)) .nil ?_
          rintro _ _ ⟨rfl, rfl⟩
          refine m_if 3 (((q / 2 ^ 2 % 2 : Nat) : Int) = (0 : Int)) (fun c11 => ?_) (fun c11 => ?_)
          · -- yes
            refine m_plan 0 [3, 4, 5] (.q 0 false (.q 1 false (.q 2 true (.q 3 false (.q 4 false (.q 5 true (.e 6 (.e 7 .n)))))))) [0, 0] ?_
            refine m_ld 2 2 ?_
            refine m_ld 2 3 ?_
            refine m_thaw 0 ?_
            refine m_call 0 [] (rjoin_j 3 (up q 1 (up q 0 leaf p.a) p.b) p.c (by first | with_reducible assumption | omega | decide) (up_ok _ _ _ _) hp.c) (.cons 1 (.refl) .nil) ?_
            rintro _ _ ⟨hv12, rfl⟩
            rw [show ((.agg (hv (joinL 3 (up q 1 (up q 0 leaf p.a) p.b) p.c))) : Value) = (.agg (hv (up q 2 (up q 1 (up q 0 leaf p.a) p.b) p.c))) from by rw [up_0 (q := q) (h := 2) (by omega)]; first | done | rfl] at hv12; subst hv12
            refine m_st 0 0 ?_
            refine m_thaw 1 ?_
            refine m_i 22 .i64 pl (q : Int) hq0 ?_
            refine m_call 1 [] (bit_j q 3 (hq16) (by first | with_reducible assumption | omega | decide)) .nil ?_
            rintro _ _ ⟨rfl, rfl⟩
            refine m_if 3 (((q / 2 ^ 3 % 2 : Nat) : Int) = (0 : Int)) (fun c13 => ?_) (fun c13 => ?_)
            · -- yes
              refine m_plan 0 [3, 4, 5] (.q 0 false (.q 1 false (.q 2 true (.q 3 false (.q 4 false (.q 5 true (.e 6 (.e 7 .n)))))))) [0, 0] ?_
              refine m_ld 2 2 ?_
              refine m_ld 2 3 ?_
              refine m_thaw 0 ?_
              refine m_call 0 [] (rjoin_j 4 (up q 2 (up q 1 (up q 0 leaf p.a) p.b) p.c) p.d (by first | with_reducible assumption | omega | decide) (up_ok _ _ _ _) hp.d) (.cons 1 (.refl) .nil) ?_
              rintro _ _ ⟨hv14, rfl⟩
              rw [show ((.agg (hv (joinL 4 (up q 2 (up q 1 (up q 0 leaf p.a) p.b) p.c) p.d))) : Value) = (.agg (hv (up q 3 (up q 2 (up q 1 (up q 0 leaf p.a) p.b) p.c) p.d))) from by rw [up_0 (q := q) (h := 3) (by omega)]; first | done | rfl] at hv14; subst hv14
              refine m_st 0 0 ?_
              refine m_thaw 1 ?_
              refine m_ld 23 2 ?_
              refine m_st 0 2 ?_
              exact m_retC 4 [4, 0] (.tuple #[(.agg (hv (up q 3 (up q 2 (up q 1 (up q 0 leaf p.a) p.b) p.c) p.d))), (.int .i64 0)]) [] ⟨(by rw [leadL_yes hq0 hq16, pathE_yes (by rw [hq0]; exact placeOk_nat hq16)]; first | done | kernel_rfl), by kernel_rfl⟩
            · -- no
              refine m_plan 0 [5] (.q 0 false (.q 1 false (.q 2 false (.q 3 false (.q 4 true (.q 5 true (.e 6 (.e 7 .n)))))))) [1, 0] ?_
              refine m_ld 4 2 ?_
              refine m_ld 0 3 ?_
              refine m_thaw 0 ?_
              refine m_call 0 [] (rjoin_j 4 p.d (up q 2 (up q 1 (up q 0 leaf p.a) p.b) p.c) (by first | with_reducible assumption | omega | decide) hp.d (up_ok _ _ _ _)) (.cons 1 (.refl) .nil) ?_
              rintro _ _ ⟨hv15, rfl⟩
              rw [show ((.agg (hv (joinL 4 p.d (up q 2 (up q 1 (up q 0 leaf p.a) p.b) p.c)))) : Value) = (.agg (hv (up q 3 (up q 2 (up q 1 (up q 0 leaf p.a) p.b) p.c) p.d))) from by rw [up_1 (q := q) (h := 3) (by omega)]; first | done | rfl] at hv15; subst hv15
              refine m_st 0 1 ?_
              refine m_thaw 1 ?_
              refine m_ld 23 3 ?_
              refine m_st 0 2 ?_
              exact m_retC 4 [4, 0] (.tuple #[(.agg (hv (up q 3 (up q 2 (up q 1 (up q 0 leaf p.a) p.b) p.c) p.d))), (.int .i64 0)]) [] ⟨(by rw [leadL_yes hq0 hq16, pathE_yes (by rw [hq0]; exact placeOk_nat hq16)]; first | done | kernel_rfl), by kernel_rfl⟩
          · -- no
            refine m_plan 0 [5] (.q 0 false (.q 1 false (.q 2 false (.q 3 false (.q 4 true (.q 5 true (.e 6 (.e 7 .n)))))))) [1, 0] ?_
            refine m_ld 4 2 ?_
            refine m_ld 0 3 ?_
            refine m_thaw 0 ?_
            refine m_call 0 [] (rjoin_j 3 p.c (up q 1 (up q 0 leaf p.a) p.b) (by first | with_reducible assumption | omega | decide) hp.c (up_ok _ _ _ _)) (.cons 1 (.refl) .nil) ?_
            rintro _ _ ⟨hv16, rfl⟩
            rw [show ((.agg (hv (joinL 3 p.c (up q 1 (up q 0 leaf p.a) p.b)))) : Value) = (.agg (hv (up q 2 (up q 1 (up q 0 leaf p.a) p.b) p.c))) from by rw [up_1 (q := q) (h := 2) (by omega)]; first | done | rfl] at hv16; subst hv16
            refine m_st 0 1 ?_
            refine m_thaw 1 ?_
            refine m_i 22 .i64 pl (q : Int) hq0 ?_
            refine m_call 1 [] (bit_j q 3 (hq16) (by first | with_reducible assumption | omega | decide)) .nil ?_
            rintro _ _ ⟨rfl, rfl⟩
            refine m_if 3 (((q / 2 ^ 3 % 2 : Nat) : Int) = (0 : Int)) (fun c17 => ?_) (fun c17 => ?_)
            · -- yes
              refine m_plan 0 [3, 4, 5] (.q 0 false (.q 1 false (.q 2 true (.q 3 false (.q 4 false (.q 5 true (.e 6 (.e 7 .n)))))))) [1, 0] ?_
              refine m_ld 2 2 ?_
              refine m_ld 2 3 ?_
              refine m_thaw 0 ?_
              refine m_call 0 [] (rjoin_j 4 (up q 2 (up q 1 (up q 0 leaf p.a) p.b) p.c) p.d (by first | with_reducible assumption | omega | decide) (up_ok _ _ _ _) hp.d) (.cons 1 (.refl) .nil) ?_
              rintro _ _ ⟨hv18, rfl⟩
              rw [show ((.agg (hv (joinL 4 (up q 2 (up q 1 (up q 0 leaf p.a) p.b) p.c) p.d))) : Value) = (.agg (hv (up q 3 (up q 2 (up q 1 (up q 0 leaf p.a) p.b) p.c) p.d))) from by rw [up_0 (q := q) (h := 3) (by omega)]; first | done | rfl] at hv18; subst hv18
              refine m_st 0 0 ?_
              refine m_thaw 1 ?_
              refine m_ld 23 2 ?_
              refine m_st 0 2 ?_
              exact m_retC 4 [4, 0] (.tuple #[(.agg (hv (up q 3 (up q 2 (up q 1 (up q 0 leaf p.a) p.b) p.c) p.d))), (.int .i64 0)]) [] ⟨(by rw [leadL_yes hq0 hq16, pathE_yes (by rw [hq0]; exact placeOk_nat hq16)]; first | done | kernel_rfl), by kernel_rfl⟩
            · -- no
              refine m_plan 0 [5] (.q 0 false (.q 1 false (.q 2 false (.q 3 false (.q 4 true (.q 5 true (.e 6 (.e 7 .n)))))))) [0, 0] ?_
              refine m_ld 4 2 ?_
              refine m_ld 0 3 ?_
              refine m_thaw 0 ?_
              refine m_call 0 [] (rjoin_j 4 p.d (up q 2 (up q 1 (up q 0 leaf p.a) p.b) p.c) (by first | with_reducible assumption | omega | decide) hp.d (up_ok _ _ _ _)) (.cons 1 (.refl) .nil) ?_
              rintro _ _ ⟨hv19, rfl⟩
              rw [show ((.agg (hv (joinL 4 p.d (up q 2 (up q 1 (up q 0 leaf p.a) p.b) p.c)))) : Value) = (.agg (hv (up q 3 (up q 2 (up q 1 (up q 0 leaf p.a) p.b) p.c) p.d))) from by rw [up_1 (q := q) (h := 3) (by omega)]; first | done | rfl] at hv19; subst hv19
              refine m_st 0 1 ?_
              refine m_thaw 1 ?_
              refine m_ld 23 3 ?_
              refine m_st 0 2 ?_
              exact m_retC 4 [4, 0] (.tuple #[(.agg (hv (up q 3 (up q 2 (up q 1 (up q 0 leaf p.a) p.b) p.c) p.d))), (.int .i64 0)]) [] ⟨(by rw [leadL_yes hq0 hq16, pathE_yes (by rw [hq0]; exact placeOk_nat hq16)]; first | done | kernel_rfl), by kernel_rfl⟩
        · -- no
          refine m_plan 0 [5] (.q 0 false (.q 1 false (.q 2 false (.q 3 false (.q 4 true (.q 5 true (.e 6 (.e 7 .n)))))))) [1, 0] ?_
          refine m_ld 4 2 ?_
          refine m_ld 0 3 ?_
          refine m_thaw 0 ?_
          refine m_call 0 [] (rjoin_j 2 p.b (up q 0 leaf p.a) (by first | with_reducible assumption | omega | decide) hp.b (up_ok _ _ _ _)) (.cons 1 (.refl) .nil) ?_
          rintro _ _ ⟨hv20, rfl⟩
          rw [show ((.agg (hv (joinL 2 p.b (up q 0 leaf p.a)))) : Value) = (.agg (hv (up q 1 (up q 0 leaf p.a) p.b))) from by rw [up_1 (q := q) (h := 1) (by omega)]; first | done | rfl] at hv20; subst hv20
          refine m_st 0 1 ?_
          refine m_thaw 1 ?_
          refine m_i 22 .i64 pl (q : Int) hq0 ?_
          refine m_call 1 [] (bit_j q 2 (hq16) (by first | with_reducible assumption | omega | decide)) .nil ?_
          rintro _ _ ⟨rfl, rfl⟩
          refine m_if 3 (((q / 2 ^ 2 % 2 : Nat) : Int) = (0 : Int)) (fun c21 => ?_) (fun c21 => ?_)
          · -- yes
            refine m_plan 0 [3, 4, 5] (.q 0 false (.q 1 false (.q 2 true (.q 3 false (.q 4 false (.q 5 true (.e 6 (.e 7 .n)))))))) [1, 0] ?_
            refine m_ld 2 2 ?_
            refine m_ld 2 3 ?_
            refine m_thaw 0 ?_
            refine m_call 0 [] (rjoin_j 3 (up q 1 (up q 0 leaf p.a) p.b) p.c (by first | with_reducible assumption | omega | decide) (up_ok _ _ _ _) hp.c) (.cons 1 (.refl) .nil) ?_
            rintro _ _ ⟨hv22, rfl⟩
            rw [show ((.agg (hv (joinL 3 (up q 1 (up q 0 leaf p.a) p.b) p.c))) : Value) = (.agg (hv (up q 2 (up q 1 (up q 0 leaf p.a) p.b) p.c))) from by rw [up_0 (q := q) (h := 2) (by omega)]; first | done | rfl] at hv22; subst hv22
            refine m_st 0 0 ?_
            refine m_thaw 1 ?_
            refine m_i 22 .i64 pl (q : Int) hq0 ?_
            refine m_call 1 [] (bit_j q 3 (hq16) (by first | with_reducible assumption | omega | decide)) .nil ?_
            rintro _ _ ⟨rfl, rfl⟩
            refine m_if 3 (((q / 2 ^ 3 % 2 : Nat) : Int) = (0 : Int)) (fun c23 => ?_) (fun c23 => ?_)
            · -- yes
              refine m_plan 0 [3, 4, 5] (.q 0 false (.q 1 false (.q 2 true (.q 3 false (.q 4 false (.q 5 true (.e 6 (.e 7 .n)))))))) [0, 0] ?_
              refine m_ld 2 2 ?_
              refine m_ld 2 3 ?_
              refine m_thaw 0 ?_
              refine m_call 0 [] (rjoin_j 4 (up q 2 (up q 1 (up q 0 leaf p.a) p.b) p.c) p.d (by first | with_reducible assumption | omega | decide) (up_ok _ _ _ _) hp.d) (.cons 1 (.refl) .nil) ?_
              rintro _ _ ⟨hv24, rfl⟩
              rw [show ((.agg (hv (joinL 4 (up q 2 (up q 1 (up q 0 leaf p.a) p.b) p.c) p.d))) : Value) = (.agg (hv (up q 3 (up q 2 (up q 1 (up q 0 leaf p.a) p.b) p.c) p.d))) from by rw [up_0 (q := q) (h := 3) (by omega)]; first | done | rfl] at hv24; subst hv24
              refine m_st 0 0 ?_
              refine m_thaw 1 ?_
              refine m_ld 23 2 ?_
              refine m_st 0 2 ?_
              exact m_retC 4 [4, 0] (.tuple #[(.agg (hv (up q 3 (up q 2 (up q 1 (up q 0 leaf p.a) p.b) p.c) p.d))), (.int .i64 0)]) [] ⟨(by rw [leadL_yes hq0 hq16, pathE_yes (by rw [hq0]; exact placeOk_nat hq16)]; first | done | kernel_rfl), by kernel_rfl⟩
            · -- no
              refine m_plan 0 [5] (.q 0 false (.q 1 false (.q 2 false (.q 3 false (.q 4 true (.q 5 true (.e 6 (.e 7 .n)))))))) [1, 0] ?_
              refine m_ld 4 2 ?_
              refine m_ld 0 3 ?_
              refine m_thaw 0 ?_
              refine m_call 0 [] (rjoin_j 4 p.d (up q 2 (up q 1 (up q 0 leaf p.a) p.b) p.c) (by first | with_reducible assumption | omega | decide) hp.d (up_ok _ _ _ _)) (.cons 1 (.refl) .nil) ?_
              rintro _ _ ⟨hv25, rfl⟩
              rw [show ((.agg (hv (joinL 4 p.d (up q 2 (up q 1 (up q 0 leaf p.a) p.b) p.c)))) : Value) = (.agg (hv (up q 3 (up q 2 (up q 1 (up q 0 leaf p.a) p.b) p.c) p.d))) from by rw [up_1 (q := q) (h := 3) (by omega)]; first | done | rfl] at hv25; subst hv25
              refine m_st 0 1 ?_
              refine m_thaw 1 ?_
              refine m_ld 23 3 ?_
              refine m_st 0 2 ?_
              exact m_retC 4 [4, 0] (.tuple #[(.agg (hv (up q 3 (up q 2 (up q 1 (up q 0 leaf p.a) p.b) p.c) p.d))), (.int .i64 0)]) [] ⟨(by rw [leadL_yes hq0 hq16, pathE_yes (by rw [hq0]; exact placeOk_nat hq16)]; first | done | kernel_rfl), by kernel_rfl⟩
          · -- no
            refine m_plan 0 [5] (.q 0 false (.q 1 false (.q 2 false (.q 3 false (.q 4 true (.q 5 true (.e 6 (.e 7 .n)))))))) [0, 0] ?_
            refine m_ld 4 2 ?_
            refine m_ld 0 3 ?_
            refine m_thaw 0 ?_
            refine m_call 0 [] (rjoin_j 3 p.c (up q 1 (up q 0 leaf p.a) p.b) (by first | with_reducible assumption | omega | decide) hp.c (up_ok _ _ _ _)) (.cons 1 (.refl) .nil) ?_
            rintro _ _ ⟨hv26, rfl⟩
            rw [show ((.agg (hv (joinL 3 p.c (up q 1 (up q 0 leaf p.a) p.b)))) : Value) = (.agg (hv (up q 2 (up q 1 (up q 0 leaf p.a) p.b) p.c))) from by rw [up_1 (q := q) (h := 2) (by omega)]; first | done | rfl] at hv26; subst hv26
            refine m_st 0 1 ?_
            refine m_thaw 1 ?_
            refine m_i 22 .i64 pl (q : Int) hq0 ?_
            refine m_call 1 [] (bit_j q 3 (hq16) (by first | with_reducible assumption | omega | decide)) .nil ?_
            rintro _ _ ⟨rfl, rfl⟩
            refine m_if 3 (((q / 2 ^ 3 % 2 : Nat) : Int) = (0 : Int)) (fun c27 => ?_) (fun c27 => ?_)
            · -- yes
              refine m_plan 0 [3, 4, 5] (.q 0 false (.q 1 false (.q 2 true (.q 3 false (.q 4 false (.q 5 true (.e 6 (.e 7 .n)))))))) [1, 0] ?_
              refine m_ld 2 2 ?_
              refine m_ld 2 3 ?_
              refine m_thaw 0 ?_
              refine m_call 0 [] (rjoin_j 4 (up q 2 (up q 1 (up q 0 leaf p.a) p.b) p.c) p.d (by first | with_reducible assumption | omega | decide) (up_ok _ _ _ _) hp.d) (.cons 1 (.refl) .nil) ?_
              rintro _ _ ⟨hv28, rfl⟩
              rw [show ((.agg (hv (joinL 4 (up q 2 (up q 1 (up q 0 leaf p.a) p.b) p.c) p.d))) : Value) = (.agg (hv (up q 3 (up q 2 (up q 1 (up q 0 leaf p.a) p.b) p.c) p.d))) from by rw [up_0 (q := q) (h := 3) (by omega)]; first | done | rfl] at hv28; subst hv28
              refine m_st 0 0 ?_
              refine m_thaw 1 ?_
              refine m_ld 23 2 ?_
              refine m_st 0 2 ?_
              exact m_retC 4 [4, 0] (.tuple #[(.agg (hv (up q 3 (up q 2 (up q 1 (up q 0 leaf p.a) p.b) p.c) p.d))), (.int .i64 0)]) [] ⟨(by rw [leadL_yes hq0 hq16, pathE_yes (by rw [hq0]; exact placeOk_nat hq16)]; first | done | kernel_rfl), by kernel_rfl⟩
            · -- no
              refine m_plan 0 [5] (.q 0 false (.q 1 false (.q 2 false (.q 3 false (.q 4 true (.q 5 true (.e 6 (.e 7 .n)))))))) [0, 0] ?_
              refine m_ld 4 2 ?_
              refine m_ld 0 3 ?_
              refine m_thaw 0 ?_
              refine m_call 0 [] (rjoin_j 4 p.d (up q 2 (up q 1 (up q 0 leaf p.a) p.b) p.c) (by first | with_reducible assumption | omega | decide) hp.d (up_ok _ _ _ _)) (.cons 1 (.refl) .nil) ?_
              rintro _ _ ⟨hv29, rfl⟩
              rw [show ((.agg (hv (joinL 4 p.d (up q 2 (up q 1 (up q 0 leaf p.a) p.b) p.c)))) : Value) = (.agg (hv (up q 3 (up q 2 (up q 1 (up q 0 leaf p.a) p.b) p.c) p.d))) from by rw [up_1 (q := q) (h := 3) (by omega)]; first | done | rfl] at hv29; subst hv29
              refine m_st 0 1 ?_
              refine m_thaw 1 ?_
              refine m_ld 23 3 ?_
              refine m_st 0 2 ?_
              exact m_retC 4 [4, 0] (.tuple #[(.agg (hv (up q 3 (up q 2 (up q 1 (up q 0 leaf p.a) p.b) p.c) p.d))), (.int .i64 0)]) [] ⟨(by rw [leadL_yes hq0 hq16, pathE_yes (by rw [hq0]; exact placeOk_nat hq16)]; first | done | kernel_rfl), by kernel_rfl⟩
      · -- no
        refine m_plan 0 [5] (.q 0 false (.q 1 false (.q 2 false (.q 3 false (.q 4 true (.q 5 true (.e 6 (.e 7 .n)))))))) [2, 0] ?_
        refine m_ld 4 2 ?_
        refine m_ld 0 3 ?_
        refine m_thaw 0 ?_
        refine m_call 0 [] (rjoin_j 1 p.a leaf (by first | with_reducible assumption | omega | decide) hp.a hleaf) (.cons 1 (.refl) .nil) ?_
        rintro _ _ ⟨hv30, rfl⟩
        rw [show ((.agg (hv (joinL 1 p.a leaf))) : Value) = (.agg (hv (up q 0 leaf p.a))) from by rw [up_1 (q := q) (h := 0) (by omega)]; first | done | rfl] at hv30; subst hv30
        refine m_st 0 1 ?_
        refine m_thaw 1 ?_
        refine m_i 22 .i64 pl (q : Int) hq0 ?_
        refine m_call 1 [] (bit_j q 1 (hq16) (by first | with_reducible assumption | omega | decide)) .nil ?_
        rintro _ _ ⟨rfl, rfl⟩
        refine m_if 3 (((q / 2 ^ 1 % 2 : Nat) : Int) = (0 : Int)) (fun c31 => ?_) (fun c31 => ?_)
        · -- yes
          refine m_plan 0 [3, 4, 5] (.q 0 false (.q 1 false (.q 2 true (.q 3 false (.q 4 false (.q 5 true (.e 6 (.e 7 .n)))))))) [1, 0] ?_
          refine m_ld 2 2 ?_
          refine m_ld 2 3 ?_
          refine m_thaw 0 ?_
          refine m_call 0 [] (rjoin_j 2 (up q 0 leaf p.a) p.b (by first | with_reducible assumption | omega | decide) (up_ok _ _ _ _) hp.b) (.cons 1 (.refl) .nil) ?_
          rintro _ _ ⟨hv32, rfl⟩
          rw [show ((.agg (hv (joinL 2 (up q 0 leaf p.a) p.b))) : Value) = (.agg (hv (up q 1 (up q 0 leaf p.a) p.b))) from by rw [up_0 (q := q) (h := 1) (by omega)]; first | done | rfl] at hv32; subst hv32
          refine m_st 0 0 ?_
          refine m_thaw 1 ?_
          refine m_i 22 .i64 pl (q : Int) hq0 ?_
          refine m_call 1 [] (bit_j q 2 (hq16) (by first | with_reducible assumption | omega | decide)) .nil ?_
          rintro _ _ ⟨rfl, rfl⟩
          refine m_if 3 (((q / 2 ^ 2 % 2 : Nat) : Int) = (0 : Int)) (fun c33 => ?_) (fun c33 => ?_)
          · -- yes
            refine m_plan 0 [3, 4, 5] (.q 0 false (.q 1 false (.q 2 true (.q 3 false (.q 4 false (.q 5 true (.e 6 (.e 7 .n)))))))) [0, 0] ?_
            refine m_ld 2 2 ?_
            refine m_ld 2 3 ?_
            refine m_thaw 0 ?_
            refine m_call 0 [] (rjoin_j 3 (up q 1 (up q 0 leaf p.a) p.b) p.c (by first | with_reducible assumption | omega | decide) (up_ok _ _ _ _) hp.c) (.cons 1 (.refl) .nil) ?_
            rintro _ _ ⟨hv34, rfl⟩
            rw [show ((.agg (hv (joinL 3 (up q 1 (up q 0 leaf p.a) p.b) p.c))) : Value) = (.agg (hv (up q 2 (up q 1 (up q 0 leaf p.a) p.b) p.c))) from by rw [up_0 (q := q) (h := 2) (by omega)]; first | done | rfl] at hv34; subst hv34
            refine m_st 0 0 ?_
            refine m_thaw 1 ?_
            refine m_i 22 .i64 pl (q : Int) hq0 ?_
            refine m_call 1 [] (bit_j q 3 (hq16) (by first | with_reducible assumption | omega | decide)) .nil ?_
            rintro _ _ ⟨rfl, rfl⟩
            refine m_if 3 (((q / 2 ^ 3 % 2 : Nat) : Int) = (0 : Int)) (fun c35 => ?_) (fun c35 => ?_)
            · -- yes
              refine m_plan 0 [3, 4, 5] (.q 0 false (.q 1 false (.q 2 true (.q 3 false (.q 4 false (.q 5 true (.e 6 (.e 7 .n)))))))) [0, 0] ?_
              refine m_ld 2 2 ?_
              refine m_ld 2 3 ?_
              refine m_thaw 0 ?_
              refine m_call 0 [] (rjoin_j 4 (up q 2 (up q 1 (up q 0 leaf p.a) p.b) p.c) p.d (by first | with_reducible assumption | omega | decide) (up_ok _ _ _ _) hp.d) (.cons 1 (.refl) .nil) ?_
              rintro _ _ ⟨hv36, rfl⟩
              rw [show ((.agg (hv (joinL 4 (up q 2 (up q 1 (up q 0 leaf p.a) p.b) p.c) p.d))) : Value) = (.agg (hv (up q 3 (up q 2 (up q 1 (up q 0 leaf p.a) p.b) p.c) p.d))) from by rw [up_0 (q := q) (h := 3) (by omega)]; first | done | rfl] at hv36; subst hv36
              refine m_st 0 0 ?_
              refine m_thaw 1 ?_
              refine m_ld 23 2 ?_
              refine m_st 0 2 ?_
              exact m_retC 4 [4, 0] (.tuple #[(.agg (hv (up q 3 (up q 2 (up q 1 (up q 0 leaf p.a) p.b) p.c) p.d))), (.int .i64 0)]) [] ⟨(by rw [leadL_yes hq0 hq16, pathE_yes (by rw [hq0]; exact placeOk_nat hq16)]; first | done | kernel_rfl), by kernel_rfl⟩
            · -- no
              refine m_plan 0 [5] (.q 0 false (.q 1 false (.q 2 false (.q 3 false (.q 4 true (.q 5 true (.e 6 (.e 7 .n)))))))) [1, 0] ?_
              refine m_ld 4 2 ?_
              refine m_ld 0 3 ?_
              refine m_thaw 0 ?_
              refine m_call 0 [] (rjoin_j 4 p.d (up q 2 (up q 1 (up q 0 leaf p.a) p.b) p.c) (by first | with_reducible assumption | omega | decide) hp.d (up_ok _ _ _ _)) (.cons 1 (.refl) .nil) ?_
              rintro _ _ ⟨hv37, rfl⟩
              rw [show ((.agg (hv (joinL 4 p.d (up q 2 (up q 1 (up q 0 leaf p.a) p.b) p.c)))) : Value) = (.agg (hv (up q 3 (up q 2 (up q 1 (up q 0 leaf p.a) p.b) p.c) p.d))) from by rw [up_1 (q := q) (h := 3) (by omega)]; first | done | rfl] at hv37; subst hv37
              refine m_st 0 1 ?_
              refine m_thaw 1 ?_
              refine m_ld 23 3 ?_
              refine m_st 0 2 ?_
              exact m_retC 4 [4, 0] (.tuple #[(.agg (hv (up q 3 (up q 2 (up q 1 (up q 0 leaf p.a) p.b) p.c) p.d))), (.int .i64 0)]) [] ⟨(by rw [leadL_yes hq0 hq16, pathE_yes (by rw [hq0]; exact placeOk_nat hq16)]; first | done | kernel_rfl), by kernel_rfl⟩
          · -- no
            refine m_plan 0 [5] (.q 0 false (.q 1 false (.q 2 false (.q 3 false (.q 4 true (.q 5 true (.e 6 (.e 7 .n)))))))) [1, 0] ?_
            refine m_ld 4 2 ?_
            refine m_ld 0 3 ?_
            refine m_thaw 0 ?_
            refine m_call 0 [] (rjoin_j 3 p.c (up q 1 (up q 0 leaf p.a) p.b) (by first | with_reducible assumption | omega | decide) hp.c (up_ok _ _ _ _)) (.cons 1 (.refl) .nil) ?_
            rintro _ _ ⟨hv38, rfl⟩
            rw [show ((.agg (hv (joinL 3 p.c (up q 1 (up q 0 leaf p.a) p.b)))) : Value) = (.agg (hv (up q 2 (up q 1 (up q 0 leaf p.a) p.b) p.c))) from by rw [up_1 (q := q) (h := 2) (by omega)]; first | done | rfl] at hv38; subst hv38
            refine m_st 0 1 ?_
            refine m_thaw 1 ?_
            refine m_i 22 .i64 pl (q : Int) hq0 ?_
            refine m_call 1 [] (bit_j q 3 (hq16) (by first | with_reducible assumption | omega | decide)) .nil ?_
            rintro _ _ ⟨rfl, rfl⟩
            refine m_if 3 (((q / 2 ^ 3 % 2 : Nat) : Int) = (0 : Int)) (fun c39 => ?_) (fun c39 => ?_)
            · -- yes
              refine m_plan 0 [3, 4, 5] (.q 0 false (.q 1 false (.q 2 true (.q 3 false (.q 4 false (.q 5 true (.e 6 (.e 7 .n)))))))) [1, 0] ?_
              refine m_ld 2 2 ?_
              refine m_ld 2 3 ?_
              refine m_thaw 0 ?_
              refine m_call 0 [] (rjoin_j 4 (up q 2 (up q 1 (up q 0 leaf p.a) p.b) p.c) p.d (by first | with_reducible assumption | omega | decide) (up_ok _ _ _ _) hp.d) (.cons 1 (.refl) .nil) ?_
              rintro _ _ ⟨hv40, rfl⟩
              rw [show ((.agg (hv (joinL 4 (up q 2 (up q 1 (up q 0 leaf p.a) p.b) p.c) p.d))) : Value) = (.agg (hv (up q 3 (up q 2 (up q 1 (up q 0 leaf p.a) p.b) p.c) p.d))) from by rw [up_0 (q := q) (h := 3) (by omega)]; first | done | rfl] at hv40; subst hv40
              refine m_st 0 0 ?_
              refine m_thaw 1 ?_
              refine m_ld 23 2 ?_
              refine m_st 0 2 ?_
              exact m_retC 4 [4, 0] (.tuple #[(.agg (hv (up q 3 (up q 2 (up q 1 (up q 0 leaf p.a) p.b) p.c) p.d))), (.int .i64 0)]) [] ⟨(by rw [leadL_yes hq0 hq16, pathE_yes (by rw [hq0]; exact placeOk_nat hq16)]; first | done | kernel_rfl), by kernel_rfl⟩
            · -- no
              refine m_plan 0 [5] (.q 0 false (.q 1 false (.q 2 false (.q 3 false (.q 4 true (.q 5 true (.e 6 (.e 7 .n)))))))) [0, 0] ?_
              refine m_ld 4 2 ?_
              refine m_ld 0 3 ?_
              refine m_thaw 0 ?_
              refine m_call 0 [] (rjoin_j 4 p.d (up q 2 (up q 1 (up q 0 leaf p.a) p.b) p.c) (by first | with_reducible assumption | omega | decide) hp.d (up_ok _ _ _ _)) (.cons 1 (.refl) .nil) ?_
              rintro _ _ ⟨hv41, rfl⟩
              rw [show ((.agg (hv (joinL 4 p.d (up q 2 (up q 1 (up q 0 leaf p.a) p.b) p.c)))) : Value) = (.agg (hv (up q 3 (up q 2 (up q 1 (up q 0 leaf p.a) p.b) p.c) p.d))) from by rw [up_1 (q := q) (h := 3) (by omega)]; first | done | rfl] at hv41; subst hv41
              refine m_st 0 1 ?_
              refine m_thaw 1 ?_
              refine m_ld 23 3 ?_
              refine m_st 0 2 ?_
              exact m_retC 4 [4, 0] (.tuple #[(.agg (hv (up q 3 (up q 2 (up q 1 (up q 0 leaf p.a) p.b) p.c) p.d))), (.int .i64 0)]) [] ⟨(by rw [leadL_yes hq0 hq16, pathE_yes (by rw [hq0]; exact placeOk_nat hq16)]; first | done | kernel_rfl), by kernel_rfl⟩
        · -- no
          refine m_plan 0 [5] (.q 0 false (.q 1 false (.q 2 false (.q 3 false (.q 4 true (.q 5 true (.e 6 (.e 7 .n)))))))) [0, 0] ?_
          refine m_ld 4 2 ?_
          refine m_ld 0 3 ?_
          refine m_thaw 0 ?_
          refine m_call 0 [] (rjoin_j 2 p.b (up q 0 leaf p.a) (by first | with_reducible assumption | omega | decide) hp.b (up_ok _ _ _ _)) (.cons 1 (.refl) .nil) ?_
          rintro _ _ ⟨hv42, rfl⟩
          rw [show ((.agg (hv (joinL 2 p.b (up q 0 leaf p.a)))) : Value) = (.agg (hv (up q 1 (up q 0 leaf p.a) p.b))) from by rw [up_1 (q := q) (h := 1) (by omega)]; first | done | rfl] at hv42; subst hv42
          refine m_st 0 1 ?_
          refine m_thaw 1 ?_
          refine m_i 22 .i64 pl (q : Int) hq0 ?_
          refine m_call 1 [] (bit_j q 2 (hq16) (by first | with_reducible assumption | omega | decide)) .nil ?_
          rintro _ _ ⟨rfl, rfl⟩
          refine m_if 3 (((q / 2 ^ 2 % 2 : Nat) : Int) = (0 : Int)) (fun c43 => ?_) (fun c43 => ?_)
          · -- yes
            refine m_plan 0 [3, 4, 5] (.q 0 false (.q 1 false (.q 2 true (.q 3 false (.q 4 false (.q 5 true (.e 6 (.e 7 .n)))))))) [1, 0] ?_
            refine m_ld 2 2 ?_
            refine m_ld 2 3 ?_
            refine m_thaw 0 ?_
            refine m_call 0 [] (rjoin_j 3 (up q 1 (up q 0 leaf p.a) p.b) p.c (by first | with_reducible assumption | omega | decide) (up_ok _ _ _ _) hp.c) (.cons 1 (.refl) .nil) ?_
            rintro _ _ ⟨hv44, rfl⟩
            rw [show ((.agg (hv (joinL 3 (up q 1 (up q 0 leaf p.a) p.b) p.c))) : Value) = (.agg (hv (up q 2 (up q 1 (up q 0 leaf p.a) p.b) p.c))) from by rw [up_0 (q := q) (h := 2) (by omega)]; first | done | rfl] at hv44; subst hv44
            refine m_st 0 0 ?_
            refine m_thaw 1 ?_
            refine m_i 22 .i64 pl (q : Int) hq0 ?_
            refine m_call 1 [] (bit_j q 3 (hq16) (by first | with_reducible assumption | omega | decide)) .nil ?_
            rintro _ _ ⟨rfl, rfl⟩
            refine m_if 3 (((q / 2 ^ 3 % 2 : Nat) : Int) = (0 : Int)) (fun c45 => ?_) (fun c45 => ?_)
            · -- yes
              refine m_plan 0 [3, 4, 5] (.q 0 false (.q 1 false (.q 2 true (.q 3 false (.q 4 false (.q 5 true (.e 6 (.e 7 .n)))))))) [0, 0] ?_
              refine m_ld 2 2 ?_
              refine m_ld 2 3 ?_
              refine m_thaw 0 ?_
              refine m_call 0 [] (rjoin_j 4 (up q 2 (up q 1 (up q 0 leaf p.a) p.b) p.c) p.d (by first | with_reducible assumption | omega | decide) (up_ok _ _ _ _) hp.d) (.cons 1 (.refl) .nil) ?_
              rintro _ _ ⟨hv46, rfl⟩
              rw [show ((.agg (hv (joinL 4 (up q 2 (up q 1 (up q 0 leaf p.a) p.b) p.c) p.d))) : Value) = (.agg (hv (up q 3 (up q 2 (up q 1 (up q 0 leaf p.a) p.b) p.c) p.d))) from by rw [up_0 (q := q) (h := 3) (by omega)]; first | done | rfl] at hv46; subst hv46
              refine m_st 0 0 ?_
              refine m_thaw 1 ?_
              refine m_ld 23 2 ?_
              refine m_st 0 2 ?_
              exact m_retC 4 [4, 0] (.tuple #[(.agg (hv (up q 3 (up q 2 (up q 1 (up q 0 leaf p.a) p.b) p.c) p.d))), (.int .i64 0)]) [] ⟨(by rw [leadL_yes hq0 hq16, pathE_yes (by rw [hq0]; exact placeOk_nat hq16)]; first | done | kernel_rfl), by kernel_rfl⟩
            · -- no
              refine m_plan 0 [5] (.q 0 false (.q 1 false (.q 2 false (.q 3 false (.q 4 true (.q 5 true (.e 6 (.e 7 .n)))))))) [1, 0] ?_
              refine m_ld 4 2 ?_
              refine m_ld 0 3 ?_
              refine m_thaw 0 ?_
              refine m_call 0 [] (rjoin_j 4 p.d (up q 2 (up q 1 (up q 0 leaf p.a) p.b) p.c) (by first | with_reducible assumption | omega | decide) hp.d (up_ok _ _ _ _)) (.cons 1 (.refl) .nil) ?_
              rintro _ _ ⟨hv47, rfl⟩
              rw [show ((.agg (hv (joinL 4 p.d (up q 2 (up q 1 (up q 0 leaf p.a) p.b) p.c)))) : Value) = (.agg (hv (up q 3 (up q 2 (up q 1 (up q 0 leaf p.a) p.b) p.c) p.d))) from by rw [up_1 (q := q) (h := 3) (by omega)]; first | done | rfl] at hv47; subst hv47
              refine m_st 0 1 ?_
              refine m_thaw 1 ?_
              refine m_ld 23 3 ?_
              refine m_st 0 2 ?_
              exact m_retC 4 [4, 0] (.tuple #[(.agg (hv (up q 3 (up q 2 (up q 1 (up q 0 leaf p.a) p.b) p.c) p.d))), (.int .i64 0)]) [] ⟨(by rw [leadL_yes hq0 hq16, pathE_yes (by rw [hq0]; exact placeOk_nat hq16)]; first | done | kernel_rfl), by kernel_rfl⟩
          · -- no
            refine m_plan 0 [5] (.q 0 false (.q 1 false (.q 2 false (.q 3 false (.q 4 true (.q 5 true (.e 6 (.e 7 .n)))))))) [0, 0] ?_
            refine m_ld 4 2 ?_
            refine m_ld 0 3 ?_
            refine m_thaw 0 ?_
            refine m_call 0 [] (rjoin_j 3 p.c (up q 1 (up q 0 leaf p.a) p.b) (by first | with_reducible assumption | omega | decide) hp.c (up_ok _ _ _ _)) (.cons 1 (.refl) .nil) ?_
            rintro _ _ ⟨hv48, rfl⟩
            rw [show ((.agg (hv (joinL 3 p.c (up q 1 (up q 0 leaf p.a) p.b)))) : Value) = (.agg (hv (up q 2 (up q 1 (up q 0 leaf p.a) p.b) p.c))) from by rw [up_1 (q := q) (h := 2) (by omega)]; first | done | rfl] at hv48; subst hv48
            refine m_st 0 1 ?_
            refine m_thaw 1 ?_
            refine m_i 22 .i64 pl (q : Int) hq0 ?_
            refine m_call 1 [] (bit_j q 3 (hq16) (by first | with_reducible assumption | omega | decide)) .nil ?_
            rintro _ _ ⟨rfl, rfl⟩
            refine m_if 3 (((q / 2 ^ 3 % 2 : Nat) : Int) = (0 : Int)) (fun c49 => ?_) (fun c49 => ?_)
            · -- yes
              refine m_plan 0 [3, 4, 5] (.q 0 false (.q 1 false (.q 2 true (.q 3 false (.q 4 false (.q 5 true (.e 6 (.e 7 .n)))))))) [1, 0] ?_
              refine m_ld 2 2 ?_
              refine m_ld 2 3 ?_
              refine m_thaw 0 ?_
              refine m_call 0 [] (rjoin_j 4 (up q 2 (up q 1 (up q 0 leaf p.a) p.b) p.c) p.d (by first | with_reducible assumption | omega | decide) (up_ok _ _ _ _) hp.d) (.cons 1 (.refl) .nil) ?_
              rintro _ _ ⟨hv50, rfl⟩
              rw [show ((.agg (hv (joinL 4 (up q 2 (up q 1 (up q 0 leaf p.a) p.b) p.c) p.d))) : Value) = (.agg (hv (up q 3 (up q 2 (up q 1 (up q 0 leaf p.a) p.b) p.c) p.d))) from by rw [up_0 (q := q) (h := 3) (by omega)]; first | done | rfl] at hv50; subst hv50
              refine m_st 0 0 ?_
              refine m_thaw 1 ?_
              refine m_ld 23 2 ?_
              refine m_st 0 2 ?_
              exact m_retC 4 [4, 0] (.tuple #[(.agg (hv (up q 3 (up q 2 (up q 1 (up q 0 leaf p.a) p.b) p.c) p.d))), (.int .i64 0)]) [] ⟨(by rw [leadL_yes hq0 hq16, pathE_yes (by rw [hq0]; exact placeOk_nat hq16)]; first | done | kernel_rfl), by kernel_rfl⟩
            · -- no
              refine m_plan 0 [5] (.q 0 false (.q 1 false (.q 2 false (.q 3 false (.q 4 true (.q 5 true (.e 6 (.e 7 .n)))))))) [0, 0] ?_
              refine m_ld 4 2 ?_
              refine m_ld 0 3 ?_
              refine m_thaw 0 ?_
              refine m_call 0 [] (rjoin_j 4 p.d (up q 2 (up q 1 (up q 0 leaf p.a) p.b) p.c) (by first | with_reducible assumption | omega | decide) hp.d (up_ok _ _ _ _)) (.cons 1 (.refl) .nil) ?_
              rintro _ _ ⟨hv51, rfl⟩
              rw [show ((.agg (hv (joinL 4 p.d (up q 2 (up q 1 (up q 0 leaf p.a) p.b) p.c)))) : Value) = (.agg (hv (up q 3 (up q 2 (up q 1 (up q 0 leaf p.a) p.b) p.c) p.d))) from by rw [up_1 (q := q) (h := 3) (by omega)]; first | done | rfl] at hv51; subst hv51
              refine m_st 0 1 ?_
              refine m_thaw 1 ?_
              refine m_ld 23 3 ?_
              refine m_st 0 2 ?_
              exact m_retC 4 [4, 0] (.tuple #[(.agg (hv (up q 3 (up q 2 (up q 1 (up q 0 leaf p.a) p.b) p.c) p.d))), (.int .i64 0)]) [] ⟨(by rw [leadL_yes hq0 hq16, pathE_yes (by rw [hq0]; exact placeOk_nat hq16)]; first | done | kernel_rfl), by kernel_rfl⟩

set_option maxRecDepth 100000 in
theorem chk_j (root : List Nat) (pl : Int) (a : Acct) (p : Path4) (hr : H32 root) (ha : Acct.Ok a) (hp : Path4.Ok p) :
    Does Tryd.prog 37 #[(.agg (hv root)), (.int .i64 pl), (.agg (a.cells)), (.agg (p.cells))] [(.rd (some ⟨1, 0, none⟩) ((hw KL).toList))] [] (fun v H => v = (.int .i64 ((chkE root pl a p : Nat) : Int)) ∧ H = []) := by
  have hpe := pathE_le pl; have hae := accE_le a.s
  have hha_s := ha.s; have hha_bal := ha.bal; have hha_non := ha.non
  refine m_fn fun F => ?_
  refine m_new 2 fun b1 => ?_
  refine m_new 0 fun b2 => ?_
  refine m_new 0 fun b3 => ?_
  refine m_ld 5 3 ?_
  refine m_call 0 [] (ahash_j a ha) (.cons 1 (.refl) .nil) ?_
  rintro _ _ ⟨rfl, rfl⟩
  refine m_new 3 fun b4 => ?_
  refine m_st 0 0 ?_
  refine m_ifn 10 (((accE a.s : Nat) : Int) = (0 : Int)) (fun c5 => ?_) (fun c5 => ?_)
  · -- no
    refine m_ld 5 2 ?_
    refine m_ld 0 3 ?_
    refine m_call 0 [] (lead_j pl (accHa a) p (accHa_ok _) hp) (.cons 1 (.refl) .nil) ?_
    rintro _ _ ⟨rfl, rfl⟩
    refine m_new 3 fun b6 => ?_
    refine m_st 0 0 ?_
    refine m_sp 8 (((pathE pl : Nat) : Int) = (0 : Int)) (fun c7 => ?_) (fun c7 => ?_)
    · -- yes
      refine m_ld 0 2 ?_
      refine m_ld 0 6 ?_
      refine m_eqs 0 false (hv (leadL pl (accHa a) p)) (hv root) (leadL pl (accHa a) p = root) (hv_iff (leadL_ok _ _ _).len hr.len) (H32.wf (leadL_ok _ _ _)) (H32.wf hr) (fun c8 => ?_) (fun c8 => ?_)
      · -- the same
        exact m_ret 13 (.int .i64 ((pathE pl : Nat) : Int)) [] ⟨(by rw [chk_yes (by omega) (pathE_0 (by omega)) (by assumption), show pathE pl = 0 from by omega]; first | done | rfl), by kernel_rfl⟩
      · -- not the same
        exact m_ret 11 (.int .i64 13) [] ⟨(by rw [chk_no (by omega) (pathE_0 (by omega)) (by assumption)]; rfl), by kernel_rfl⟩
    · -- no
      exact m_ret 16 (.int .i64 ((pathE pl : Nat) : Int)) [] ⟨(by rw [chk_pl (by omega) (pathE_1 (by omega)), show pathE pl = 1 from by have := pathE_le pl; omega]), by kernel_rfl⟩
  · -- yes
    exact m_ret 8 (.int .i64 ((accE a.s : Nat) : Int)) [] ⟨(by rw [chk_acc (by omega)]), by kernel_rfl⟩

set_option maxRecDepth 100000 in
theorem rchk_j (root : List Nat) (pl : Int) (a : Acct) (p : Path4) (hr : H32 root) (ha : Acct.Ok a) (hp : Path4.Ok p) :
    Does Tryd.prog 38 #[(.agg (hv root)), (.int .i64 pl), (.agg (a.cells)), (.agg (p.cells))] [(.rd (some ⟨0, 0, none⟩) ((hw KL).toList))] [] (fun v H => v = (.int .i64 ((chkE root pl a p : Nat) : Int)) ∧ H = []) := by
  have hpe := pathE_le pl; have hae := accE_le a.s
  have hha_s := ha.s; have hha_bal := ha.bal; have hha_non := ha.non
  refine m_fn fun F => ?_
  refine m_new 2 fun b1 => ?_
  refine m_new 0 fun b2 => ?_
  refine m_new 0 fun b3 => ?_
  refine m_ld 5 3 ?_
  refine m_call 0 [] (rahash_j a ha) (.cons 1 (.refl) .nil) ?_
  rintro _ _ ⟨rfl, rfl⟩
  refine m_new 3 fun b4 => ?_
  refine m_st 0 0 ?_
  refine m_ifn 10 (((accE a.s : Nat) : Int) = (0 : Int)) (fun c5 => ?_) (fun c5 => ?_)
  · -- no
    refine m_ld 5 2 ?_
    refine m_ld 0 3 ?_
    refine m_call 0 [] (rlead_j pl (accHa a) p (accHa_ok _) hp) (.cons 1 (.refl) .nil) ?_
    rintro _ _ ⟨rfl, rfl⟩
    refine m_new 3 fun b6 => ?_
    refine m_st 0 0 ?_
    refine m_ifn 10 (((pathE pl : Nat) : Int) = (0 : Int)) (fun c7 => ?_) (fun c7 => ?_)
    · -- no
      refine m_ld 5 2 ?_
      refine m_ld 0 6 ?_
      refine m_eqs 0 false (hv (leadL pl (accHa a) p)) (hv root) (leadL pl (accHa a) p = root) (hv_iff (leadL_ok _ _ _).len hr.len) (H32.wf (leadL_ok _ _ _)) (H32.wf hr) (fun c8 => ?_) (fun c8 => ?_)
      · -- the same
        exact m_ret 11 (.int .i64 0) [] ⟨(by rw [chk_yes (by omega) (pathE_0 (by omega)) (by assumption)]; first | done | rfl), by kernel_rfl⟩
      · -- not the same
        exact m_ret 10 (.int .i64 13) [] ⟨(by rw [chk_no (by omega) (pathE_0 (by omega)) (by assumption)]; rfl), by kernel_rfl⟩
    · -- yes
      exact m_ret 8 (.int .i64 ((pathE pl : Nat) : Int)) [] ⟨(by rw [chk_pl (by omega) (pathE_1 (by omega)), show pathE pl = 1 from by have := pathE_le pl; omega]), by kernel_rfl⟩
  · -- yes
    exact m_ret 8 (.int .i64 ((accE a.s : Nat) : Int)) [] ⟨(by rw [chk_acc (by omega)]), by kernel_rfl⟩

set_option maxRecDepth 100000 in
theorem pbytes_j (p : Path4) (hp : Path4.Ok p) :
    Does Tryd.prog 35 #[(.agg (p.cells))] [] [] (fun v H => ∃ (ao' : Option Addr), ∃ (cap' : Nat), v = (.slice ao' ((pbL p).length) cap') ∧ H = [(.row 5 1 ao' ((pbL p).length) cap' (B (pbL p)))]) := by
  have h1 := hp.a.len; have h2 := hp.b.len; have h3 := hp.c.len; have h4 := hp.d.len
  refine m_fn fun F => ?_
  refine m_new 2 fun b1 => ?_
  refine m_ld 11 1 ?_
  refine m_new 19 fun b2 => ?_
  refine m_st 0 0 ?_
  refine m_nil 5 1 ?_
  refine m_appB 5 0 5 [] p.a p.a (List.nil_append _) ((SrcW.cut 1 0 32 32).news (Eq.trans (b := (hv p.a).toList) (by kernel_rfl) (hv_B hp.a.len))) hp.a.len.symm (by first | omega | ((repeat (rw [List.length_append])); omega) | ((repeat (rw [List.length_append])); (repeat (rw [putB_length])); omega) | ((repeat (rw [List.length_append])); (repeat (rw [sB_length])); omega) | ((repeat (rw [List.length_append])); (repeat (rw [List.length_cons])); omega) | ((repeat (rw [List.length_append])); (repeat (rw [putB_length])); (repeat (rw [List.length_cons])); omega) | ((repeat (rw [List.length_append])); (repeat (rw [List.length_take])); omega) | (simp only [List.length_nil]; omega)) fun ao4 cap5 => ?_
  refine m_new 23 fun b6 => ?_
  refine m_st 0 0 ?_
  refine m_appB 5 1 5 p.a p.b (p.a ++ p.b) rfl ((SrcW.cut 1 0 32 32).news (Eq.trans (b := (hv p.b).toList) (by kernel_rfl) (hv_B hp.b.len))) hp.b.len.symm (by first | omega | ((repeat (rw [List.length_append])); omega) | ((repeat (rw [List.length_append])); (repeat (rw [putB_length])); omega) | ((repeat (rw [List.length_append])); (repeat (rw [sB_length])); omega) | ((repeat (rw [List.length_append])); (repeat (rw [List.length_cons])); omega) | ((repeat (rw [List.length_append])); (repeat (rw [putB_length])); (repeat (rw [List.length_cons])); omega) | ((repeat (rw [List.length_append])); (repeat (rw [List.length_take])); omega) | (simp only [List.length_append, List.length_cons, List.length_nil, List.length_take, putB_length, sB_length]; omega)) fun ao7 cap8 => ?_
  refine m_new 23 fun b9 => ?_
  refine m_st 0 0 ?_
  refine m_appB 5 2 5 (p.a ++ p.b) p.c ((p.a ++ p.b) ++ p.c) rfl ((SrcW.cut 1 0 32 32).news (Eq.trans (b := (hv p.c).toList) (by kernel_rfl) (hv_B hp.c.len))) hp.c.len.symm (by first | omega | ((repeat (rw [List.length_append])); omega) | ((repeat (rw [List.length_append])); (repeat (rw [putB_length])); omega) | ((repeat (rw [List.length_append])); (repeat (rw [sB_length])); omega) | ((repeat (rw [List.length_append])); (repeat (rw [List.length_cons])); omega) | ((repeat (rw [List.length_append])); (repeat (rw [putB_length])); (repeat (rw [List.length_cons])); omega) | ((repeat (rw [List.length_append])); (repeat (rw [List.length_take])); omega) | (simp only [List.length_append, List.length_cons, List.length_nil, List.length_take, putB_length, sB_length]; omega)) fun ao10 cap11 => ?_
  refine m_new 23 fun b12 => ?_
  refine m_st 0 0 ?_
  refine m_appB 5 3 5 ((p.a ++ p.b) ++ p.c) p.d (((p.a ++ p.b) ++ p.c) ++ p.d) rfl ((SrcW.cut 1 0 32 32).news (Eq.trans (b := (hv p.d).toList) (by kernel_rfl) (hv_B hp.d.len))) hp.d.len.symm (by first | omega | ((repeat (rw [List.length_append])); omega) | ((repeat (rw [List.length_append])); (repeat (rw [putB_length])); omega) | ((repeat (rw [List.length_append])); (repeat (rw [sB_length])); omega) | ((repeat (rw [List.length_append])); (repeat (rw [List.length_cons])); omega) | ((repeat (rw [List.length_append])); (repeat (rw [putB_length])); (repeat (rw [List.length_cons])); omega) | ((repeat (rw [List.length_append])); (repeat (rw [List.length_take])); omega) | (simp only [List.length_append, List.length_cons, List.length_nil, List.length_take, putB_length, sB_length]; omega)) fun ao13 cap14 => ?_
  exact m_ret 28 (.slice ao13 ((((p.a ++ p.b) ++ p.c) ++ p.d).length) cap14) [3] ⟨ao13, cap14, (by kernel_rfl), by kernel_rfl⟩

set_option maxRecDepth 100000 in
theorem rpbytes_j (p : Path4) (hp : Path4.Ok p) :
    Does Tryd.prog 36 #[(.agg (p.cells))] [] [] (fun v H => ∃ (ao' : Option Addr), ∃ (cap' : Nat), v = (.slice ao' ((pbL p).length) cap') ∧ H = [(.row 5 1 ao' ((pbL p).length) cap' (B (pbL p)))]) := by
  have h1 := hp.a.len; have h2 := hp.b.len; have h3 := hp.c.len; have h4 := hp.d.len
  refine m_fn fun F => ?_
  refine m_new 2 fun b1 => ?_
  refine m_new 5 fun b2 => ?_
  refine m_view 0 _ (.made 5 1 0 0 (B [])) ?_
  refine m_appB 28 0 5 [] p.a p.a (List.nil_append _) ((SrcW.cut 1 0 32 32).news (Eq.trans (b := (hv p.a).toList) (by kernel_rfl) (hv_B hp.a.len))) hp.a.len.symm (by first | omega | ((repeat (rw [List.length_append])); omega) | ((repeat (rw [List.length_append])); (repeat (rw [putB_length])); omega) | ((repeat (rw [List.length_append])); (repeat (rw [sB_length])); omega) | ((repeat (rw [List.length_append])); (repeat (rw [List.length_cons])); omega) | ((repeat (rw [List.length_append])); (repeat (rw [putB_length])); (repeat (rw [List.length_cons])); omega) | ((repeat (rw [List.length_append])); (repeat (rw [List.length_take])); omega) | (simp only [List.length_nil]; omega)) fun ao3 cap4 => ?_
  refine m_appB 27 0 5 p.a p.b (p.a ++ p.b) rfl ((SrcW.cut 1 32 32 32).news (Eq.trans (b := (hv p.b).toList) (by kernel_rfl) (hv_B hp.b.len))) hp.b.len.symm (by first | omega | ((repeat (rw [List.length_append])); omega) | ((repeat (rw [List.length_append])); (repeat (rw [putB_length])); omega) | ((repeat (rw [List.length_append])); (repeat (rw [sB_length])); omega) | ((repeat (rw [List.length_append])); (repeat (rw [List.length_cons])); omega) | ((repeat (rw [List.length_append])); (repeat (rw [putB_length])); (repeat (rw [List.length_cons])); omega) | ((repeat (rw [List.length_append])); (repeat (rw [List.length_take])); omega) | (simp only [List.length_append, List.length_cons, List.length_nil, List.length_take, putB_length, sB_length]; omega)) fun ao5 cap6 => ?_
  refine m_appB 27 0 5 (p.a ++ p.b) p.c ((p.a ++ p.b) ++ p.c) rfl ((SrcW.cut 1 64 32 32).news (Eq.trans (b := (hv p.c).toList) (by kernel_rfl) (hv_B hp.c.len))) hp.c.len.symm (by first | omega | ((repeat (rw [List.length_append])); omega) | ((repeat (rw [List.length_append])); (repeat (rw [putB_length])); omega) | ((repeat (rw [List.length_append])); (repeat (rw [sB_length])); omega) | ((repeat (rw [List.length_append])); (repeat (rw [List.length_cons])); omega) | ((repeat (rw [List.length_append])); (repeat (rw [putB_length])); (repeat (rw [List.length_cons])); omega) | ((repeat (rw [List.length_append])); (repeat (rw [List.length_take])); omega) | (simp only [List.length_append, List.length_cons, List.length_nil, List.length_take, putB_length, sB_length]; omega)) fun ao7 cap8 => ?_
  refine m_appB 27 0 5 ((p.a ++ p.b) ++ p.c) p.d (((p.a ++ p.b) ++ p.c) ++ p.d) rfl ((SrcW.cut 1 96 32 32).news (Eq.trans (b := (hv p.d).toList) (by kernel_rfl) (hv_B hp.d.len))) hp.d.len.symm (by first | omega | ((repeat (rw [List.length_append])); omega) | ((repeat (rw [List.length_append])); (repeat (rw [putB_length])); omega) | ((repeat (rw [List.length_append])); (repeat (rw [sB_length])); omega) | ((repeat (rw [List.length_append])); (repeat (rw [List.length_cons])); omega) | ((repeat (rw [List.length_append])); (repeat (rw [putB_length])); (repeat (rw [List.length_cons])); omega) | ((repeat (rw [List.length_append])); (repeat (rw [List.length_take])); omega) | (simp only [List.length_append, List.length_cons, List.length_nil, List.length_take, putB_length, sB_length]; omega)) fun ao9 cap10 => ?_
  exact m_ret 30 (.slice ao9 ((((p.a ++ p.b) ++ p.c) ++ p.d).length) cap10) [0] ⟨ao9, cap10, (by kernel_rfl), by kernel_rfl⟩

set_option maxRecDepth 100000 in
theorem pread_j (ao : Option Addr) (cap : Nat) (l : List Nat) (_ : Byt l) (hl : l.length ≤ 1000000) (hc : l.length ≤ cap) (hcm : cap ≤ 9223372036854775807) :
    Does Tryd.prog 32 #[(.slice ao l.length cap)] [(.rd ao (B l))] [] (fun v H => v = (.tuple #[(.agg ((rdP l).cells)), (.int .i64 ((rdE l : Nat) : Int))]) ∧ H = []) := by
  have hd1 : (l.drop 32).length = l.length - 32 := List.length_drop; have hd2 : ((l.drop 32).drop 32).length = (l.drop 32).length - 32 := List.length_drop; have hd3 : (((l.drop 32).drop 32).drop 32).length = ((l.drop 32).drop 32).length - 32 := List.length_drop; have hd4 : ((((l.drop 32).drop 32).drop 32).drop 32).length = (((l.drop 32).drop 32).drop 32).length - 32 := List.length_drop
  refine m_fn fun F => ?_
  refine m_new 2 fun b1 => ?_
  refine m_new 5 fun b2 => ?_
  refine m_if 18 (((l.length : Nat) : Int) < (128 : Int)) (fun c3 => ?_) (fun c3 => ?_)
  · -- yes
    refine m_ld 2 2 ?_
    refine m_st 0 1 ?_
    exact m_retC 6 [3, 0] (.tuple #[(.agg ((⟨Z32, Z32, Z32, Z32⟩ : Path4).cells)), (.int .i64 3)]) [] ⟨(by rw [rdP_n (by rw [rdE_3 (by omega)]; decide), rdE_3 (by omega)]; first | done | kernel_rfl), by kernel_rfl⟩
  · -- no
    refine m_if 9 (((l.length : Nat) : Int) > (128 : Int)) (fun c4 => ?_) (fun c4 => ?_)
    · -- yes
      refine m_ld 2 2 ?_
      refine m_st 0 1 ?_
      exact m_retC 6 [3, 0] (.tuple #[(.agg ((⟨Z32, Z32, Z32, Z32⟩ : Path4).cells)), (.int .i64 4)]) [] ⟨(by rw [rdP_n (by rw [rdE_4 (by omega)]; decide), rdE_4 (by omega)]; first | done | kernel_rfl), by kernel_rfl⟩
    · -- no
      refine m_copy 34 0 b2 0 32 32 52 l.length cap 32 ao (B l) ((⟨Z32, Z32, Z32, Z32⟩ : Path4).cells) ((⟨l.take 32, Z32, Z32, Z32⟩ : Path4).cells) (srcRd 1 _ _) (B_length _) B_one (by rw [p4_size]; omega) (by omega) (p4_cp0 (by omega)) ?_
      refine m_slc 0 1 l.length cap 32 l.length cap ((l.drop 32).length) (cap - 32) ao ⟨(by omega), (by omega), (by omega)⟩ (by omega) rfl ?_
      refine m_also 1 (.rd (cutA ao 32 cap 1) (B (l.drop 32))) (.cutX 32 (l.length - 32) cap 1 (B l) (B (l.drop 32)) (by omega) (B_dropE l 32)) ?_
      refine m_copy 32 0 b2 32 32 32 52 ((l.drop 32).length) (cap - 32) 32 (cutA ao 32 cap 1) (B (l.drop 32)) ((⟨l.take 32, Z32, Z32, Z32⟩ : Path4).cells) ((⟨l.take 32, (l.drop 32).take 32, Z32, Z32⟩ : Path4).cells) (srcRd 2 _ _) (B_length _) B_one (by rw [p4_size]; omega) (by omega) (p4_cp1 (by omega)) ?_
      refine m_slc 0 1 ((l.drop 32).length) (cap - 32) 32 ((l.drop 32).length) (cap - 32) (((l.drop 32).drop 32).length) ((cap - 32) - 32) (cutA ao 32 cap 1) ⟨(by omega), (by omega), (by omega)⟩ (by omega) rfl ?_
      refine m_also 2 (.rd (cutA (cutA ao 32 cap 1) 32 (cap - 32) 1) (B ((l.drop 32).drop 32))) (.cutX 32 (((l.drop 32).length) - 32) (cap - 32) 1 (B (l.drop 32)) (B ((l.drop 32).drop 32)) (by omega) (B_dropE (l.drop 32) 32)) ?_
      refine m_copy 32 0 b2 64 32 32 52 (((l.drop 32).drop 32).length) ((cap - 32) - 32) 32 (cutA (cutA ao 32 cap 1) 32 (cap - 32) 1) (B ((l.drop 32).drop 32)) ((⟨l.take 32, (l.drop 32).take 32, Z32, Z32⟩ : Path4).cells) ((⟨l.take 32, (l.drop 32).take 32, ((l.drop 32).drop 32).take 32, Z32⟩ : Path4).cells) (srcRd 3 _ _) (B_length _) B_one (by rw [p4_size]; omega) (by omega) (p4_cp2 (by omega)) ?_
      refine m_slc 0 1 (((l.drop 32).drop 32).length) ((cap - 32) - 32) 32 (((l.drop 32).drop 32).length) ((cap - 32) - 32) ((((l.drop 32).drop 32).drop 32).length) (((cap - 32) - 32) - 32) (cutA (cutA ao 32 cap 1) 32 (cap - 32) 1) ⟨(by omega), (by omega), (by omega)⟩ (by omega) rfl ?_
      refine m_also 3 (.rd (cutA (cutA (cutA ao 32 cap 1) 32 (cap - 32) 1) 32 ((cap - 32) - 32) 1) (B (((l.drop 32).drop 32).drop 32))) (.cutX 32 ((((l.drop 32).drop 32).length) - 32) ((cap - 32) - 32) 1 (B ((l.drop 32).drop 32)) (B (((l.drop 32).drop 32).drop 32)) (by omega) (B_dropE ((l.drop 32).drop 32) 32)) ?_
      refine m_copy 32 0 b2 96 32 32 52 ((((l.drop 32).drop 32).drop 32).length) (((cap - 32) - 32) - 32) 32 (cutA (cutA (cutA ao 32 cap 1) 32 (cap - 32) 1) 32 ((cap - 32) - 32) 1) (B (((l.drop 32).drop 32).drop 32)) ((⟨l.take 32, (l.drop 32).take 32, ((l.drop 32).drop 32).take 32, Z32⟩ : Path4).cells) ((⟨l.take 32, (l.drop 32).take 32, ((l.drop 32).drop 32).take 32, (((l.drop 32).drop 32).drop 32).take 32⟩ : Path4).cells) (srcRd 4 _ _) (B_length _) B_one (by rw [p4_size]; omega) (by omega) (p4_cp3 (by omega)) ?_
      refine m_slc 0 1 ((((l.drop 32).drop 32).drop 32).length) (((cap - 32) - 32) - 32) 32 ((((l.drop 32).drop 32).drop 32).length) (((cap - 32) - 32) - 32) (((((l.drop 32).drop 32).drop 32).drop 32).length) ((((cap - 32) - 32) - 32) - 32) (cutA (cutA (cutA ao 32 cap 1) 32 (cap - 32) 1) 32 ((cap - 32) - 32) 1) ⟨(by omega), (by omega), (by omega)⟩ (by omega) rfl ?_
      refine m_also 4 (.rd (cutA (cutA (cutA (cutA ao 32 cap 1) 32 (cap - 32) 1) 32 ((cap - 32) - 32) 1) 32 (((cap - 32) - 32) - 32) 1) (B ((((l.drop 32).drop 32).drop 32).drop 32))) (.cutX 32 (((((l.drop 32).drop 32).drop 32).length) - 32) (((cap - 32) - 32) - 32) 1 (B (((l.drop 32).drop 32).drop 32)) (B ((((l.drop 32).drop 32).drop 32).drop 32)) (by omega) (B_dropE (((l.drop 32).drop 32).drop 32) 32)) ?_
      refine m_ld 23 6 ?_
      refine m_st 0 1 ?_
      refine m_unro _ ?_
      refine m_unro _ ?_
      refine m_unro _ ?_
      refine m_unro _ ?_
      exact m_retC 4 [3, 0] (.tuple #[(.agg ((⟨l.take 32, (l.drop 32).take 32, ((l.drop 32).drop 32).take 32, (((l.drop 32).drop 32).drop 32).take 32⟩ : Path4).cells)), (.int .i64 0)]) [] ⟨(by rw [rdP_0 (rdE_0 (by omega) (by omega)), rdE_0 (by omega) (by omega)]; first | done | kernel_rfl), by kernel_rfl⟩

set_option maxRecDepth 100000 in
theorem rpread_j (ao : Option Addr) (cap : Nat) (l : List Nat) (hB : Byt l) (hl : l.length ≤ 1000000) (_ : l.length ≤ cap) (_ : cap ≤ 9223372036854775807) :
    Does Tryd.prog 33 #[(.slice ao l.length cap)] [(.rd ao (B l))] [] (fun v H => v = (.tuple #[(.agg ((rdP l).cells)), (.int .i64 ((rdE l : Nat) : Int))]) ∧ H = []) := by
  refine m_fn fun F => ?_
  refine m_new 2 fun b1 => ?_
  refine m_new 6 fun b2 => ?_
  refine m_st 0 0 ?_
  refine m_if 10 (((l.length : Nat) : Int) < (128 : Int)) (fun c3 => ?_) (fun c3 => ?_)
  · -- yes
    refine m_ld 2 2 ?_
    refine m_st 0 1 ?_
    exact m_retC 5 [3, 0] (.tuple #[(.agg ((⟨Z32, Z32, Z32, Z32⟩ : Path4).cells)), (.int .i64 3)]) [] ⟨(by rw [rdP_n (by rw [rdE_3 (by omega)]; decide), rdE_3 (by omega)]; first | done | kernel_rfl), by kernel_rfl⟩
  · -- no
    refine m_if 10 (((l.length : Nat) : Int) > (128 : Int)) (fun c4 => ?_) (fun c4 => ?_)
    · -- yes
      refine m_ld 2 2 ?_
      refine m_st 0 1 ?_
      exact m_retC 5 [3, 0] (.tuple #[(.agg ((⟨Z32, Z32, Z32, Z32⟩ : Path4).cells)), (.int .i64 4)]) [] ⟨(by rw [rdP_n (by rw [rdE_4 (by omega)]; decide), rdE_4 (by omega)]; first | done | kernel_rfl), by kernel_rfl⟩
    · -- no
      refine m_cells 0 b2 51 ((aj (aj (aj (hv Z32) (hv Z32)) (hv Z32)) (hv Z32))) (rpC l 0) (rp_0 l).symm ?_
      refine m_loop (X := Nat) 9 [0, 2, 4] (fun (x : Nat) => [(5, (.int .i64 ((x : Nat) : Int)))]) [0] (fun (x : Nat) => [(.blk b2 (rpC l x) 51)]) (fun (x : Nat) => (x ≤ 128)) (fun (x : Nat) => 128 - x) 0 (by omega) (fun x u5 hx => ?_)
      obtain ⟨i, rfl⟩ : ∃ y, y = x := ⟨x, rfl⟩
      have hi := hx
      refine m_if 7 (((i : Nat) : Int) < (128 : Int)) (fun c6 => ?_) (fun c6 => ?_)
      · -- yes
        refine m_plan 4 [8] (.q 0 false (.q 1 false (.q 2 false (.q 3 false (.q 4 false (.q 5 false (.q 6 false (.q 7 true (.q 8 false (.q 9 false (.e 10 .n))))))))))) [] ?_
        refine m_i 1 .i64 (IntKind.i64.wrap (((i : Nat) : Int).tdiv ((32 : Nat) : Int))) ((i / 32 : Nat) : Int) (quo_i64 (by omega)) ?_
        refine m_rem 1 .i64 (i) 32 ?_
        refine m_ix 2 1 1 l.length i (B l) .i64 (by omega) (by rw [B_length, Nat.mul_one]; omega) ?_
        refine m_lx 0 1 (i * 1) (B l) (.int .u8 ((l.getD i 0 : Nat) : Int)) (by rw [Nat.mul_one]; exact B_getD _ _ (by omega)) ?_
        refine m_ixA 0 b2 0 32 4 (i / 32) .i64 (by omega) ?_
        refine m_ixA 0 b2 (0 + (i / 32) * 32) 1 32 (i % 32) .i64 (by omega) ?_
        refine m_stA 0 0 b2 ((0 + (i / 32) * 32) + (i % 32) * 1) 51 (rpC l i) (rpC l (i + 1)) (.int .u8 ((l.getD i 0 : Nat) : Int)) (by rw [rp_size (by omega) (by omega)]; omega) (rp_put (by omega) (by omega) (by omega)) ⟨rfl, rfl⟩ ?_
        refine m_thaw 1 ?_
        refine m_i64 4 (((i : Nat) : Int) + (1 : Int)) (i + 1) (by omega) ?_
        exact m_back 2 (i + 1) [0, 0] ⟨(by omega), (by omega)⟩
      · -- no
        refine m_cells 0 b2 51 (rpC l i) (rdP l).cells (by rw [show i = 128 from by omega]; exact rp_end hB (rdE_0 (by omega) (by omega))) ?_
        refine m_ld 7 2 ?_
        refine m_st 0 1 ?_
        exact m_retC 4 [3, 0] (.tuple #[(.agg ((rdP l).cells)), (.int .i64 0)]) [] ⟨(by rw [rdE_0 (by omega) (by omega)]; first | done | rfl), by kernel_rfl⟩

set_option maxRecDepth 100000 in
theorem croot_j (pl : Int) (a : Acct) (p : Path4) (ha : Acct.Ok a) (hp : Path4.Ok p) :
    Does Tryd.prog 56 #[(.agg ((aj (a.cells) (p.cells)))), (.int .i64 pl)] [(.rd (some ⟨1, 0, none⟩) ((hw KL).toList))] [] (fun v H => v = (.tuple #[(.agg (hv (rootL a pl p))), (.int .i64 ((rootE a pl : Nat) : Int))]) ∧ H = []) := by
  have hpe := pathE_le pl; have hae := accE_le a.s
  have hha_s := ha.s; have hha_bal := ha.bal; have hha_non := ha.non
  refine m_fn fun F => ?_
  refine m_new 2 fun b1 => ?_
  refine m_new 0 fun b2 => ?_
  refine m_ld 6 3 ?_
  refine m_call 0 [] (ahash_j a ha) (.cons 1 (.refl) .nil) ?_
  rintro _ _ ⟨rfl, rfl⟩
  refine m_new 3 fun b3 => ?_
  refine m_st 0 0 ?_
  refine m_ifn 10 (((accE a.s : Nat) : Int) = (0 : Int)) (fun c4 => ?_) (fun c4 => ?_)
  · -- no
    refine m_ld 5 2 ?_
    refine m_ld 1 4 ?_
    refine m_call 0 [] (lead_j pl (accHa a) p (accHa_ok _) hp) (.cons 1 (.refl) .nil) ?_
    rintro _ _ ⟨rfl, rfl⟩
    refine m_st 2 1 ?_
    exact m_retC 4 [3, 0] (.tuple #[(.agg (hv (leadL pl (accHa a) p))), (.int .i64 ((pathE pl : Nat) : Int))]) [] ⟨(by rw [(root_0 (p := p) (pl := pl) (by omega)).1, (root_0 (a := a) (p := p) (pl := pl) (by omega)).2]; first | done | rfl), by kernel_rfl⟩
  · -- yes
    refine m_st 4 1 ?_
    exact m_retC 5 [3, 0] (.tuple #[(.agg (hv Z32)), (.int .i64 ((accE a.s : Nat) : Int))]) [] ⟨(by rw [(root_n (p := p) (pl := pl) (by omega)).1, (root_n (a := a) (p := p) (pl := pl) (by omega)).2]; first | done | rfl), by kernel_rfl⟩

set_option maxRecDepth 100000 in
theorem clash1_j (pl : Int) (a : Acct) (p : Path4) (r : Path4) (ha : Acct.Ok a) (hp : Path4.Ok p) (hr : Path4.Ok r) :
    Does Tryd.prog 40 #[(.int .i64 pl), (.agg ((aj (a.cells) (p.cells)))), (.agg ((aj (a.cells) (r.cells))))] [(.rd (some ⟨1, 0, none⟩) ((hw KL).toList))] [] (fun v H => v = (.tuple #[(.slice none 0 0), (.slice none 0 0), (.bool false)]) ∧ H = []) := by
  have hre := rootE_le a pl
  have hha_s := ha.s; have hha_bal := ha.bal; have hha_non := ha.non
  refine m_fn fun F => ?_
  refine m_new 2 fun b1 => ?_
  refine m_new 0 fun b2 => ?_
  refine m_ld 7 3 ?_
  refine m_call 1 [] (croot_j pl a p ha hp) (.cons 1 (.refl) .nil) ?_
  rintro _ _ ⟨rfl, rfl⟩
  refine m_new 3 fun b3 => ?_
  refine m_st 0 0 ?_
  refine m_ld 5 3 ?_
  refine m_call 1 [] (croot_j pl a r ha hr) (.cons 1 (.refl) .nil) ?_
  rintro _ _ ⟨rfl, rfl⟩
  refine m_new 3 fun b4 => ?_
  refine m_st 0 0 ?_
  refine m_spn 8 (((rootE a pl : Nat) : Int) = (0 : Int)) (fun c5 => ?_) (fun c5 => ?_)
  · -- no
    refine m_spn 3 (((rootE a pl : Nat) : Int) = (0 : Int)) (fun c6 => ?_) (fun c6 => absurd (c5) c6)
    refine m_ld 0 3 ?_
    refine m_ld 0 2 ?_
    refine m_eqs 0 false (hv (rootL a pl p)) (hv (rootL a pl r)) (rootL a pl p = rootL a pl r) (hv_iff (rootL_ok _ _ _).len (rootL_ok _ _ _).len) (H32.wf (rootL_ok _ _ _)) (H32.wf (rootL_ok _ _ _)) (fun c7 => ?_) (fun c7 => ?_)
    · -- the same
      refine m_ld 3 5 ?_
      refine m_ld 1 4 ?_
      refine m_eqT 0 true (a.cells) (Acct.wf ha) ?_
      exact m_ret 13 (.tuple #[(.slice none 0 0), (.slice none 0 0), (.bool false)]) [] ⟨(rfl), by kernel_rfl⟩
    · -- not the same
      exact m_ret 20 (.tuple #[(.slice none 0 0), (.slice none 0 0), (.bool false)]) [] ⟨(rfl), by kernel_rfl⟩
  · -- yes
    exact m_ret 27 (.tuple #[(.slice none 0 0), (.slice none 0 0), (.bool false)]) [] ⟨(rfl), by kernel_rfl⟩

end Go.Proofs.YtokdfjelilhekaaDoor
