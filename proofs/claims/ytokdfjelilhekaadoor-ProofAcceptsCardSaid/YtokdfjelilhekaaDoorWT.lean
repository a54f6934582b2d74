/- The walks of the digest's reference. -/
import Derived.Test.YtokdfjelilhekaaDoorWS
namespace Go.Proofs.YtokdfjelilhekaaDoor
open Go Go.RowKit Go.Alm
noncomputable def rturn_c_R0 : Array Oper := rAt Tryd.prog 85 [0]
noncomputable def rturn_c_R1 : Array Oper := rAt Tryd.prog 85 [1, 0]
noncomputable def rturn_c_R2 : Array Oper := rAt Tryd.prog 85 [1, 1, 0, 0]
noncomputable def rturn_c_R3 : Array Oper := rAt Tryd.prog 85 [1, 1, 0, 1, 0, 0, 0, 0]
noncomputable def rturn_c_R5 : Array Oper := rAt Tryd.prog 85 [1, 1, 0, 1, 0, 0, 1, 0, 0, 0]
noncomputable def rturn_c_R6 : Array Oper := rAt Tryd.prog 85 [1, 1, 0, 1, 0, 0, 1, 0, 0, 1]
noncomputable def rturn_c_R4 : Array Oper := rAt Tryd.prog 85 [1, 1, 0, 1, 0, 0, 1, 1]
noncomputable def rturn_c_R7 : Array Oper := rAt Tryd.prog 85 [1, 1, 1, 0]
set_option maxRecDepth 100000 in
theorem rturn_c (x : W32) (k : Nat) (w : World) (hk : k < 32) :
    Calls Tryd.prog 85 #[(.int .u32 (x.toNat : Int)), (.int .i64 (k : Int))] w fun e w' => e = .returned (.int .u32 ((turn x k).toNat : Int)) ∧ Fr w w' N0 := by
  refine c_enter (mk 25 [(0, (.int .u32 (x.toNat : Int))), (1, (.int .i64 (k : Int)))] (fun _ => undef)) Tryd.func85 (by kernel_rfl) (by kernel_rfl) ?_
  refine c_seq [0] [1] (by kernel_rfl) ?_
  refine c_reg 0 rturn_c_R0 (by kernel_rfl) ?_
  refine at_pures 1 (by kernel_rfl) (by kernel_rfl) ?_
  refine at_done (by kernel_rfl) ?_
  refine then_n ?_
  refine c_seq [1, 0] [1, 1] (by kernel_rfl) ?_
  refine c_reg 1 rturn_c_R1 (by kernel_rfl) ?_
  refine at_pures 1 (by kernel_rfl) (by kernel_rfl) ?_
  refine at_int (kd := .i64) ((k : Int).tmod (32 : Int)) (((k % 32 : Nat) : Int)) (by kernel_rfl) (by kernel_rfl) (rem_nat _ _) ?_
  refine at_int (kd := .i64) (IntKind.i64.wrap (((k % 32 : Nat) : Int) + (32 : Int))) (((k % 32 : Nat) : Int) + (32 : Int)) (by kernel_rfl) (by kernel_rfl) (wrapN_i64 (by omega) (by omega)) ?_
  refine at_int (kd := .i64) ((((k % 32 : Nat) : Int) + (32 : Int)).tmod (32 : Int)) ((k : Int)) (by kernel_rfl) (by kernel_rfl) (Eq.trans (rem_nat2 (n := k % 32 + 32) (m := 32) (by omega)) (by omega)) ?_
  refine at_pures 5 (by kernel_rfl) (by kernel_rfl) ?_
  refine at_done (by kernel_rfl) ?_
  refine then_n ?_
  refine c_seq [1, 1, 0] [1, 1, 1] (by kernel_rfl) ?_
  refine c_seq [1, 1, 0, 0] [1, 1, 0, 1] (by kernel_rfl) ?_
  refine c_reg 2 rturn_c_R2 (by kernel_rfl) ?_
  refine at_pures 1 (by kernel_rfl) (by kernel_rfl) ?_
  refine at_done (by kernel_rfl) ?_
  refine then_n ?_
  refine c_block 0 [1, 1, 0, 1, 0] (by kernel_rfl) ?_
  refine c_loop (fun a w' => ∃ (i : Nat), ∃ (y : W32), (∃ u, a = mk 25 [(0, (.int .u32 (y.toNat : Int))), (1, (.int .i64 (k : Int))), (4, (.int .u32 0)), (5, (.int .i64 (k : Int))), (6, (.int .i64 (i : Int))), (8, (.int .i64 (k : Int))), (9, (.int .i64 ((k % 32 : Nat) : Int))), (10, (.int .i64 (((k % 32 : Nat) : Int) + (32 : Int)))), (11, (.int .i64 (k : Int)))] u) ∧ (i ≤ k) ∧ (y = rotN x i) ∧ (Fr w w' N0)) (fun a _ => cnt (k) 6 a) [1, 1, 0, 1, 0, 0] (by kernel_rfl) ⟨0, x, is_mk (by kernel_rfl) (by kernel_rfl) (by kernel_rfl), ⟨Nat.zero_le _, rfl, (Fr.refl w N0)⟩⟩ ?_
  rintro a2_ w3_ ⟨i, y, ⟨u4_, rfl⟩, ⟨hi, hy, hFrL1_⟩⟩
  have hy32 := y.isLt
  refine c_seq [1, 1, 0, 1, 0, 0, 0] [1, 1, 0, 1, 0, 0, 1] (by kernel_rfl) ?_
  refine c_seq [1, 1, 0, 1, 0, 0, 0, 0] [1, 1, 0, 1, 0, 0, 0, 1] (by kernel_rfl) ?_
  refine c_reg 3 rturn_c_R3 (by kernel_rfl) ?_
  refine at_pures 3 (by kernel_rfl) (by kernel_rfl) ?_
  refine at_done (by kernel_rfl) ?_
  refine then_n ?_
  refine c_if (.tmp 14) (decide ((i : Int) < (k : Int))) [1, 1, 0, 1, 0, 0, 0, 1, 0] [1, 1, 0, 1, 0, 0, 0, 1, 1] (by kernel_rfl) (by kernel_rfl) (fun c5_ => ?_) (fun c5_ => ?_)
  · -- yes
    replace c5_ : (i : Int) < (k : Int) := of_decide_eq_true c5_
    refine c_skip (by kernel_rfl) ?_
    refine then_n ?_
    refine c_seq [1, 1, 0, 1, 0, 0, 1, 0] [1, 1, 0, 1, 0, 0, 1, 1] (by kernel_rfl) ?_
    refine c_block 1 [1, 1, 0, 1, 0, 0, 1, 0, 0] (by kernel_rfl) ?_
    refine c_seq [1, 1, 0, 1, 0, 0, 1, 0, 0, 0] [1, 1, 0, 1, 0, 0, 1, 0, 0, 1] (by kernel_rfl) ?_
    refine c_reg 5 rturn_c_R5 (by kernel_rfl) ?_
    refine at_pures 1 (by kernel_rfl) (by kernel_rfl) ?_
    refine at_int (kd := .u32) ((y.toNat : Int).tmod (2 : Int)) (((y.toNat % 2 : Nat) : Int)) (by kernel_rfl) (by kernel_rfl) (rem_nat _ _) ?_
    refine at_pures 3 (by kernel_rfl) (by kernel_rfl) ?_
    refine at_done (by kernel_rfl) ?_
    refine then_n ?_
    refine c_reg 6 rturn_c_R6 (by kernel_rfl) ?_
    refine at_pures 1 (by kernel_rfl) (by kernel_rfl) ?_
    refine at_int (kd := .u32) (IntKind.u32.wrap ((y.toNat : Int).tdiv (2 : Int))) (((y.toNat / 2 : Nat) : Int)) (by kernel_rfl) (by kernel_rfl) (quo_u32 (by omega)) ?_
    refine at_pures 3 (by kernel_rfl) (by kernel_rfl) ?_
    refine at_int (kd := .u32) (IntKind.u32.wrap ((2147483648 : Int) * ((y.toNat % 2 : Nat) : Int))) ((2147483648 : Int) * ((y.toNat % 2 : Nat) : Int)) (by kernel_rfl) (by kernel_rfl) (wrapN_u32 (by omega) (by omega)) ?_
    refine at_int (kd := .u32) (IntKind.u32.wrap (((y.toNat / 2 : Nat) : Int) + ((2147483648 : Int) * ((y.toNat % 2 : Nat) : Int)))) (((rot1 y).toNat : Int)) (by kernel_rfl) (by kernel_rfl) (rot1_eq y) ?_
    refine at_pures 6 (by kernel_rfl) (by kernel_rfl) ?_
    refine at_done (by kernel_rfl) ?_
    refine blk_n ?_
    refine then_n ?_
    refine c_reg 4 rturn_c_R4 (by kernel_rfl) ?_
    refine at_pures 1 (by kernel_rfl) (by kernel_rfl) ?_
    refine at_int (kd := .i64) (IntKind.i64.wrap ((i : Int) + (1 : Int))) ((i : Int) + (1 : Int)) (by kernel_rfl) (by kernel_rfl) (wrapN_i64 (by omega) (by omega)) ?_
    refine at_pures 3 (by kernel_rfl) (by kernel_rfl) ?_
    refine at_done (by kernel_rfl) ?_
    refine then_n ?_
    exact ⟨⟨i + 1, (rot1 y), is_mk (by kernel_rfl) (by kernel_rfl) (by kernel_rfl), ⟨(by omega), (by rw [hy]; rfl), hFrL1_⟩⟩, cnt_lt (k := (i : Int)) (k' := ((i : Int) + (1 : Int))) (by kernel_rfl) (by kernel_rfl) (by omega) (by omega)⟩
  · -- no
    replace c5_ : ¬ ((i : Int) < (k : Int)) := of_decide_eq_false c5_
    refine c_exit 0 (by kernel_rfl) ?_
    refine then_e ?_
    refine then_e ?_
    refine blk_hit ?_
    refine then_n ?_
    refine c_seq [1, 1, 1, 0] [1, 1, 1, 1] (by kernel_rfl) ?_
    refine c_reg 7 rturn_c_R7 (by kernel_rfl) ?_
    refine at_pures 2 (by kernel_rfl) (by kernel_rfl) ?_
    refine at_done (by kernel_rfl) ?_
    refine then_n ?_
    refine c_ret (by kernel_rfl) ?_
    refine fin_ret (.int .u32 (y.toNat : Int)) (by kernel_rfl) (by kernel_rfl) ?_
    exact ⟨(by rw [hy, show i = k from by omega, rotN_eq _ hk]), hFrL1_⟩

noncomputable def xor_c_R0 : Array Oper := rAt Tryd.prog 84 [0]
noncomputable def xor_c_R1 : Array Oper := rAt Tryd.prog 84 [1, 0]
set_option maxRecDepth 100000 in
theorem xor_c (a : W32) (b : W32) (c : W32) (w : World) :
    Calls Tryd.prog 84 #[(.int .u32 (a.toNat : Int)), (.int .u32 (b.toNat : Int)), (.int .u32 (c.toNat : Int))] w fun e w' => e = .returned (.int .u32 ((a ^^^ b ^^^ c).toNat : Int)) ∧ Fr w w' N0 := by
  refine c_enter (mk 12 [(0, (.int .u32 (a.toNat : Int))), (1, (.int .u32 (b.toNat : Int))), (2, (.int .u32 (c.toNat : Int)))] (fun _ => undef)) Tryd.func84 (by kernel_rfl) (by kernel_rfl) ?_
  refine c_seq [0] [1] (by kernel_rfl) ?_
  refine c_reg 0 xor_c_R0 (by kernel_rfl) ?_
  refine at_pures 1 (by kernel_rfl) (by kernel_rfl) ?_
  refine at_done (by kernel_rfl) ?_
  refine then_n ?_
  refine c_seq [1, 0] [1, 1] (by kernel_rfl) ?_
  refine c_reg 1 xor_c_R1 (by kernel_rfl) ?_
  refine at_pures 2 (by kernel_rfl) (by kernel_rfl) ?_
  refine at_int (kd := .u32) (IntKind.u32.wrap (((BitVec.ofInt 32 (a.toNat : Int) ^^^ BitVec.ofInt 32 (b.toNat : Int)).toNat : Int))) (((a ^^^ b).toNat : Int)) (by kernel_rfl) (by kernel_rfl) (bv_xor a b) ?_
  refine at_pures 4 (by kernel_rfl) (by kernel_rfl) ?_
  refine at_int (kd := .u32) (IntKind.u32.wrap (((BitVec.ofInt 32 ((a ^^^ b).toNat : Int) ^^^ BitVec.ofInt 32 (c.toNat : Int)).toNat : Int))) ((((a ^^^ b) ^^^ c).toNat : Int)) (by kernel_rfl) (by kernel_rfl) (bv_xor (a ^^^ b) c) ?_
  refine at_pures 6 (by kernel_rfl) (by kernel_rfl) ?_
  refine at_done (by kernel_rfl) ?_
  refine then_n ?_
  refine c_ret (by kernel_rfl) ?_
  refine fin_ret (.int .u32 (((a ^^^ b) ^^^ c).toNat : Int)) (by kernel_rfl) (by kernel_rfl) ?_
  exact ⟨rfl, (Fr.refl w N0)⟩

noncomputable def rblock_c_R0 : Array Oper := rAt Tryd.prog 77 [0]
noncomputable def rblock_c_R1 : Array Oper := rAt Tryd.prog 77 [1, 0]
noncomputable def rblock_c_R2 : Array Oper := rAt Tryd.prog 77 [1, 1, 0, 0]
noncomputable def rblock_c_R3 : Array Oper := rAt Tryd.prog 77 [1, 1, 0, 1, 0, 0, 0, 0]
noncomputable def rblock_c_R5 : Array Oper := rAt Tryd.prog 77 [1, 1, 0, 1, 0, 0, 1, 0, 0]
def rblock_c_sk5 : Nat → Bool := fun i => decide (i ∈ [8, 9, 10, 11, 12, 13, 14, 15, 17, 18, 19, 20, 21, 22, 23, 24, 26, 27, 28, 29, 30, 31, 32])
def rblock_c_pl5 : List (Nat × PK) := [(0, .q false), (1, .q false), (2, .q false), (3, .q false), (4, .q false), (5, .q true), (6, .q false), (7, .q false), (8, .q false), (9, .q false), (10, .q false), (11, .q false), (12, .q false), (13, .q true), (14, .q false), (15, .q false), (16, .q false), (17, .q false), (18, .q false), (19, .q false), (20, .q false), (21, .q false), (22, .q true), (23, .q false), (24, .q false), (25, .q false), (26, .q false), (27, .q false), (28, .q false), (29, .q false), (30, .q false), (31, .q true), (32, .q false), (33, .q false), (34, .q false), (35, .e)]
noncomputable def rblock_c_R4 : Array Oper := rAt Tryd.prog 77 [1, 1, 0, 1, 0, 0, 1, 1]
noncomputable def rblock_c_R6 : Array Oper := rAt Tryd.prog 77 [1, 1, 1, 0, 0]
noncomputable def rblock_c_R7 : Array Oper := rAt Tryd.prog 77 [1, 1, 1, 0, 1, 0, 0, 0, 0]
noncomputable def rblock_c_R9 : Array Oper := rAt Tryd.prog 77 [1, 1, 1, 0, 1, 0, 0, 1, 0, 0, 0]
noncomputable def rblock_c_R10 : Array Oper := rAt Tryd.prog 77 [1, 1, 1, 0, 1, 0, 0, 1, 0, 0, 1, 0]
noncomputable def rblock_c_R11 : Array Oper := rAt Tryd.prog 77 [1, 1, 1, 0, 1, 0, 0, 1, 0, 0, 1, 1, 0]
noncomputable def rblock_c_R12 : Array Oper := rAt Tryd.prog 77 [1, 1, 1, 0, 1, 0, 0, 1, 0, 0, 1, 1, 1, 0]
noncomputable def rblock_c_R13 : Array Oper := rAt Tryd.prog 77 [1, 1, 1, 0, 1, 0, 0, 1, 0, 0, 1, 1, 1, 1]
def rblock_c_sk13 : Nat → Bool := fun i => decide (i ∈ [7, 9, 10, 11, 12])
def rblock_c_pl13 : List (Nat × PK) := [(0, .q false), (1, .q false), (2, .q false), (3, .q false), (4, .q false), (5, .q true), (6, .q false), (7, .q false), (8, .q false), (9, .q false), (10, .q false), (11, .q false), (12, .q true), (13, .q false), (14, .q false), (15, .e)]
noncomputable def rblock_c_R8 : Array Oper := rAt Tryd.prog 77 [1, 1, 1, 0, 1, 0, 0, 1, 1]
noncomputable def rblock_c_R14 : Array Oper := rAt Tryd.prog 77 [1, 1, 1, 1, 0]
def rblock_c_sk14 : Nat → Bool := fun i => decide (i ∈ [2, 3, 4, 5, 6, 7, 8, 9, 10, 11, 12, 13, 14, 15, 16, 17, 18, 19, 20, 21, 22])
def rblock_c_pl14 : List (Nat × PK) := [(0, .q false), (1, .q true), (2, .q false), (3, .q true), (4, .q false), (5, .q true), (6, .q false), (7, .q true), (8, .q false), (9, .q true), (10, .q false), (11, .q true), (12, .q false), (13, .q true), (14, .q false), (15, .q true), (16, .q false), (17, .q false), (18, .q false), (19, .q false), (20, .q false), (21, .q false), (22, .q false), (23, .q false)]
noncomputable def rblock_c_R15 : Array Oper := rAt Tryd.prog 77 [1, 1, 1, 1, 1, 0, 0]
noncomputable def rblock_c_R16 : Array Oper := rAt Tryd.prog 77 [1, 1, 1, 1, 1, 0, 1, 0, 0, 0, 0]
noncomputable def rblock_c_R18 : Array Oper := rAt Tryd.prog 77 [1, 1, 1, 1, 1, 0, 1, 0, 0, 1, 0, 0, 0]
noncomputable def rblock_c_R19 : Array Oper := rAt Tryd.prog 77 [1, 1, 1, 1, 1, 0, 1, 0, 0, 1, 0, 0, 1, 0]
noncomputable def rblock_c_R20 : Array Oper := rAt Tryd.prog 77 [1, 1, 1, 1, 1, 0, 1, 0, 0, 1, 0, 0, 1, 1, 0]
def rblock_c_sk20 : Nat → Bool := fun i => decide (i ∈ [9, 10, 11])
def rblock_c_pl20 : List (Nat × PK) := [(0, .q false), (1, .q false), (2, .q false), (3, .q false), (4, .q false), (5, .q false), (6, .q false), (7, .q true), (8, .q false), (9, .q false), (10, .q false), (11, .q true), (12, .q false), (13, .q false)]
noncomputable def rblock_c_R21 : Array Oper := rAt Tryd.prog 77 [1, 1, 1, 1, 1, 0, 1, 0, 0, 1, 0, 0, 1, 1, 1, 0]
noncomputable def rblock_c_R22 : Array Oper := rAt Tryd.prog 77 [1, 1, 1, 1, 1, 0, 1, 0, 0, 1, 0, 0, 1, 1, 1, 1, 0]
noncomputable def rblock_c_R23 : Array Oper := rAt Tryd.prog 77 [1, 1, 1, 1, 1, 0, 1, 0, 0, 1, 0, 0, 1, 1, 1, 1, 1, 0]
noncomputable def rblock_c_R24 : Array Oper := rAt Tryd.prog 77 [1, 1, 1, 1, 1, 0, 1, 0, 0, 1, 0, 0, 1, 1, 1, 1, 1, 1, 0]
noncomputable def rblock_c_R25 : Array Oper := rAt Tryd.prog 77 [1, 1, 1, 1, 1, 0, 1, 0, 0, 1, 0, 0, 1, 1, 1, 1, 1, 1, 1, 0]
noncomputable def rblock_c_R26 : Array Oper := rAt Tryd.prog 77 [1, 1, 1, 1, 1, 0, 1, 0, 0, 1, 0, 0, 1, 1, 1, 1, 1, 1, 1, 1, 0]
noncomputable def rblock_c_R27 : Array Oper := rAt Tryd.prog 77 [1, 1, 1, 1, 1, 0, 1, 0, 0, 1, 0, 0, 1, 1, 1, 1, 1, 1, 1, 1, 1, 0]
noncomputable def rblock_c_R28 : Array Oper := rAt Tryd.prog 77 [1, 1, 1, 1, 1, 0, 1, 0, 0, 1, 0, 0, 1, 1, 1, 1, 1, 1, 1, 1, 1, 1, 0]
noncomputable def rblock_c_R29 : Array Oper := rAt Tryd.prog 77 [1, 1, 1, 1, 1, 0, 1, 0, 0, 1, 0, 0, 1, 1, 1, 1, 1, 1, 1, 1, 1, 1, 1, 0]
noncomputable def rblock_c_R30 : Array Oper := rAt Tryd.prog 77 [1, 1, 1, 1, 1, 0, 1, 0, 0, 1, 0, 0, 1, 1, 1, 1, 1, 1, 1, 1, 1, 1, 1, 1]
noncomputable def rblock_c_R17 : Array Oper := rAt Tryd.prog 77 [1, 1, 1, 1, 1, 0, 1, 0, 0, 1, 1]
noncomputable def rblock_c_R31 : Array Oper := rAt Tryd.prog 77 [1, 1, 1, 1, 1, 1, 0]
set_option maxRecDepth 100000 in
theorem rblock_c (S : List W32) (bs : Value) (bl : List Nat) (w : World) (h_b : SlV w bs bl.length (B bl)) (h_ks0 : Rd w (some ⟨0, 0, none⟩) ((hw KL).toList)) (hbl : bl.length = 64) (hB : Byt bl) :
    Calls Tryd.prog 77 #[(.agg (hw8 S)), bs] w fun e w' => e = .returned (.agg (hw8 (compress S bl))) ∧ Fr w w' N0 := by
  obtain ⟨ao_b, cap_b, rfl, h_b⟩ := h_b
  refine c_enter (mk 220 [(0, (.agg (hw8 S))), (1, (.slice ao_b bl.length cap_b))] (fun _ => undef)) Tryd.func77 (by kernel_rfl) (by kernel_rfl) ?_
  refine c_seq [0] [1] (by kernel_rfl) ?_
  refine c_reg 0 rblock_c_R0 (by kernel_rfl) ?_
  refine at_do (by kernel_rfl) (op_new (.cells (hw8 S) 127) (fun N => (.pointer (some ⟨N, 0, none⟩))) (fun _ => by kernel_rfl) (fun w2_ b1_ h3_ q4_ F5_ => ?_))
  have d6_ : Dis (One b1_) (Ar ao_b (B bl)) := Dis.fresh (New.one q4_) (Rd.in h_b)
  have d7_ : Dis (One b1_) (Ar (some ⟨0, 0, none⟩) ((hw KL).toList)) := Dis.fresh (New.one q4_) (Rd.in h_ks0)
  have N8_ : New w N0 (One b1_) := New.made q4_ (Fr.size (Fr.refl w N0))
  have T9_ := Fr.tr (Fr.refl w N0) F5_
  refine at_do (by kernel_rfl) (op_new (.cells #[(.int .u32 0), (.int .u32 0), (.int .u32 0), (.int .u32 0), (.int .u32 0), (.int .u32 0), (.int .u32 0), (.int .u32 0)] 127) (fun N => (.pointer (some ⟨N, 0, none⟩))) (fun _ => by kernel_rfl) (fun w11_ b10_ h12_ q13_ F14_ => ?_))
  have h15_ := Rd.keep' h_b F5_ Dis.n0
  have d16_ : Dis (One b10_) (Ar ao_b (B bl)) := Dis.fresh (New.one q13_) (Rd.in h15_)
  have h17_ := Rd.keep' h_ks0 F5_ Dis.n0
  have d18_ : Dis (One b10_) (Ar (some ⟨0, 0, none⟩) ((hw KL).toList)) := Dis.fresh (New.one q13_) (Rd.in h17_)
  have d19_ : Dis (One b10_) (One b1_) := Dis.fresh (New.one q13_) (In.one h3_)
  have N20_ : New w N0 (One b10_) := New.made q13_ (Fr.size T9_)
  have T21_ := Fr.tr T9_ F14_
  refine at_done (by kernel_rfl) ?_
  refine then_n ?_
  refine c_seq [1, 0] [1, 1] (by kernel_rfl) ?_
  refine c_reg 1 rblock_c_R1 (by kernel_rfl) ?_
  refine at_pures 1 (by kernel_rfl) (by kernel_rfl) ?_
  refine at_do (by kernel_rfl) (op_new (.cells #[(.int .u32 0), (.int .u32 0), (.int .u32 0), (.int .u32 0), (.int .u32 0), (.int .u32 0), (.int .u32 0), (.int .u32 0), (.int .u32 0), (.int .u32 0), (.int .u32 0), (.int .u32 0), (.int .u32 0), (.int .u32 0), (.int .u32 0), (.int .u32 0), (.int .u32 0), (.int .u32 0), (.int .u32 0), (.int .u32 0), (.int .u32 0), (.int .u32 0), (.int .u32 0), (.int .u32 0), (.int .u32 0), (.int .u32 0), (.int .u32 0), (.int .u32 0), (.int .u32 0), (.int .u32 0), (.int .u32 0), (.int .u32 0), (.int .u32 0), (.int .u32 0), (.int .u32 0), (.int .u32 0), (.int .u32 0), (.int .u32 0), (.int .u32 0), (.int .u32 0), (.int .u32 0), (.int .u32 0), (.int .u32 0), (.int .u32 0), (.int .u32 0), (.int .u32 0), (.int .u32 0), (.int .u32 0), (.int .u32 0), (.int .u32 0), (.int .u32 0), (.int .u32 0), (.int .u32 0), (.int .u32 0), (.int .u32 0), (.int .u32 0), (.int .u32 0), (.int .u32 0), (.int .u32 0), (.int .u32 0), (.int .u32 0), (.int .u32 0), (.int .u32 0), (.int .u32 0)] 137) (fun N => (.pointer (some ⟨N, 0, none⟩))) (fun _ => by kernel_rfl) (fun w23_ b22_ h24_ q25_ F26_ => ?_))
  have h27_ := Rd.keep' h15_ F14_ Dis.n0
  have d28_ : Dis (One b22_) (Ar ao_b (B bl)) := Dis.fresh (New.one q25_) (Rd.in h27_)
  have h29_ := Rd.keep' h17_ F14_ Dis.n0
  have d30_ : Dis (One b22_) (Ar (some ⟨0, 0, none⟩) ((hw KL).toList)) := Dis.fresh (New.one q25_) (Rd.in h29_)
  have h31_ := Fr.keep F14_ h3_ Dis.n0
  have d32_ : Dis (One b22_) (One b1_) := Dis.fresh (New.one q25_) (In.one h31_)
  have d33_ : Dis (One b22_) (One b10_) := Dis.fresh (New.one q25_) (In.one h12_)
  have N34_ : New w N0 (One b22_) := New.made q25_ (Fr.size T21_)
  have T35_ := Fr.tr T21_ F26_
  have h36_ := Rd.keep' h27_ F26_ Dis.n0
  have h37_ := Rd.keep' h29_ F26_ Dis.n0
  have h38_ := Fr.keep F26_ h31_ Dis.n0
  have h39_ := Fr.keep F26_ h12_ Dis.n0
  refine at_do (by kernel_rfl) (op_store 137 (.tmp 5) (.tmp 26) b22_ 0 (.agg #[(.int .u32 0), (.int .u32 0), (.int .u32 0), (.int .u32 0), (.int .u32 0), (.int .u32 0), (.int .u32 0), (.int .u32 0), (.int .u32 0), (.int .u32 0), (.int .u32 0), (.int .u32 0), (.int .u32 0), (.int .u32 0), (.int .u32 0), (.int .u32 0), (.int .u32 0), (.int .u32 0), (.int .u32 0), (.int .u32 0), (.int .u32 0), (.int .u32 0), (.int .u32 0), (.int .u32 0), (.int .u32 0), (.int .u32 0), (.int .u32 0), (.int .u32 0), (.int .u32 0), (.int .u32 0), (.int .u32 0), (.int .u32 0), (.int .u32 0), (.int .u32 0), (.int .u32 0), (.int .u32 0), (.int .u32 0), (.int .u32 0), (.int .u32 0), (.int .u32 0), (.int .u32 0), (.int .u32 0), (.int .u32 0), (.int .u32 0), (.int .u32 0), (.int .u32 0), (.int .u32 0), (.int .u32 0), (.int .u32 0), (.int .u32 0), (.int .u32 0), (.int .u32 0), (.int .u32 0), (.int .u32 0), (.int .u32 0), (.int .u32 0), (.int .u32 0), (.int .u32 0), (.int .u32 0), (.int .u32 0), (.int .u32 0), (.int .u32 0), (.int .u32 0), (.int .u32 0)]) _ _ #[(.int .u32 0), (.int .u32 0), (.int .u32 0), (.int .u32 0), (.int .u32 0), (.int .u32 0), (.int .u32 0), (.int .u32 0), (.int .u32 0), (.int .u32 0), (.int .u32 0), (.int .u32 0), (.int .u32 0), (.int .u32 0), (.int .u32 0), (.int .u32 0), (.int .u32 0), (.int .u32 0), (.int .u32 0), (.int .u32 0), (.int .u32 0), (.int .u32 0), (.int .u32 0), (.int .u32 0), (.int .u32 0), (.int .u32 0), (.int .u32 0), (.int .u32 0), (.int .u32 0), (.int .u32 0), (.int .u32 0), (.int .u32 0), (.int .u32 0), (.int .u32 0), (.int .u32 0), (.int .u32 0), (.int .u32 0), (.int .u32 0), (.int .u32 0), (.int .u32 0), (.int .u32 0), (.int .u32 0), (.int .u32 0), (.int .u32 0), (.int .u32 0), (.int .u32 0), (.int .u32 0), (.int .u32 0), (.int .u32 0), (.int .u32 0), (.int .u32 0), (.int .u32 0), (.int .u32 0), (.int .u32 0), (.int .u32 0), (.int .u32 0), (.int .u32 0), (.int .u32 0), (.int .u32 0), (.int .u32 0), (.int .u32 0), (.int .u32 0), (.int .u32 0), (.int .u32 0)] (by kernel_rfl) (by kernel_rfl) (by kernel_rfl) h24_ (by kernel_rfl) (by kernel_rfl) (by kernel_rfl) (by kernel_rfl) (fun w40_ h41_ z42_ F43_ => ?_))
  have T44_ := Fr.then T35_ F43_ N34_
  have h45_ := Rd.keep' h36_ F43_ (Dis.sym d28_)
  have h46_ := Rd.keep' h37_ F43_ (Dis.sym d30_)
  have h47_ := Fr.keep F43_ h38_ (Dis.sym d32_)
  have h48_ := Fr.keep F43_ h39_ (Dis.sym d33_)
  refine at_done (by kernel_rfl) ?_
  refine then_n ?_
  refine c_seq [1, 1, 0] [1, 1, 1] (by kernel_rfl) ?_
  refine c_seq [1, 1, 0, 0] [1, 1, 0, 1] (by kernel_rfl) ?_
  refine c_reg 2 rblock_c_R2 (by kernel_rfl) ?_
  refine at_pures 1 (by kernel_rfl) (by kernel_rfl) ?_
  refine at_done (by kernel_rfl) ?_
  refine then_n ?_
  refine c_block 0 [1, 1, 0, 1, 0] (by kernel_rfl) ?_
  refine c_loop (fun a w' => ∃ (t : Nat), (∃ u, a = mk 220 [(0, (.agg (hw8 S))), (1, (.slice ao_b bl.length cap_b)), (2, (.pointer (some ⟨b1_, 0, none⟩))), (4, (.pointer (some ⟨b10_, 0, none⟩))), (5, (.pointer (some ⟨b22_, 0, none⟩))), (6, (.int .i64 (t : Int))), (26, (.agg #[(.int .u32 0), (.int .u32 0), (.int .u32 0), (.int .u32 0), (.int .u32 0), (.int .u32 0), (.int .u32 0), (.int .u32 0), (.int .u32 0), (.int .u32 0), (.int .u32 0), (.int .u32 0), (.int .u32 0), (.int .u32 0), (.int .u32 0), (.int .u32 0), (.int .u32 0), (.int .u32 0), (.int .u32 0), (.int .u32 0), (.int .u32 0), (.int .u32 0), (.int .u32 0), (.int .u32 0), (.int .u32 0), (.int .u32 0), (.int .u32 0), (.int .u32 0), (.int .u32 0), (.int .u32 0), (.int .u32 0), (.int .u32 0), (.int .u32 0), (.int .u32 0), (.int .u32 0), (.int .u32 0), (.int .u32 0), (.int .u32 0), (.int .u32 0), (.int .u32 0), (.int .u32 0), (.int .u32 0), (.int .u32 0), (.int .u32 0), (.int .u32 0), (.int .u32 0), (.int .u32 0), (.int .u32 0), (.int .u32 0), (.int .u32 0), (.int .u32 0), (.int .u32 0), (.int .u32 0), (.int .u32 0), (.int .u32 0), (.int .u32 0), (.int .u32 0), (.int .u32 0), (.int .u32 0), (.int .u32 0), (.int .u32 0), (.int .u32 0), (.int .u32 0), (.int .u32 0)]))] u) ∧ (t ≤ 16) ∧ (Rd w' ao_b (B bl)) ∧ (Rd w' (some ⟨0, 0, none⟩) ((hw KL).toList)) ∧ (w'.heap[b1_]? = some (.cells (hw8 S) 127 (0, 0))) ∧ (w'.heap[b10_]? = some (.cells #[(.int .u32 0), (.int .u32 0), (.int .u32 0), (.int .u32 0), (.int .u32 0), (.int .u32 0), (.int .u32 0), (.int .u32 0)] 127 (0, 0))) ∧ (w'.heap[b22_]? = some (.cells (hw (wS bl t)) 137 (0, 0))) ∧ (Fr w w' N0)) (fun a _ => cnt (16) 6 a) [1, 1, 0, 1, 0, 0] (by kernel_rfl) ⟨0, is_mk (by kernel_rfl) (by kernel_rfl) (by kernel_rfl), ⟨Nat.zero_le _, h45_, h46_, h47_, h48_, (cast (by kernel_rfl) h41_), T44_⟩⟩ ?_
  rintro a50_ w51_ ⟨t, ⟨u52_, rfl⟩, ⟨ht, q_0L49_, q_1L49_, q_2L49_, q_3L49_, q_4L49_, hFrL49_⟩⟩
  have hb0 := getD_lt hB (4 * t); have hb1 := getD_lt hB (4 * t + 1); have hb2 := getD_lt hB (4 * t + 2); have hb3 := getD_lt hB (4 * t + 3)
  refine c_seq [1, 1, 0, 1, 0, 0, 0] [1, 1, 0, 1, 0, 0, 1] (by kernel_rfl) ?_
  refine c_seq [1, 1, 0, 1, 0, 0, 0, 0] [1, 1, 0, 1, 0, 0, 0, 1] (by kernel_rfl) ?_
  refine c_reg 3 rblock_c_R3 (by kernel_rfl) ?_
  refine at_pures 2 (by kernel_rfl) (by kernel_rfl) ?_
  refine at_done (by kernel_rfl) ?_
  refine then_n ?_
  refine c_if (.tmp 28) (decide ((t : Int) < (16 : Int))) [1, 1, 0, 1, 0, 0, 0, 1, 0] [1, 1, 0, 1, 0, 0, 0, 1, 1] (by kernel_rfl) (by kernel_rfl) (fun c53_ => ?_) (fun c53_ => ?_)
  · -- yes
    replace c53_ : (t : Int) < (16 : Int) := of_decide_eq_true c53_
    refine c_skip (by kernel_rfl) ?_
    refine then_n ?_
    refine c_seq [1, 1, 0, 1, 0, 0, 1, 0] [1, 1, 0, 1, 0, 0, 1, 1] (by kernel_rfl) ?_
    refine c_block 1 [1, 1, 0, 1, 0, 0, 1, 0, 0] (by kernel_rfl) ?_
    refine c_plan 5 rblock_c_R5 (fun w' => Rd w' ao_b (B bl) ∧ True) rblock_c_sk5 rblock_c_pl5 (by kernel_rfl) (by kernel_rfl) (by kernel_rfl) (by kernel_rfl) (by kernel_rfl) (fun w54_ F55_ => ?_)
    have T56_ := Fr.tr hFrL49_ F55_
    have h58_ := Rd.keep' q_0L49_ F55_ Dis.n0
    have S57_ : Rd w54_ ao_b (B bl) ∧ True := ⟨h58_, trivial⟩
    refine pl_pures 3 (by kernel_rfl) (by kernel_rfl) (off (by kernel_rfl)) ?_
    refine pl_as 3 (.int .i64 (IntKind.i64.wrap ((4 : Int) * (t : Int)))) (.int .i64 ((4 : Int) * (t : Int))) (by kernel_rfl) (by kernel_rfl) ⟨by kernel_rfl, by kernel_rfl⟩ (congrArg (Value.int .i64) (wrapN_i64 (by omega) (by omega))) (off (by kernel_rfl)) ?_
    obtain ⟨ad59_, ha60_⟩ := h58_.has ((4 * t) * 1) (by rw [B_length]; omega)
    refine pl_quiet 4 (.pointer (some (ad59_.add ((4 * t) * 1)))) (by kernel_rfl) (by kernel_rfl) (fun w' => run_idx_o 64 (.tmp 32) (.tmp 34) 1 ao_b ad59_ bl.length cap_b .i64 (4 * t) (by kernel_rfl) (by kernel_rfl) (by kernel_rfl) (by kernel_rfl) (by kernel_rfl) ha60_ (by omega)) (off (by kernel_rfl)) ?_
    refine pl_read 5 (.int .u8 (((bl).getD (4 * t) 0 : Nat) : Int)) (by kernel_rfl) (by kernel_rfl) (fun w' hs => run_loadE1 5 (.tmp 35) ao_b ad59_ ((4 * t) * 1) (B bl) (.int .u8 (((bl).getD (4 * t) 0 : Nat) : Int)) (by kernel_rfl) (by kernel_rfl) (by kernel_rfl) ha60_ hs.1 (by rw [Nat.mul_one]; exact B_getD _ _ (by first | omega | (simp only [List.length_take, List.length_drop]; omega)))) S57_ ?_
    refine pl_as 6 (.int .u32 (IntKind.u32.wrap ((((bl).getD (4 * t) 0 : Nat) : Int)))) (.int .u32 (((bl).getD (4 * t) 0 : Nat) : Int)) (by kernel_rfl) (by kernel_rfl) ⟨by kernel_rfl, by kernel_rfl⟩ (congrArg (Value.int .u32) (wrapN_u32 (by omega) (by omega))) (off (by kernel_rfl)) ?_
    refine pl_as 7 (.int .u32 (IntKind.u32.wrap ((16777216 : Int) * (((bl).getD (4 * t) 0 : Nat) : Int)))) (.int .u32 ((16777216 : Int) * (((bl).getD (4 * t) 0 : Nat) : Int))) (by kernel_rfl) (by kernel_rfl) ⟨by kernel_rfl, by kernel_rfl⟩ (congrArg (Value.int .u32) (wrapN_u32 (by omega) (by omega))) (off (by kernel_rfl)) ?_
    refine pl_pures 10 (by kernel_rfl) (by kernel_rfl) (fun _ => S57_) ?_
    refine pl_as 10 (.int .i64 (IntKind.i64.wrap ((4 : Int) * (t : Int)))) (.int .i64 ((4 : Int) * (t : Int))) (by kernel_rfl) (by kernel_rfl) ⟨by kernel_rfl, by kernel_rfl⟩ (congrArg (Value.int .i64) (wrapN_i64 (by omega) (by omega))) (fun _ => S57_) ?_
    refine pl_as 11 (.int .i64 (IntKind.i64.wrap (((4 : Int) * (t : Int)) + (1 : Int)))) (.int .i64 (((4 : Int) * (t : Int)) + (1 : Int))) (by kernel_rfl) (by kernel_rfl) ⟨by kernel_rfl, by kernel_rfl⟩ (congrArg (Value.int .i64) (wrapN_i64 (by omega) (by omega))) (fun _ => S57_) ?_
    obtain ⟨ad61_, ha62_⟩ := h58_.has (((4 * t) + 1) * 1) (by rw [B_length]; omega)
    refine pl_quiet 12 (.pointer (some (ad61_.add (((4 * t) + 1) * 1)))) (by kernel_rfl) (by kernel_rfl) (fun w' => run_idx_o 64 (.tmp 39) (.tmp 42) 1 ao_b ad61_ bl.length cap_b .i64 ((4 * t) + 1) (by kernel_rfl) (by kernel_rfl) (by kernel_rfl) (by kernel_rfl) (by kernel_rfl) ha62_ (by omega)) (fun _ => S57_) ?_
    refine pl_read 13 (.int .u8 (((bl).getD ((4 * t) + 1) 0 : Nat) : Int)) (by kernel_rfl) (by kernel_rfl) (fun w' hs => run_loadE1 5 (.tmp 43) ao_b ad61_ (((4 * t) + 1) * 1) (B bl) (.int .u8 (((bl).getD ((4 * t) + 1) 0 : Nat) : Int)) (by kernel_rfl) (by kernel_rfl) (by kernel_rfl) ha62_ hs.1 (by rw [Nat.mul_one]; exact B_getD _ _ (by first | omega | (simp only [List.length_take, List.length_drop]; omega)))) S57_ ?_
    refine pl_as 14 (.int .u32 (IntKind.u32.wrap ((((bl).getD ((4 * t) + 1) 0 : Nat) : Int)))) (.int .u32 (((bl).getD ((4 * t) + 1) 0 : Nat) : Int)) (by kernel_rfl) (by kernel_rfl) ⟨by kernel_rfl, by kernel_rfl⟩ (congrArg (Value.int .u32) (wrapN_u32 (by omega) (by omega))) (fun _ => S57_) ?_
    refine pl_as 15 (.int .u32 (IntKind.u32.wrap ((65536 : Int) * (((bl).getD ((4 * t) + 1) 0 : Nat) : Int)))) (.int .u32 ((65536 : Int) * (((bl).getD ((4 * t) + 1) 0 : Nat) : Int))) (by kernel_rfl) (by kernel_rfl) ⟨by kernel_rfl, by kernel_rfl⟩ (congrArg (Value.int .u32) (wrapN_u32 (by omega) (by omega))) (fun _ => S57_) ?_
    refine pl_as 16 (.int .u32 (IntKind.u32.wrap (((16777216 : Int) * (((bl).getD (4 * t) 0 : Nat) : Int)) + ((65536 : Int) * (((bl).getD ((4 * t) + 1) 0 : Nat) : Int))))) (.int .u32 (((16777216 : Int) * (((bl).getD (4 * t) 0 : Nat) : Int)) + ((65536 : Int) * (((bl).getD ((4 * t) + 1) 0 : Nat) : Int)))) (by kernel_rfl) (by kernel_rfl) ⟨by kernel_rfl, by kernel_rfl⟩ (congrArg (Value.int .u32) (wrapN_u32 (by omega) (by omega))) (off (by kernel_rfl)) ?_
    refine pl_pures 19 (by kernel_rfl) (by kernel_rfl) (fun _ => S57_) ?_
    refine pl_as 19 (.int .i64 (IntKind.i64.wrap ((4 : Int) * (t : Int)))) (.int .i64 ((4 : Int) * (t : Int))) (by kernel_rfl) (by kernel_rfl) ⟨by kernel_rfl, by kernel_rfl⟩ (congrArg (Value.int .i64) (wrapN_i64 (by omega) (by omega))) (fun _ => S57_) ?_
    refine pl_as 20 (.int .i64 (IntKind.i64.wrap (((4 : Int) * (t : Int)) + (2 : Int)))) (.int .i64 (((4 : Int) * (t : Int)) + (2 : Int))) (by kernel_rfl) (by kernel_rfl) ⟨by kernel_rfl, by kernel_rfl⟩ (congrArg (Value.int .i64) (wrapN_i64 (by omega) (by omega))) (fun _ => S57_) ?_
    obtain ⟨ad63_, ha64_⟩ := h58_.has (((4 * t) + 2) * 1) (by rw [B_length]; omega)
    refine pl_quiet 21 (.pointer (some (ad63_.add (((4 * t) + 2) * 1)))) (by kernel_rfl) (by kernel_rfl) (fun w' => run_idx_o 64 (.tmp 48) (.tmp 51) 1 ao_b ad63_ bl.length cap_b .i64 ((4 * t) + 2) (by kernel_rfl) (by kernel_rfl) (by kernel_rfl) (by kernel_rfl) (by kernel_rfl) ha64_ (by omega)) (fun _ => S57_) ?_
    refine pl_read 22 (.int .u8 (((bl).getD ((4 * t) + 2) 0 : Nat) : Int)) (by kernel_rfl) (by kernel_rfl) (fun w' hs => run_loadE1 5 (.tmp 52) ao_b ad63_ (((4 * t) + 2) * 1) (B bl) (.int .u8 (((bl).getD ((4 * t) + 2) 0 : Nat) : Int)) (by kernel_rfl) (by kernel_rfl) (by kernel_rfl) ha64_ hs.1 (by rw [Nat.mul_one]; exact B_getD _ _ (by first | omega | (simp only [List.length_take, List.length_drop]; omega)))) S57_ ?_
    refine pl_as 23 (.int .u32 (IntKind.u32.wrap ((((bl).getD ((4 * t) + 2) 0 : Nat) : Int)))) (.int .u32 (((bl).getD ((4 * t) + 2) 0 : Nat) : Int)) (by kernel_rfl) (by kernel_rfl) ⟨by kernel_rfl, by kernel_rfl⟩ (congrArg (Value.int .u32) (wrapN_u32 (by omega) (by omega))) (fun _ => S57_) ?_
    refine pl_as 24 (.int .u32 (IntKind.u32.wrap ((256 : Int) * (((bl).getD ((4 * t) + 2) 0 : Nat) : Int)))) (.int .u32 ((256 : Int) * (((bl).getD ((4 * t) + 2) 0 : Nat) : Int))) (by kernel_rfl) (by kernel_rfl) ⟨by kernel_rfl, by kernel_rfl⟩ (congrArg (Value.int .u32) (wrapN_u32 (by omega) (by omega))) (fun _ => S57_) ?_
    refine pl_as 25 (.int .u32 (IntKind.u32.wrap ((((16777216 : Int) * (((bl).getD (4 * t) 0 : Nat) : Int)) + ((65536 : Int) * (((bl).getD ((4 * t) + 1) 0 : Nat) : Int))) + ((256 : Int) * (((bl).getD ((4 * t) + 2) 0 : Nat) : Int))))) (.int .u32 ((((16777216 : Int) * (((bl).getD (4 * t) 0 : Nat) : Int)) + ((65536 : Int) * (((bl).getD ((4 * t) + 1) 0 : Nat) : Int))) + ((256 : Int) * (((bl).getD ((4 * t) + 2) 0 : Nat) : Int)))) (by kernel_rfl) (by kernel_rfl) ⟨by kernel_rfl, by kernel_rfl⟩ (congrArg (Value.int .u32) (wrapN_u32 (by omega) (by omega))) (off (by kernel_rfl)) ?_
    refine pl_pures 28 (by kernel_rfl) (by kernel_rfl) (fun _ => S57_) ?_
    refine pl_as 28 (.int .i64 (IntKind.i64.wrap ((4 : Int) * (t : Int)))) (.int .i64 ((4 : Int) * (t : Int))) (by kernel_rfl) (by kernel_rfl) ⟨by kernel_rfl, by kernel_rfl⟩ (congrArg (Value.int .i64) (wrapN_i64 (by omega) (by omega))) (fun _ => S57_) ?_
    refine pl_as 29 (.int .i64 (IntKind.i64.wrap (((4 : Int) * (t : Int)) + (3 : Int)))) (.int .i64 (((4 : Int) * (t : Int)) + (3 : Int))) (by kernel_rfl) (by kernel_rfl) ⟨by kernel_rfl, by kernel_rfl⟩ (congrArg (Value.int .i64) (wrapN_i64 (by omega) (by omega))) (fun _ => S57_) ?_
    obtain ⟨ad65_, ha66_⟩ := h58_.has (((4 * t) + 3) * 1) (by rw [B_length]; omega)
    refine pl_quiet 30 (.pointer (some (ad65_.add (((4 * t) + 3) * 1)))) (by kernel_rfl) (by kernel_rfl) (fun w' => run_idx_o 64 (.tmp 57) (.tmp 60) 1 ao_b ad65_ bl.length cap_b .i64 ((4 * t) + 3) (by kernel_rfl) (by kernel_rfl) (by kernel_rfl) (by kernel_rfl) (by kernel_rfl) ha66_ (by omega)) (fun _ => S57_) ?_
    refine pl_read 31 (.int .u8 (((bl).getD ((4 * t) + 3) 0 : Nat) : Int)) (by kernel_rfl) (by kernel_rfl) (fun w' hs => run_loadE1 5 (.tmp 61) ao_b ad65_ (((4 * t) + 3) * 1) (B bl) (.int .u8 (((bl).getD ((4 * t) + 3) 0 : Nat) : Int)) (by kernel_rfl) (by kernel_rfl) (by kernel_rfl) ha66_ hs.1 (by rw [Nat.mul_one]; exact B_getD _ _ (by first | omega | (simp only [List.length_take, List.length_drop]; omega)))) S57_ ?_
    refine pl_as 32 (.int .u32 (IntKind.u32.wrap ((((bl).getD ((4 * t) + 3) 0 : Nat) : Int)))) (.int .u32 (((bl).getD ((4 * t) + 3) 0 : Nat) : Int)) (by kernel_rfl) (by kernel_rfl) ⟨by kernel_rfl, by kernel_rfl⟩ (congrArg (Value.int .u32) (wrapN_u32 (by omega) (by omega))) (fun _ => S57_) ?_
    refine pl_as 33 (.int .u32 (IntKind.u32.wrap (((((16777216 : Int) * (((bl).getD (4 * t) 0 : Nat) : Int)) + ((65536 : Int) * (((bl).getD ((4 * t) + 1) 0 : Nat) : Int))) + ((256 : Int) * (((bl).getD ((4 * t) + 2) 0 : Nat) : Int))) + (((bl).getD ((4 * t) + 3) 0 : Nat) : Int)))) (.int .u32 (((((16777216 : Int) * (((bl).getD (4 * t) 0 : Nat) : Int)) + ((65536 : Int) * (((bl).getD ((4 * t) + 1) 0 : Nat) : Int))) + ((256 : Int) * (((bl).getD ((4 * t) + 2) 0 : Nat) : Int))) + (((bl).getD ((4 * t) + 3) 0 : Nat) : Int))) (by kernel_rfl) (by kernel_rfl) ⟨by kernel_rfl, by kernel_rfl⟩ (congrArg (Value.int .u32) (wrapN_u32 (by omega) (by omega))) (off (by kernel_rfl)) ?_
    refine pl_quiet 34 (.pointer (some ⟨b22_, 0 + t * 1, none⟩)) (by kernel_rfl) (by kernel_rfl) (fun w' => run_idx_arr 137 (.tmp 5) (.tmp 31) 1 b22_ 0 64 .i64 t (by kernel_rfl) (by kernel_rfl) (by kernel_rfl) (by kernel_rfl) (by kernel_rfl) (by omega)) (off (by kernel_rfl)) ?_
    have h67_ := Rd.keep' q_1L49_ F55_ Dis.n0
    have h68_ := Fr.keep F55_ q_2L49_ Dis.n0
    have h69_ := Fr.keep F55_ q_3L49_ Dis.n0
    have h70_ := Fr.keep F55_ q_4L49_ Dis.n0
    refine pl_do 35 (by kernel_rfl) (by kernel_rfl) (op_store1 29 (.tmp 65) (.tmp 64) b22_ (0 + t * 1) (.int .u32 (((((16777216 : Int) * (((bl).getD (4 * t) 0 : Nat) : Int)) + ((65536 : Int) * (((bl).getD ((4 * t) + 1) 0 : Nat) : Int))) + ((256 : Int) * (((bl).getD ((4 * t) + 2) 0 : Nat) : Int))) + (((bl).getD ((4 * t) + 3) 0 : Nat) : Int))) _ _ (hw (wS bl (t + 1))) (by kernel_rfl) (by kernel_rfl) (by kernel_rfl) (by rfl) (by rfl) h70_ (by kernel_rfl) (Nat.ble_eq_true_of_le (by show 0 + t * 1 + 1 ≤ 64; omega)) (by rw [show ((((16777216 : Int) * (((bl).getD (4 * t) 0 : Nat) : Int)) + ((65536 : Int) * (((bl).getD ((4 * t) + 1) 0 : Nat) : Int))) + ((256 : Int) * (((bl).getD ((4 * t) + 2) 0 : Nat) : Int))) + (((bl).getD ((4 * t) + 3) 0 : Nat) : Int) = ((wd bl t).toNat : Int) from by rw [wd_ref hB (by omega)]; omega, hw_set (wS_length bl t) (by omega), show wS bl (t + 1) = (wS bl t).set t (wd bl t) from by rw [wS, if_pos (by omega)]]) (fun w71_ h72_ z73_ F74_ => ?_))
    have T75_ := Fr.then T56_ F74_ N34_
    have h76_ := Rd.keep' h58_ F74_ (Dis.sym d28_)
    have h77_ := Rd.keep' h67_ F74_ (Dis.sym d30_)
    have h78_ := Fr.keep F74_ h68_ (Dis.sym d32_)
    have h79_ := Fr.keep F74_ h69_ (Dis.sym d33_)
    refine ⟨off (by kernel_rfl), ?_⟩
    refine pl_done (by kernel_rfl) ?_
    refine blk_n ?_
    refine then_n ?_
    refine c_reg 4 rblock_c_R4 (by kernel_rfl) ?_
    refine at_pures 1 (by kernel_rfl) (by kernel_rfl) ?_
    refine at_int (kd := .i64) (IntKind.i64.wrap ((t : Int) + (1 : Int))) ((t : Int) + (1 : Int)) (by kernel_rfl) (by kernel_rfl) (wrapN_i64 (by omega) (by omega)) ?_
    refine at_pures 3 (by kernel_rfl) (by kernel_rfl) ?_
    refine at_done (by kernel_rfl) ?_
    refine then_n ?_
    exact ⟨⟨t + 1, is_mk (by kernel_rfl) (by kernel_rfl) (by kernel_rfl), ⟨(by omega), h76_, h77_, h78_, h79_, h72_, T75_⟩⟩, cnt_lt (k := (t : Int)) (k' := ((t : Int) + (1 : Int))) (by kernel_rfl) (by kernel_rfl) (by omega) (by omega)⟩
  · -- no
    replace c53_ : ¬ ((t : Int) < (16 : Int)) := of_decide_eq_false c53_
    refine c_exit 0 (by kernel_rfl) ?_
    refine then_e ?_
    refine then_e ?_
    refine blk_hit ?_
    refine then_n ?_
    refine c_seq [1, 1, 1, 0] [1, 1, 1, 1] (by kernel_rfl) ?_
    refine c_seq [1, 1, 1, 0, 0] [1, 1, 1, 0, 1] (by kernel_rfl) ?_
    refine c_reg 6 rblock_c_R6 (by kernel_rfl) ?_
    refine at_pures 1 (by kernel_rfl) (by kernel_rfl) ?_
    refine at_done (by kernel_rfl) ?_
    refine then_n ?_
    refine c_block 2 [1, 1, 1, 0, 1, 0] (by kernel_rfl) ?_
    refine c_loop (fun a w' => ∃ (t2 : Nat), (∃ u, a = mk 220 [(0, (.agg (hw8 S))), (1, (.slice ao_b bl.length cap_b)), (2, (.pointer (some ⟨b1_, 0, none⟩))), (4, (.pointer (some ⟨b10_, 0, none⟩))), (5, (.pointer (some ⟨b22_, 0, none⟩))), (6, (.int .i64 (t : Int))), (7, (.int .i64 (t2 : Int))), (26, (.agg #[(.int .u32 0), (.int .u32 0), (.int .u32 0), (.int .u32 0), (.int .u32 0), (.int .u32 0), (.int .u32 0), (.int .u32 0), (.int .u32 0), (.int .u32 0), (.int .u32 0), (.int .u32 0), (.int .u32 0), (.int .u32 0), (.int .u32 0), (.int .u32 0), (.int .u32 0), (.int .u32 0), (.int .u32 0), (.int .u32 0), (.int .u32 0), (.int .u32 0), (.int .u32 0), (.int .u32 0), (.int .u32 0), (.int .u32 0), (.int .u32 0), (.int .u32 0), (.int .u32 0), (.int .u32 0), (.int .u32 0), (.int .u32 0), (.int .u32 0), (.int .u32 0), (.int .u32 0), (.int .u32 0), (.int .u32 0), (.int .u32 0), (.int .u32 0), (.int .u32 0), (.int .u32 0), (.int .u32 0), (.int .u32 0), (.int .u32 0), (.int .u32 0), (.int .u32 0), (.int .u32 0), (.int .u32 0), (.int .u32 0), (.int .u32 0), (.int .u32 0), (.int .u32 0), (.int .u32 0), (.int .u32 0), (.int .u32 0), (.int .u32 0), (.int .u32 0), (.int .u32 0), (.int .u32 0), (.int .u32 0), (.int .u32 0), (.int .u32 0), (.int .u32 0), (.int .u32 0)])), (27, (.int .i64 (t : Int))), (28, (.bool (decide ((t : Int) < (16 : Int)))))] u) ∧ (16 ≤ t2) ∧ (t2 ≤ 64) ∧ (Rd w' ao_b (B bl)) ∧ (Rd w' (some ⟨0, 0, none⟩) ((hw KL).toList)) ∧ (w'.heap[b1_]? = some (.cells (hw8 S) 127 (0, 0))) ∧ (w'.heap[b10_]? = some (.cells #[(.int .u32 0), (.int .u32 0), (.int .u32 0), (.int .u32 0), (.int .u32 0), (.int .u32 0), (.int .u32 0), (.int .u32 0)] 127 (0, 0))) ∧ (w'.heap[b22_]? = some (.cells (hw (wS bl t2)) 137 (0, 0))) ∧ (Fr w w' N0)) (fun a _ => cnt (64) 7 a) [1, 1, 1, 0, 1, 0, 0] (by kernel_rfl) ⟨16, is_mk (by kernel_rfl) (by kernel_rfl) (by kernel_rfl), ⟨Nat.le_refl _, (by decide), q_0L49_, q_1L49_, q_2L49_, q_3L49_, (by rw [show t = 16 from by omega] at q_4L49_; exact q_4L49_), hFrL49_⟩⟩ ?_
    rintro a81_ w82_ ⟨t2, ⟨u83_, rfl⟩, ⟨ht1, ht2, q_0L80_, q_1L80_, q_2L80_, q_3L80_, q_4L80_, hFrL80_⟩⟩
    refine c_seq [1, 1, 1, 0, 1, 0, 0, 0] [1, 1, 1, 0, 1, 0, 0, 1] (by kernel_rfl) ?_
    refine c_seq [1, 1, 1, 0, 1, 0, 0, 0, 0] [1, 1, 1, 0, 1, 0, 0, 0, 1] (by kernel_rfl) ?_
    refine c_reg 7 rblock_c_R7 (by kernel_rfl) ?_
    refine at_pures 2 (by kernel_rfl) (by kernel_rfl) ?_
    refine at_done (by kernel_rfl) ?_
    refine then_n ?_
    refine c_if (.tmp 67) (decide ((t2 : Int) < (64 : Int))) [1, 1, 1, 0, 1, 0, 0, 0, 1, 0] [1, 1, 1, 0, 1, 0, 0, 0, 1, 1] (by kernel_rfl) (by kernel_rfl) (fun c84_ => ?_) (fun c84_ => ?_)
    · -- yes
      replace c84_ : (t2 : Int) < (64 : Int) := of_decide_eq_true c84_
      refine c_skip (by kernel_rfl) ?_
      refine then_n ?_
      refine c_seq [1, 1, 1, 0, 1, 0, 0, 1, 0] [1, 1, 1, 0, 1, 0, 0, 1, 1] (by kernel_rfl) ?_
      refine c_block 3 [1, 1, 1, 0, 1, 0, 0, 1, 0, 0] (by kernel_rfl) ?_
      refine c_seq [1, 1, 1, 0, 1, 0, 0, 1, 0, 0, 0] [1, 1, 1, 0, 1, 0, 0, 1, 0, 0, 1] (by kernel_rfl) ?_
      refine c_reg 9 rblock_c_R9 (by kernel_rfl) ?_
      refine at_pures 1 (by kernel_rfl) (by kernel_rfl) ?_
      refine at_int (kd := .i64) (IntKind.i64.wrap ((t2 : Int) - (15 : Int))) (((t2 - 15 : Nat) : Int)) (by kernel_rfl) (by kernel_rfl) (by rw [wrapN_i64 (by omega) (by omega)]; omega) ?_
      refine at_run (.pointer (some ⟨b22_, 0 + (t2 - 15 : Nat) * 1, none⟩)) _ (by kernel_rfl) (run_idx_arr 137 (.tmp 5) (.tmp 71) 1 b22_ 0 64 .i64 (t2 - 15 : Nat) (by kernel_rfl) (by kernel_rfl) (by kernel_rfl) (by kernel_rfl) (by kernel_rfl) (by omega)) ?_
      refine at_run (.int .u32 (((wS bl t2).getD (t2 - 15 : Nat) 0).toNat : Int)) _ (by kernel_rfl) (run_load1 29 (.tmp 72) b22_ (0 + (t2 - 15 : Nat) * 1) _ _ _ (.int .u32 (((wS bl t2).getD (t2 - 15 : Nat) 0).toNat : Int)) (by kernel_rfl) (by kernel_rfl) (by kernel_rfl) q_4L80_ (hw_get (wS bl t2) (t2 - 15 : Nat) (by omega))) ?_
      refine at_pures 5 (by kernel_rfl) (by kernel_rfl) ?_
      refine at_done (by kernel_rfl) ?_
      refine then_n ?_
      refine c_seq [1, 1, 1, 0, 1, 0, 0, 1, 0, 0, 1, 0] [1, 1, 1, 0, 1, 0, 0, 1, 0, 0, 1, 1] (by kernel_rfl) ?_
      refine c_reg 10 rblock_c_R10 (by kernel_rfl) ?_
      refine at_pures 1 (by kernel_rfl) (by kernel_rfl) ?_
      refine at_int (kd := .i64) (IntKind.i64.wrap ((t2 : Int) - (2 : Int))) (((t2 - 2 : Nat) : Int)) (by kernel_rfl) (by kernel_rfl) (by rw [wrapN_i64 (by omega) (by omega)]; omega) ?_
      refine at_run (.pointer (some ⟨b22_, 0 + (t2 - 2 : Nat) * 1, none⟩)) _ (by kernel_rfl) (run_idx_arr 137 (.tmp 5) (.tmp 75) 1 b22_ 0 64 .i64 (t2 - 2 : Nat) (by kernel_rfl) (by kernel_rfl) (by kernel_rfl) (by kernel_rfl) (by kernel_rfl) (by omega)) ?_
      refine at_run (.int .u32 (((wS bl t2).getD (t2 - 2 : Nat) 0).toNat : Int)) _ (by kernel_rfl) (run_load1 29 (.tmp 76) b22_ (0 + (t2 - 2 : Nat) * 1) _ _ _ (.int .u32 (((wS bl t2).getD (t2 - 2 : Nat) 0).toNat : Int)) (by kernel_rfl) (by kernel_rfl) (by kernel_rfl) q_4L80_ (hw_get (wS bl t2) (t2 - 2 : Nat) (by omega))) ?_
      refine at_pures 5 (by kernel_rfl) (by kernel_rfl) ?_
      refine at_done (by kernel_rfl) ?_
      refine then_n ?_
      refine c_seq [1, 1, 1, 0, 1, 0, 0, 1, 0, 0, 1, 1, 0] [1, 1, 1, 0, 1, 0, 0, 1, 0, 0, 1, 1, 1] (by kernel_rfl) ?_
      refine c_reg 11 rblock_c_R11 (by kernel_rfl) ?_
      refine at_pures 1 (by kernel_rfl) (by kernel_rfl) ?_
      refine at_do (by kernel_rfl) (op_call 85 #[(.tmp 78), (.const (.int .i64 7))] #[(.int .u32 (((wS bl t2).getD (t2 - 15 : Nat) 0).toNat : Int)), (.int .i64 7)] (by kernel_rfl) (by kernel_rfl) (by kernel_rfl) ?_)
      have C89_ := rturn_c ((wS bl t2).getD (t2 - 15 : Nat) 0) 7 w82_   (by first | omega | with_reducible assumption | (simp only [List.length_append, List.length_cons, List.length_nil, putB_length]; omega) | decide)
      refine Calls.mono C89_ ?_
      rintro e88_ w86_ ⟨rfl, F87_⟩
      refine ⟨_, rfl, ?_⟩
      have T90_ := Fr.tr hFrL80_ F87_
      have h91_ := Rd.keep' q_0L80_ F87_ Dis.n0
      have h92_ := Rd.keep' q_1L80_ F87_ Dis.n0
      have h93_ := Fr.keep F87_ q_2L80_ Dis.n0
      have h94_ := Fr.keep F87_ q_3L80_ Dis.n0
      have h95_ := Fr.keep F87_ q_4L80_ Dis.n0
      refine at_pures 3 (by kernel_rfl) (by kernel_rfl) ?_
      refine at_do (by kernel_rfl) (op_call 85 #[(.tmp 80), (.const (.int .i64 18))] #[(.int .u32 (((wS bl t2).getD (t2 - 15 : Nat) 0).toNat : Int)), (.int .i64 18)] (by kernel_rfl) (by kernel_rfl) (by kernel_rfl) ?_)
      have C100_ := rturn_c ((wS bl t2).getD (t2 - 15 : Nat) 0) 18 w86_   (by first | omega | with_reducible assumption | (simp only [List.length_append, List.length_cons, List.length_nil, putB_length]; omega) | decide)
      refine Calls.mono C100_ ?_
      rintro e99_ w97_ ⟨rfl, F98_⟩
      refine ⟨_, rfl, ?_⟩
      have T101_ := Fr.tr T90_ F98_
      have h102_ := Rd.keep' h91_ F98_ Dis.n0
      have h103_ := Rd.keep' h92_ F98_ Dis.n0
      have h104_ := Fr.keep F98_ h93_ Dis.n0
      have h105_ := Fr.keep F98_ h94_ Dis.n0
      have h106_ := Fr.keep F98_ h95_ Dis.n0
      refine at_pures 5 (by kernel_rfl) (by kernel_rfl) ?_
      refine at_int (kd := .u32) (IntKind.u32.wrap ((((wS bl t2).getD (t2 - 15 : Nat) 0).toNat : Int).tdiv (8 : Int))) (((((wS bl t2).getD (t2 - 15 : Nat) 0) >>> 3).toNat : Int)) (by kernel_rfl) (by kernel_rfl) (bv_quo2 ((wS bl t2).getD (t2 - 15 : Nat) 0) _ 3 (by decide)) ?_
      refine at_do (by kernel_rfl) (op_call 84 #[(.tmp 79), (.tmp 81), (.tmp 83)] #[(.int .u32 ((turn ((wS bl t2).getD (t2 - 15 : Nat) 0) 7).toNat : Int)), (.int .u32 ((turn ((wS bl t2).getD (t2 - 15 : Nat) 0) 18).toNat : Int)), (.int .u32 ((((wS bl t2).getD (t2 - 15 : Nat) 0) >>> 3).toNat : Int))] (by kernel_rfl) (by kernel_rfl) (by kernel_rfl) ?_)
      have C111_ := xor_c (turn ((wS bl t2).getD (t2 - 15 : Nat) 0) 7) (turn ((wS bl t2).getD (t2 - 15 : Nat) 0) 18) (((wS bl t2).getD (t2 - 15 : Nat) 0) >>> 3) w97_   
      refine Calls.mono C111_ ?_
      rintro e110_ w108_ ⟨rfl, F109_⟩
      refine ⟨_, rfl, ?_⟩
      have T112_ := Fr.tr T101_ F109_
      have h113_ := Rd.keep' h102_ F109_ Dis.n0
      have h114_ := Rd.keep' h103_ F109_ Dis.n0
      have h115_ := Fr.keep F109_ h104_ Dis.n0
      have h116_ := Fr.keep F109_ h105_ Dis.n0
      have h117_ := Fr.keep F109_ h106_ Dis.n0
      refine at_pures 8 (by kernel_rfl) (by kernel_rfl) ?_
      refine at_done (by kernel_rfl) ?_
      refine then_n ?_
      refine c_seq [1, 1, 1, 0, 1, 0, 0, 1, 0, 0, 1, 1, 1, 0] [1, 1, 1, 0, 1, 0, 0, 1, 0, 0, 1, 1, 1, 1] (by kernel_rfl) ?_
      refine c_reg 12 rblock_c_R12 (by kernel_rfl) ?_
      refine at_pures 1 (by kernel_rfl) (by kernel_rfl) ?_
      refine at_do (by kernel_rfl) (op_call 85 #[(.tmp 85), (.const (.int .i64 17))] #[(.int .u32 (((wS bl t2).getD (t2 - 2 : Nat) 0).toNat : Int)), (.int .i64 17)] (by kernel_rfl) (by kernel_rfl) (by kernel_rfl) ?_)
      have C122_ := rturn_c ((wS bl t2).getD (t2 - 2 : Nat) 0) 17 w108_   (by first | omega | with_reducible assumption | (simp only [List.length_append, List.length_cons, List.length_nil, putB_length]; omega) | decide)
      refine Calls.mono C122_ ?_
      rintro e121_ w119_ ⟨rfl, F120_⟩
      refine ⟨_, rfl, ?_⟩
      have T123_ := Fr.tr T112_ F120_
      have h124_ := Rd.keep' h113_ F120_ Dis.n0
      have h125_ := Rd.keep' h114_ F120_ Dis.n0
      have h126_ := Fr.keep F120_ h115_ Dis.n0
      have h127_ := Fr.keep F120_ h116_ Dis.n0
      have h128_ := Fr.keep F120_ h117_ Dis.n0
      refine at_pures 3 (by kernel_rfl) (by kernel_rfl) ?_
      refine at_do (by kernel_rfl) (op_call 85 #[(.tmp 87), (.const (.int .i64 19))] #[(.int .u32 (((wS bl t2).getD (t2 - 2 : Nat) 0).toNat : Int)), (.int .i64 19)] (by kernel_rfl) (by kernel_rfl) (by kernel_rfl) ?_)
      have C133_ := rturn_c ((wS bl t2).getD (t2 - 2 : Nat) 0) 19 w119_   (by first | omega | with_reducible assumption | (simp only [List.length_append, List.length_cons, List.length_nil, putB_length]; omega) | decide)
      refine Calls.mono C133_ ?_
      rintro e132_ w130_ ⟨rfl, F131_⟩
      refine ⟨_, rfl, ?_⟩
      have T134_ := Fr.tr T123_ F131_
      have h135_ := Rd.keep' h124_ F131_ Dis.n0
      have h136_ := Rd.keep' h125_ F131_ Dis.n0
      have h137_ := Fr.keep F131_ h126_ Dis.n0
      have h138_ := Fr.keep F131_ h127_ Dis.n0
      have h139_ := Fr.keep F131_ h128_ Dis.n0
      refine at_pures 5 (by kernel_rfl) (by kernel_rfl) ?_
      refine at_int (kd := .u32) (IntKind.u32.wrap ((((wS bl t2).getD (t2 - 2 : Nat) 0).toNat : Int).tdiv (1024 : Int))) (((((wS bl t2).getD (t2 - 2 : Nat) 0) >>> 10).toNat : Int)) (by kernel_rfl) (by kernel_rfl) (bv_quo2 ((wS bl t2).getD (t2 - 2 : Nat) 0) _ 10 (by decide)) ?_
      refine at_do (by kernel_rfl) (op_call 84 #[(.tmp 86), (.tmp 88), (.tmp 90)] #[(.int .u32 ((turn ((wS bl t2).getD (t2 - 2 : Nat) 0) 17).toNat : Int)), (.int .u32 ((turn ((wS bl t2).getD (t2 - 2 : Nat) 0) 19).toNat : Int)), (.int .u32 ((((wS bl t2).getD (t2 - 2 : Nat) 0) >>> 10).toNat : Int))] (by kernel_rfl) (by kernel_rfl) (by kernel_rfl) ?_)
      have C144_ := xor_c (turn ((wS bl t2).getD (t2 - 2 : Nat) 0) 17) (turn ((wS bl t2).getD (t2 - 2 : Nat) 0) 19) (((wS bl t2).getD (t2 - 2 : Nat) 0) >>> 10) w130_   
      refine Calls.mono C144_ ?_
      rintro e143_ w141_ ⟨rfl, F142_⟩
      refine ⟨_, rfl, ?_⟩
      have T145_ := Fr.tr T134_ F142_
      have h146_ := Rd.keep' h135_ F142_ Dis.n0
      have h147_ := Rd.keep' h136_ F142_ Dis.n0
      have h148_ := Fr.keep F142_ h137_ Dis.n0
      have h149_ := Fr.keep F142_ h138_ Dis.n0
      have h150_ := Fr.keep F142_ h139_ Dis.n0
      refine at_pures 8 (by kernel_rfl) (by kernel_rfl) ?_
      refine at_done (by kernel_rfl) ?_
      refine then_n ?_
      refine c_plan 13 rblock_c_R13 (fun w' => w'.heap[b22_]? = some (.cells (hw (wS bl t2)) 137 (0, 0)) ∧ True) rblock_c_sk13 rblock_c_pl13 (by kernel_rfl) (by kernel_rfl) (by kernel_rfl) (by kernel_rfl) (by kernel_rfl) (fun w151_ F152_ => ?_)
      have T153_ := Fr.tr T145_ F152_
      have h155_ := Fr.keep F152_ h150_ Dis.n0
      have S154_ : w151_.heap[b22_]? = some (.cells (hw (wS bl t2)) 137 (0, 0)) ∧ True := ⟨h155_, trivial⟩
      refine pl_pures 3 (by kernel_rfl) (by kernel_rfl) (off (by kernel_rfl)) ?_
      refine pl_as 3 (.int .i64 (IntKind.i64.wrap ((t2 : Int) - (7 : Int)))) (.int .i64 ((t2 - 7 : Nat) : Int)) (by kernel_rfl) (by kernel_rfl) ⟨by kernel_rfl, by kernel_rfl⟩ (congrArg (Value.int .i64) (by rw [wrapN_i64 (by omega) (by omega)]; omega)) (off (by kernel_rfl)) ?_
      refine pl_quiet 4 (.pointer (some ⟨b22_, 0 + (t2 - 7 : Nat) * 1, none⟩)) (by kernel_rfl) (by kernel_rfl) (fun w' => run_idx_arr 137 (.tmp 5) (.tmp 95) 1 b22_ 0 64 .i64 (t2 - 7 : Nat) (by kernel_rfl) (by kernel_rfl) (by kernel_rfl) (by kernel_rfl) (by kernel_rfl) (by omega)) (off (by kernel_rfl)) ?_
      refine pl_read 5 (.int .u32 (((wS bl t2).getD (t2 - 7 : Nat) 0).toNat : Int)) (by kernel_rfl) (by kernel_rfl) (fun w' hs => run_load1 29 (.tmp 96) b22_ (0 + (t2 - 7 : Nat) * 1) _ _ _ (.int .u32 (((wS bl t2).getD (t2 - 7 : Nat) 0).toNat : Int)) (by kernel_rfl) (by kernel_rfl) (by kernel_rfl) hs.1 (hw_get (wS bl t2) (t2 - 7 : Nat) (by omega))) S154_ ?_
      refine pl_as 6 (.int .u32 (IntKind.u32.wrap ((((turn ((wS bl t2).getD (t2 - 2 : Nat) 0) 17) ^^^ (turn ((wS bl t2).getD (t2 - 2 : Nat) 0) 19) ^^^ (((wS bl t2).getD (t2 - 2 : Nat) 0) >>> 10)).toNat : Int) + (((wS bl t2).getD (t2 - 7 : Nat) 0).toNat : Int)))) (.int .u32 ((((turn ((wS bl t2).getD (t2 - 2 : Nat) 0) 17) ^^^ (turn ((wS bl t2).getD (t2 - 2 : Nat) 0) 19) ^^^ (((wS bl t2).getD (t2 - 2 : Nat) 0) >>> 10)) + ((wS bl t2).getD (t2 - 7 : Nat) 0)).toNat : Int)) (by kernel_rfl) (by kernel_rfl) ⟨by kernel_rfl, by kernel_rfl⟩ (congrArg (Value.int .u32) (bv_add ((turn ((wS bl t2).getD (t2 - 2 : Nat) 0) 17) ^^^ (turn ((wS bl t2).getD (t2 - 2 : Nat) 0) 19) ^^^ (((wS bl t2).getD (t2 - 2 : Nat) 0) >>> 10)) ((wS bl t2).getD (t2 - 7 : Nat) 0))) (off (by kernel_rfl)) ?_
      refine pl_pures 8 (by kernel_rfl) (by kernel_rfl) (fun _ => S154_) ?_
      refine pl_as 8 (.int .u32 (IntKind.u32.wrap (((((turn ((wS bl t2).getD (t2 - 2 : Nat) 0) 17) ^^^ (turn ((wS bl t2).getD (t2 - 2 : Nat) 0) 19) ^^^ (((wS bl t2).getD (t2 - 2 : Nat) 0) >>> 10)) + ((wS bl t2).getD (t2 - 7 : Nat) 0)).toNat : Int) + (((turn ((wS bl t2).getD (t2 - 15 : Nat) 0) 7) ^^^ (turn ((wS bl t2).getD (t2 - 15 : Nat) 0) 18) ^^^ (((wS bl t2).getD (t2 - 15 : Nat) 0) >>> 3)).toNat : Int)))) (.int .u32 (((((turn ((wS bl t2).getD (t2 - 2 : Nat) 0) 17) ^^^ (turn ((wS bl t2).getD (t2 - 2 : Nat) 0) 19) ^^^ (((wS bl t2).getD (t2 - 2 : Nat) 0) >>> 10)) + ((wS bl t2).getD (t2 - 7 : Nat) 0)) + ((turn ((wS bl t2).getD (t2 - 15 : Nat) 0) 7) ^^^ (turn ((wS bl t2).getD (t2 - 15 : Nat) 0) 18) ^^^ (((wS bl t2).getD (t2 - 15 : Nat) 0) >>> 3))).toNat : Int)) (by kernel_rfl) (by kernel_rfl) ⟨by kernel_rfl, by kernel_rfl⟩ (congrArg (Value.int .u32) (bv_add (((turn ((wS bl t2).getD (t2 - 2 : Nat) 0) 17) ^^^ (turn ((wS bl t2).getD (t2 - 2 : Nat) 0) 19) ^^^ (((wS bl t2).getD (t2 - 2 : Nat) 0) >>> 10)) + ((wS bl t2).getD (t2 - 7 : Nat) 0)) ((turn ((wS bl t2).getD (t2 - 15 : Nat) 0) 7) ^^^ (turn ((wS bl t2).getD (t2 - 15 : Nat) 0) 18) ^^^ (((wS bl t2).getD (t2 - 15 : Nat) 0) >>> 3)))) (off (by kernel_rfl)) ?_
      refine pl_pures 10 (by kernel_rfl) (by kernel_rfl) (fun _ => S154_) ?_
      refine pl_as 10 (.int .i64 (IntKind.i64.wrap ((t2 : Int) - (16 : Int)))) (.int .i64 ((t2 - 16 : Nat) : Int)) (by kernel_rfl) (by kernel_rfl) ⟨by kernel_rfl, by kernel_rfl⟩ (congrArg (Value.int .i64) (by rw [wrapN_i64 (by omega) (by omega)]; omega)) (fun _ => S154_) ?_
      refine pl_quiet 11 (.pointer (some ⟨b22_, 0 + (t2 - 16 : Nat) * 1, none⟩)) (by kernel_rfl) (by kernel_rfl) (fun w' => run_idx_arr 137 (.tmp 5) (.tmp 102) 1 b22_ 0 64 .i64 (t2 - 16 : Nat) (by kernel_rfl) (by kernel_rfl) (by kernel_rfl) (by kernel_rfl) (by kernel_rfl) (by omega)) (fun _ => S154_) ?_
      refine pl_read 12 (.int .u32 (((wS bl t2).getD (t2 - 16 : Nat) 0).toNat : Int)) (by kernel_rfl) (by kernel_rfl) (fun w' hs => run_load1 29 (.tmp 103) b22_ (0 + (t2 - 16 : Nat) * 1) _ _ _ (.int .u32 (((wS bl t2).getD (t2 - 16 : Nat) 0).toNat : Int)) (by kernel_rfl) (by kernel_rfl) (by kernel_rfl) hs.1 (hw_get (wS bl t2) (t2 - 16 : Nat) (by omega))) S154_ ?_
      refine pl_as 13 (.int .u32 (IntKind.u32.wrap ((((((turn ((wS bl t2).getD (t2 - 2 : Nat) 0) 17) ^^^ (turn ((wS bl t2).getD (t2 - 2 : Nat) 0) 19) ^^^ (((wS bl t2).getD (t2 - 2 : Nat) 0) >>> 10)) + ((wS bl t2).getD (t2 - 7 : Nat) 0)) + ((turn ((wS bl t2).getD (t2 - 15 : Nat) 0) 7) ^^^ (turn ((wS bl t2).getD (t2 - 15 : Nat) 0) 18) ^^^ (((wS bl t2).getD (t2 - 15 : Nat) 0) >>> 3))).toNat : Int) + (((wS bl t2).getD (t2 - 16 : Nat) 0).toNat : Int)))) (.int .u32 ((((((turn ((wS bl t2).getD (t2 - 2 : Nat) 0) 17) ^^^ (turn ((wS bl t2).getD (t2 - 2 : Nat) 0) 19) ^^^ (((wS bl t2).getD (t2 - 2 : Nat) 0) >>> 10)) + ((wS bl t2).getD (t2 - 7 : Nat) 0)) + ((turn ((wS bl t2).getD (t2 - 15 : Nat) 0) 7) ^^^ (turn ((wS bl t2).getD (t2 - 15 : Nat) 0) 18) ^^^ (((wS bl t2).getD (t2 - 15 : Nat) 0) >>> 3))) + ((wS bl t2).getD (t2 - 16 : Nat) 0)).toNat : Int)) (by kernel_rfl) (by kernel_rfl) ⟨by kernel_rfl, by kernel_rfl⟩ (congrArg (Value.int .u32) (bv_add ((((turn ((wS bl t2).getD (t2 - 2 : Nat) 0) 17) ^^^ (turn ((wS bl t2).getD (t2 - 2 : Nat) 0) 19) ^^^ (((wS bl t2).getD (t2 - 2 : Nat) 0) >>> 10)) + ((wS bl t2).getD (t2 - 7 : Nat) 0)) + ((turn ((wS bl t2).getD (t2 - 15 : Nat) 0) 7) ^^^ (turn ((wS bl t2).getD (t2 - 15 : Nat) 0) 18) ^^^ (((wS bl t2).getD (t2 - 15 : Nat) 0) >>> 3))) ((wS bl t2).getD (t2 - 16 : Nat) 0))) (off (by kernel_rfl)) ?_
      refine pl_quiet 14 (.pointer (some ⟨b22_, 0 + t2 * 1, none⟩)) (by kernel_rfl) (by kernel_rfl) (fun w' => run_idx_arr 137 (.tmp 5) (.tmp 92) 1 b22_ 0 64 .i64 t2 (by kernel_rfl) (by kernel_rfl) (by kernel_rfl) (by kernel_rfl) (by kernel_rfl) (by omega)) (off (by kernel_rfl)) ?_
      have h156_ := Rd.keep' h146_ F152_ Dis.n0
      have h157_ := Rd.keep' h147_ F152_ Dis.n0
      have h158_ := Fr.keep F152_ h148_ Dis.n0
      have h159_ := Fr.keep F152_ h149_ Dis.n0
      refine pl_do 15 (by kernel_rfl) (by kernel_rfl) (op_store1 29 (.tmp 106) (.tmp 105) b22_ (0 + t2 * 1) (.int .u32 ((((((turn ((wS bl t2).getD (t2 - 2 : Nat) 0) 17) ^^^ (turn ((wS bl t2).getD (t2 - 2 : Nat) 0) 19) ^^^ (((wS bl t2).getD (t2 - 2 : Nat) 0) >>> 10)) + ((wS bl t2).getD (t2 - 7 : Nat) 0)) + ((turn ((wS bl t2).getD (t2 - 15 : Nat) 0) 7) ^^^ (turn ((wS bl t2).getD (t2 - 15 : Nat) 0) 18) ^^^ (((wS bl t2).getD (t2 - 15 : Nat) 0) >>> 3))) + ((wS bl t2).getD (t2 - 16 : Nat) 0)).toNat : Int)) _ _ (hw (wS bl (t2 + 1))) (by kernel_rfl) (by kernel_rfl) (by kernel_rfl) (by rfl) (by rfl) h155_ (by kernel_rfl) (Nat.ble_eq_true_of_le (by show 0 + t2 * 1 + 1 ≤ 64; omega)) (by rw [hw_set (wS_length bl t2) (by omega), show wS bl (t2 + 1) = (wS bl t2).set t2 (wnx (wS bl t2) t2) from by rw [wS, if_neg (by omega)]]; rfl) (fun w160_ h161_ z162_ F163_ => ?_))
      have T164_ := Fr.then T153_ F163_ N34_
      have h165_ := Rd.keep' h156_ F163_ (Dis.sym d28_)
      have h166_ := Rd.keep' h157_ F163_ (Dis.sym d30_)
      have h167_ := Fr.keep F163_ h158_ (Dis.sym d32_)
      have h168_ := Fr.keep F163_ h159_ (Dis.sym d33_)
      refine ⟨off (by kernel_rfl), ?_⟩
      refine pl_done (by kernel_rfl) ?_
      refine blk_n ?_
      refine then_n ?_
      refine c_reg 8 rblock_c_R8 (by kernel_rfl) ?_
      refine at_pures 1 (by kernel_rfl) (by kernel_rfl) ?_
      refine at_int (kd := .i64) (IntKind.i64.wrap ((t2 : Int) + (1 : Int))) ((t2 : Int) + (1 : Int)) (by kernel_rfl) (by kernel_rfl) (wrapN_i64 (by omega) (by omega)) ?_
      refine at_pures 3 (by kernel_rfl) (by kernel_rfl) ?_
      refine at_done (by kernel_rfl) ?_
      refine then_n ?_
      exact ⟨⟨t2 + 1, is_mk (by kernel_rfl) (by kernel_rfl) (by kernel_rfl), ⟨(by omega), (by omega), h165_, h166_, h167_, h168_, h161_, T164_⟩⟩, cnt_lt (k := (t2 : Int)) (k' := ((t2 : Int) + (1 : Int))) (by kernel_rfl) (by kernel_rfl) (by omega) (by omega)⟩
    · -- no
      replace c84_ : ¬ ((t2 : Int) < (64 : Int)) := of_decide_eq_false c84_
      refine c_exit 2 (by kernel_rfl) ?_
      refine then_e ?_
      refine then_e ?_
      refine blk_hit ?_
      refine then_n ?_
      refine c_seq [1, 1, 1, 1, 0] [1, 1, 1, 1, 1] (by kernel_rfl) ?_
      refine c_plan 14 rblock_c_R14 (fun w' => w'.heap[b1_]? = some (.cells (hw8 S) 127 (0, 0)) ∧ True) rblock_c_sk14 rblock_c_pl14 (by kernel_rfl) (by kernel_rfl) (by kernel_rfl) (by kernel_rfl) (by kernel_rfl) (fun w169_ F170_ => ?_)
      have T171_ := Fr.tr hFrL80_ F170_
      have h173_ := Fr.keep F170_ q_2L80_ Dis.n0
      have S172_ : w169_.heap[b1_]? = some (.cells (hw8 S) 127 (0, 0)) ∧ True := ⟨h173_, trivial⟩
      refine pl_pures 1 (by kernel_rfl) (by kernel_rfl) (off (by kernel_rfl)) ?_
      refine pl_read 1 (.int .u32 ((S.getD 0 0).toNat : Int)) (by kernel_rfl) (by kernel_rfl) (fun w' hs => run_load1 29 (.tmp 107) b1_ 0 _ _ _ (.int .u32 ((S.getD 0 0).toNat : Int)) (by kernel_rfl) (by kernel_rfl) (by kernel_rfl) hs.1 (by kernel_rfl)) S172_ ?_
      refine pl_pures 3 (by kernel_rfl) (by kernel_rfl) (fun _ => S172_) ?_
      refine pl_read 3 (.int .u32 ((S.getD 1 0).toNat : Int)) (by kernel_rfl) (by kernel_rfl) (fun w' hs => run_load1 29 (.tmp 109) b1_ 1 _ _ _ (.int .u32 ((S.getD 1 0).toNat : Int)) (by kernel_rfl) (by kernel_rfl) (by kernel_rfl) hs.1 (by kernel_rfl)) S172_ ?_
      refine pl_pures 5 (by kernel_rfl) (by kernel_rfl) (fun _ => S172_) ?_
      refine pl_read 5 (.int .u32 ((S.getD 2 0).toNat : Int)) (by kernel_rfl) (by kernel_rfl) (fun w' hs => run_load1 29 (.tmp 111) b1_ 2 _ _ _ (.int .u32 ((S.getD 2 0).toNat : Int)) (by kernel_rfl) (by kernel_rfl) (by kernel_rfl) hs.1 (by kernel_rfl)) S172_ ?_
      refine pl_pures 7 (by kernel_rfl) (by kernel_rfl) (fun _ => S172_) ?_
      refine pl_read 7 (.int .u32 ((S.getD 3 0).toNat : Int)) (by kernel_rfl) (by kernel_rfl) (fun w' hs => run_load1 29 (.tmp 113) b1_ 3 _ _ _ (.int .u32 ((S.getD 3 0).toNat : Int)) (by kernel_rfl) (by kernel_rfl) (by kernel_rfl) hs.1 (by kernel_rfl)) S172_ ?_
      refine pl_pures 9 (by kernel_rfl) (by kernel_rfl) (fun _ => S172_) ?_
      refine pl_read 9 (.int .u32 ((S.getD 4 0).toNat : Int)) (by kernel_rfl) (by kernel_rfl) (fun w' hs => run_load1 29 (.tmp 115) b1_ 4 _ _ _ (.int .u32 ((S.getD 4 0).toNat : Int)) (by kernel_rfl) (by kernel_rfl) (by kernel_rfl) hs.1 (by kernel_rfl)) S172_ ?_
      refine pl_pures 11 (by kernel_rfl) (by kernel_rfl) (fun _ => S172_) ?_
      refine pl_read 11 (.int .u32 ((S.getD 5 0).toNat : Int)) (by kernel_rfl) (by kernel_rfl) (fun w' hs => run_load1 29 (.tmp 117) b1_ 5 _ _ _ (.int .u32 ((S.getD 5 0).toNat : Int)) (by kernel_rfl) (by kernel_rfl) (by kernel_rfl) hs.1 (by kernel_rfl)) S172_ ?_
      refine pl_pures 13 (by kernel_rfl) (by kernel_rfl) (fun _ => S172_) ?_
      refine pl_read 13 (.int .u32 ((S.getD 6 0).toNat : Int)) (by kernel_rfl) (by kernel_rfl) (fun w' hs => run_load1 29 (.tmp 119) b1_ 6 _ _ _ (.int .u32 ((S.getD 6 0).toNat : Int)) (by kernel_rfl) (by kernel_rfl) (by kernel_rfl) hs.1 (by kernel_rfl)) S172_ ?_
      refine pl_pures 15 (by kernel_rfl) (by kernel_rfl) (fun _ => S172_) ?_
      refine pl_read 15 (.int .u32 ((S.getD 7 0).toNat : Int)) (by kernel_rfl) (by kernel_rfl) (fun w' hs => run_load1 29 (.tmp 121) b1_ 7 _ _ _ (.int .u32 ((S.getD 7 0).toNat : Int)) (by kernel_rfl) (by kernel_rfl) (by kernel_rfl) hs.1 (by kernel_rfl)) S172_ ?_
      refine pl_pures 24 (by kernel_rfl) (by kernel_rfl) (fun _ => S172_) ?_
      refine pl_done (by kernel_rfl) ?_
      refine then_n ?_
      refine c_seq [1, 1, 1, 1, 1, 0] [1, 1, 1, 1, 1, 1] (by kernel_rfl) ?_
      refine c_seq [1, 1, 1, 1, 1, 0, 0] [1, 1, 1, 1, 1, 0, 1] (by kernel_rfl) ?_
      refine c_reg 15 rblock_c_R15 (by kernel_rfl) ?_
      refine at_pures 1 (by kernel_rfl) (by kernel_rfl) ?_
      refine at_done (by kernel_rfl) ?_
      refine then_n ?_
      refine c_block 4 [1, 1, 1, 1, 1, 0, 1, 0] (by kernel_rfl) ?_
      have h174_ := Rd.keep' q_0L80_ F170_ Dis.n0
      have h175_ := Rd.keep' q_1L80_ F170_ Dis.n0
      have h176_ := Fr.keep F170_ q_3L80_ Dis.n0
      have h177_ := Fr.keep F170_ q_4L80_ Dis.n0
      refine c_loop (fun a w' => ∃ (t3 : Nat), ∃ (R : List W32), (∃ u, a = mk 220 [(0, (.agg (hw8 S))), (1, (.slice ao_b bl.length cap_b)), (2, (.pointer (some ⟨b1_, 0, none⟩))), (4, (.pointer (some ⟨b10_, 0, none⟩))), (5, (.pointer (some ⟨b22_, 0, none⟩))), (6, (.int .i64 (t : Int))), (7, (.int .i64 (t2 : Int))), (12, (.int .u32 ((R.getD 0 0).toNat : Int))), (13, (.int .u32 ((R.getD 1 0).toNat : Int))), (14, (.int .u32 ((R.getD 2 0).toNat : Int))), (15, (.int .u32 ((R.getD 3 0).toNat : Int))), (16, (.int .u32 ((R.getD 4 0).toNat : Int))), (17, (.int .u32 ((R.getD 5 0).toNat : Int))), (18, (.int .u32 ((R.getD 6 0).toNat : Int))), (19, (.int .u32 ((R.getD 7 0).toNat : Int))), (20, (.int .i64 (t3 : Int))), (26, (.agg #[(.int .u32 0), (.int .u32 0), (.int .u32 0), (.int .u32 0), (.int .u32 0), (.int .u32 0), (.int .u32 0), (.int .u32 0), (.int .u32 0), (.int .u32 0), (.int .u32 0), (.int .u32 0), (.int .u32 0), (.int .u32 0), (.int .u32 0), (.int .u32 0), (.int .u32 0), (.int .u32 0), (.int .u32 0), (.int .u32 0), (.int .u32 0), (.int .u32 0), (.int .u32 0), (.int .u32 0), (.int .u32 0), (.int .u32 0), (.int .u32 0), (.int .u32 0), (.int .u32 0), (.int .u32 0), (.int .u32 0), (.int .u32 0), (.int .u32 0), (.int .u32 0), (.int .u32 0), (.int .u32 0), (.int .u32 0), (.int .u32 0), (.int .u32 0), (.int .u32 0), (.int .u32 0), (.int .u32 0), (.int .u32 0), (.int .u32 0), (.int .u32 0), (.int .u32 0), (.int .u32 0), (.int .u32 0), (.int .u32 0), (.int .u32 0), (.int .u32 0), (.int .u32 0), (.int .u32 0), (.int .u32 0), (.int .u32 0), (.int .u32 0), (.int .u32 0), (.int .u32 0), (.int .u32 0), (.int .u32 0), (.int .u32 0), (.int .u32 0), (.int .u32 0), (.int .u32 0)])), (27, (.int .i64 (t : Int))), (28, (.bool (decide ((t : Int) < (16 : Int))))), (66, (.int .i64 (t2 : Int))), (67, (.bool (decide ((t2 : Int) < (64 : Int))))), (107, (.pointer (some ⟨b1_, 0, none⟩))), (108, (.int .u32 ((S.getD 0 0).toNat : Int))), (109, (.pointer (some ⟨b1_, 1, none⟩))), (110, (.int .u32 ((S.getD 1 0).toNat : Int))), (111, (.pointer (some ⟨b1_, 2, none⟩))), (112, (.int .u32 ((S.getD 2 0).toNat : Int))), (113, (.pointer (some ⟨b1_, 3, none⟩))), (114, (.int .u32 ((S.getD 3 0).toNat : Int))), (115, (.pointer (some ⟨b1_, 4, none⟩))), (116, (.int .u32 ((S.getD 4 0).toNat : Int))), (117, (.pointer (some ⟨b1_, 5, none⟩))), (118, (.int .u32 ((S.getD 5 0).toNat : Int))), (119, (.pointer (some ⟨b1_, 6, none⟩))), (120, (.int .u32 ((S.getD 6 0).toNat : Int))), (121, (.pointer (some ⟨b1_, 7, none⟩))), (122, (.int .u32 ((S.getD 7 0).toNat : Int)))] u) ∧ (t3 ≤ 64) ∧ (R = rdN (wS bl t2) S t3) ∧ (Rd w' ao_b (B bl)) ∧ (Rd w' (some ⟨0, 0, none⟩) ((hw KL).toList)) ∧ (w'.heap[b1_]? = some (.cells (hw8 S) 127 (0, 0))) ∧ (w'.heap[b10_]? = some (.cells #[(.int .u32 0), (.int .u32 0), (.int .u32 0), (.int .u32 0), (.int .u32 0), (.int .u32 0), (.int .u32 0), (.int .u32 0)] 127 (0, 0))) ∧ (w'.heap[b22_]? = some (.cells (hw (wS bl t2)) 137 (0, 0))) ∧ (Fr w w' N0)) (fun a _ => cnt (64) 20 a) [1, 1, 1, 1, 1, 0, 1, 0, 0] (by kernel_rfl) ⟨0, S, is_mk (by kernel_rfl) (by kernel_rfl) (by kernel_rfl), ⟨Nat.zero_le _, rfl, h174_, h175_, h173_, h176_, h177_, T171_⟩⟩ ?_
      rintro a179_ w180_ ⟨t3, R, ⟨u181_, rfl⟩, ⟨hu, hR, q_0L178_, q_1L178_, q_2L178_, q_3L178_, q_4L178_, hFrL178_⟩⟩
      refine c_seq [1, 1, 1, 1, 1, 0, 1, 0, 0, 0] [1, 1, 1, 1, 1, 0, 1, 0, 0, 1] (by kernel_rfl) ?_
      refine c_seq [1, 1, 1, 1, 1, 0, 1, 0, 0, 0, 0] [1, 1, 1, 1, 1, 0, 1, 0, 0, 0, 1] (by kernel_rfl) ?_
      refine c_reg 16 rblock_c_R16 (by kernel_rfl) ?_
      refine at_pures 2 (by kernel_rfl) (by kernel_rfl) ?_
      refine at_done (by kernel_rfl) ?_
      refine then_n ?_
      refine c_if (.tmp 124) (decide ((t3 : Int) < (64 : Int))) [1, 1, 1, 1, 1, 0, 1, 0, 0, 0, 1, 0] [1, 1, 1, 1, 1, 0, 1, 0, 0, 0, 1, 1] (by kernel_rfl) (by kernel_rfl) (fun c182_ => ?_) (fun c182_ => ?_)
      · -- yes
        replace c182_ : (t3 : Int) < (64 : Int) := of_decide_eq_true c182_
        refine c_skip (by kernel_rfl) ?_
        refine then_n ?_
        refine c_seq [1, 1, 1, 1, 1, 0, 1, 0, 0, 1, 0] [1, 1, 1, 1, 1, 0, 1, 0, 0, 1, 1] (by kernel_rfl) ?_
        refine c_block 5 [1, 1, 1, 1, 1, 0, 1, 0, 0, 1, 0, 0] (by kernel_rfl) ?_
        refine c_seq [1, 1, 1, 1, 1, 0, 1, 0, 0, 1, 0, 0, 0] [1, 1, 1, 1, 1, 0, 1, 0, 0, 1, 0, 0, 1] (by kernel_rfl) ?_
        refine c_reg 18 rblock_c_R18 (by kernel_rfl) ?_
        refine at_pures 1 (by kernel_rfl) (by kernel_rfl) ?_
        refine at_do (by kernel_rfl) (op_call 85 #[(.tmp 127), (.const (.int .i64 6))] #[(.int .u32 ((R.getD 4 0).toNat : Int)), (.int .i64 6)] (by kernel_rfl) (by kernel_rfl) (by kernel_rfl) ?_)
        have C187_ := rturn_c (R.getD 4 0) 6 w180_   (by first | omega | with_reducible assumption | (simp only [List.length_append, List.length_cons, List.length_nil, putB_length]; omega) | decide)
        refine Calls.mono C187_ ?_
        rintro e186_ w184_ ⟨rfl, F185_⟩
        refine ⟨_, rfl, ?_⟩
        have T188_ := Fr.tr hFrL178_ F185_
        have h189_ := Rd.keep' q_0L178_ F185_ Dis.n0
        have h190_ := Rd.keep' q_1L178_ F185_ Dis.n0
        have h191_ := Fr.keep F185_ q_2L178_ Dis.n0
        have h192_ := Fr.keep F185_ q_3L178_ Dis.n0
        have h193_ := Fr.keep F185_ q_4L178_ Dis.n0
        refine at_pures 3 (by kernel_rfl) (by kernel_rfl) ?_
        refine at_do (by kernel_rfl) (op_call 85 #[(.tmp 129), (.const (.int .i64 11))] #[(.int .u32 ((R.getD 4 0).toNat : Int)), (.int .i64 11)] (by kernel_rfl) (by kernel_rfl) (by kernel_rfl) ?_)
        have C198_ := rturn_c (R.getD 4 0) 11 w184_   (by first | omega | with_reducible assumption | (simp only [List.length_append, List.length_cons, List.length_nil, putB_length]; omega) | decide)
        refine Calls.mono C198_ ?_
        rintro e197_ w195_ ⟨rfl, F196_⟩
        refine ⟨_, rfl, ?_⟩
        have T199_ := Fr.tr T188_ F196_
        have h200_ := Rd.keep' h189_ F196_ Dis.n0
        have h201_ := Rd.keep' h190_ F196_ Dis.n0
        have h202_ := Fr.keep F196_ h191_ Dis.n0
        have h203_ := Fr.keep F196_ h192_ Dis.n0
        have h204_ := Fr.keep F196_ h193_ Dis.n0
        refine at_pures 5 (by kernel_rfl) (by kernel_rfl) ?_
        refine at_do (by kernel_rfl) (op_call 85 #[(.tmp 131), (.const (.int .i64 25))] #[(.int .u32 ((R.getD 4 0).toNat : Int)), (.int .i64 25)] (by kernel_rfl) (by kernel_rfl) (by kernel_rfl) ?_)
        have C209_ := rturn_c (R.getD 4 0) 25 w195_   (by first | omega | with_reducible assumption | (simp only [List.length_append, List.length_cons, List.length_nil, putB_length]; omega) | decide)
        refine Calls.mono C209_ ?_
        rintro e208_ w206_ ⟨rfl, F207_⟩
        refine ⟨_, rfl, ?_⟩
        have T210_ := Fr.tr T199_ F207_
        have h211_ := Rd.keep' h200_ F207_ Dis.n0
        have h212_ := Rd.keep' h201_ F207_ Dis.n0
        have h213_ := Fr.keep F207_ h202_ Dis.n0
        have h214_ := Fr.keep F207_ h203_ Dis.n0
        have h215_ := Fr.keep F207_ h204_ Dis.n0
        refine at_do (by kernel_rfl) (op_call 84 #[(.tmp 128), (.tmp 130), (.tmp 132)] #[(.int .u32 ((turn (R.getD 4 0) 6).toNat : Int)), (.int .u32 ((turn (R.getD 4 0) 11).toNat : Int)), (.int .u32 ((turn (R.getD 4 0) 25).toNat : Int))] (by kernel_rfl) (by kernel_rfl) (by kernel_rfl) ?_)
        have C220_ := xor_c (turn (R.getD 4 0) 6) (turn (R.getD 4 0) 11) (turn (R.getD 4 0) 25) w206_   
        refine Calls.mono C220_ ?_
        rintro e219_ w217_ ⟨rfl, F218_⟩
        refine ⟨_, rfl, ?_⟩
        have T221_ := Fr.tr T210_ F218_
        have h222_ := Rd.keep' h211_ F218_ Dis.n0
        have h223_ := Rd.keep' h212_ F218_ Dis.n0
        have h224_ := Fr.keep F218_ h213_ Dis.n0
        have h225_ := Fr.keep F218_ h214_ Dis.n0
        have h226_ := Fr.keep F218_ h215_ Dis.n0
        refine at_pures 8 (by kernel_rfl) (by kernel_rfl) ?_
        refine at_done (by kernel_rfl) ?_
        refine then_n ?_
        refine c_seq [1, 1, 1, 1, 1, 0, 1, 0, 0, 1, 0, 0, 1, 0] [1, 1, 1, 1, 1, 0, 1, 0, 0, 1, 0, 0, 1, 1] (by kernel_rfl) ?_
        refine c_reg 19 rblock_c_R19 (by kernel_rfl) ?_
        refine at_pures 2 (by kernel_rfl) (by kernel_rfl) ?_
        refine at_int (kd := .u32) (IntKind.u32.wrap (((BitVec.ofInt 32 ((R.getD 4 0).toNat : Int) &&& BitVec.ofInt 32 ((R.getD 5 0).toNat : Int)).toNat : Int))) ((((R.getD 4 0) &&& (R.getD 5 0)).toNat : Int)) (by kernel_rfl) (by kernel_rfl) (bv_and (R.getD 4 0) (R.getD 5 0)) ?_
        refine at_pures 4 (by kernel_rfl) (by kernel_rfl) ?_
        refine at_int (kd := .u32) (IntKind.u32.wrap ((4294967295 : Int) - ((R.getD 4 0).toNat : Int))) ((((4294967295#32) - (R.getD 4 0)).toNat : Int)) (by kernel_rfl) (by kernel_rfl) (bv_sub (4294967295#32) (R.getD 4 0)) ?_
        refine at_pures 6 (by kernel_rfl) (by kernel_rfl) ?_
        refine at_int (kd := .u32) (IntKind.u32.wrap (((BitVec.ofInt 32 (((4294967295#32) - (R.getD 4 0)).toNat : Int) &&& BitVec.ofInt 32 ((R.getD 6 0).toNat : Int)).toNat : Int))) (((((4294967295#32) - (R.getD 4 0)) &&& (R.getD 6 0)).toNat : Int)) (by kernel_rfl) (by kernel_rfl) (bv_and ((4294967295#32) - (R.getD 4 0)) (R.getD 6 0)) ?_
        refine at_int (kd := .u32) (IntKind.u32.wrap ((((R.getD 4 0) &&& (R.getD 5 0)).toNat : Int) + ((((4294967295#32) - (R.getD 4 0)) &&& (R.getD 6 0)).toNat : Int))) (((chs R).toNat : Int)) (by kernel_rfl) (by kernel_rfl) (ch_pf R) ?_
        refine at_pures 9 (by kernel_rfl) (by kernel_rfl) ?_
        refine at_done (by kernel_rfl) ?_
        refine then_n ?_
        refine c_seq [1, 1, 1, 1, 1, 0, 1, 0, 0, 1, 0, 0, 1, 1, 0] [1, 1, 1, 1, 1, 0, 1, 0, 0, 1, 0, 0, 1, 1, 1] (by kernel_rfl) ?_
        refine c_plan 20 rblock_c_R20 (fun w' => Rd w' (some ⟨0, 0, none⟩) ((hw KL).toList) ∧ w'.heap[b22_]? = some (.cells (hw (wS bl t2)) 137 (0, 0)) ∧ True) rblock_c_sk20 rblock_c_pl20 (by kernel_rfl) (by kernel_rfl) (by kernel_rfl) (by kernel_rfl) (by kernel_rfl) (fun w227_ F228_ => ?_)
        have T229_ := Fr.tr T221_ F228_
        have h231_ := Rd.keep' h223_ F228_ Dis.n0
        have h232_ := Fr.keep F228_ h226_ Dis.n0
        have S230_ : Rd w227_ (some ⟨0, 0, none⟩) ((hw KL).toList) ∧ w227_.heap[b22_]? = some (.cells (hw (wS bl t2)) 137 (0, 0)) ∧ True := ⟨h231_, h232_, trivial⟩
        refine pl_pures 2 (by kernel_rfl) (by kernel_rfl) (off (by kernel_rfl)) ?_
        refine pl_as 2 (.int .u32 (IntKind.u32.wrap (((R.getD 7 0).toNat : Int) + (((turn (R.getD 4 0) 6) ^^^ (turn (R.getD 4 0) 11) ^^^ (turn (R.getD 4 0) 25)).toNat : Int)))) (.int .u32 (((R.getD 7 0) + ((turn (R.getD 4 0) 6) ^^^ (turn (R.getD 4 0) 11) ^^^ (turn (R.getD 4 0) 25))).toNat : Int)) (by kernel_rfl) (by kernel_rfl) ⟨by kernel_rfl, by kernel_rfl⟩ (congrArg (Value.int .u32) (bv_add (R.getD 7 0) ((turn (R.getD 4 0) 6) ^^^ (turn (R.getD 4 0) 11) ^^^ (turn (R.getD 4 0) 25)))) (off (by kernel_rfl)) ?_
        refine pl_pures 4 (by kernel_rfl) (by kernel_rfl) (off (by kernel_rfl)) ?_
        refine pl_as 4 (.int .u32 (IntKind.u32.wrap ((((R.getD 7 0) + ((turn (R.getD 4 0) 6) ^^^ (turn (R.getD 4 0) 11) ^^^ (turn (R.getD 4 0) 25))).toNat : Int) + ((chs R).toNat : Int)))) (.int .u32 ((((R.getD 7 0) + ((turn (R.getD 4 0) 6) ^^^ (turn (R.getD 4 0) 11) ^^^ (turn (R.getD 4 0) 25))) + (chs R)).toNat : Int)) (by kernel_rfl) (by kernel_rfl) ⟨by kernel_rfl, by kernel_rfl⟩ (congrArg (Value.int .u32) (bv_add ((R.getD 7 0) + ((turn (R.getD 4 0) 6) ^^^ (turn (R.getD 4 0) 11) ^^^ (turn (R.getD 4 0) 25))) (chs R))) (off (by kernel_rfl)) ?_
        refine pl_pures 6 (by kernel_rfl) (by kernel_rfl) (off (by kernel_rfl)) ?_
        refine pl_quiet 6 (.pointer (some ⟨0, 0 + t3 * 1, none⟩)) (by kernel_rfl) (by kernel_rfl) (fun w' => run_idx_arr 137 (.global 0) (.tmp 147) 1 0 0 64 .i64 t3 (by kernel_rfl) (by kernel_rfl) (by kernel_rfl) (by kernel_rfl) (by kernel_rfl) (by omega)) (off (by kernel_rfl)) ?_
        refine pl_read 7 (.int .u32 ((KL.getD t3 0).toNat : Int)) (by kernel_rfl) (by kernel_rfl) (fun w' hs => run_loadG 29 (.tmp 148) 0 t3 ((hw KL).toList) (.int .u32 ((KL.getD t3 0).toNat : Int)) (by kernel_rfl) (by kernel_rfl) (by kernel_rfl) hs.1 (KL_get _ (by omega))) S230_ ?_
        refine pl_as 8 (.int .u32 (IntKind.u32.wrap (((((R.getD 7 0) + ((turn (R.getD 4 0) 6) ^^^ (turn (R.getD 4 0) 11) ^^^ (turn (R.getD 4 0) 25))) + (chs R)).toNat : Int) + ((KL.getD t3 0).toNat : Int)))) (.int .u32 (((((R.getD 7 0) + ((turn (R.getD 4 0) 6) ^^^ (turn (R.getD 4 0) 11) ^^^ (turn (R.getD 4 0) 25))) + (chs R)) + (KL.getD t3 0)).toNat : Int)) (by kernel_rfl) (by kernel_rfl) ⟨by kernel_rfl, by kernel_rfl⟩ (congrArg (Value.int .u32) (bv_add (((R.getD 7 0) + ((turn (R.getD 4 0) 6) ^^^ (turn (R.getD 4 0) 11) ^^^ (turn (R.getD 4 0) 25))) + (chs R)) (KL.getD t3 0))) (off (by kernel_rfl)) ?_
        refine pl_pures 10 (by kernel_rfl) (by kernel_rfl) (fun _ => S230_) ?_
        refine pl_quiet 10 (.pointer (some ⟨b22_, 0 + t3 * 1, none⟩)) (by kernel_rfl) (by kernel_rfl) (fun w' => run_idx_arr 137 (.tmp 5) (.tmp 151) 1 b22_ 0 64 .i64 t3 (by kernel_rfl) (by kernel_rfl) (by kernel_rfl) (by kernel_rfl) (by kernel_rfl) (by omega)) (fun _ => S230_) ?_
        refine pl_read 11 (.int .u32 (((wS bl t2).getD t3 0).toNat : Int)) (by kernel_rfl) (by kernel_rfl) (fun w' hs => run_load1 29 (.tmp 152) b22_ (0 + t3 * 1) _ _ _ (.int .u32 (((wS bl t2).getD t3 0).toNat : Int)) (by kernel_rfl) (by kernel_rfl) (by kernel_rfl) hs.2.1 (hw_get (wS bl t2) t3 (by omega))) S230_ ?_
        refine pl_as 12 (.int .u32 (IntKind.u32.wrap ((((((R.getD 7 0) + ((turn (R.getD 4 0) 6) ^^^ (turn (R.getD 4 0) 11) ^^^ (turn (R.getD 4 0) 25))) + (chs R)) + (KL.getD t3 0)).toNat : Int) + (((wS bl t2).getD t3 0).toNat : Int)))) (.int .u32 ((((((R.getD 7 0) + ((turn (R.getD 4 0) 6) ^^^ (turn (R.getD 4 0) 11) ^^^ (turn (R.getD 4 0) 25))) + (chs R)) + (KL.getD t3 0)) + ((wS bl t2).getD t3 0)).toNat : Int)) (by kernel_rfl) (by kernel_rfl) ⟨by kernel_rfl, by kernel_rfl⟩ (congrArg (Value.int .u32) (bv_add ((((R.getD 7 0) + ((turn (R.getD 4 0) 6) ^^^ (turn (R.getD 4 0) 11) ^^^ (turn (R.getD 4 0) 25))) + (chs R)) + (KL.getD t3 0)) ((wS bl t2).getD t3 0))) (off (by kernel_rfl)) ?_
        refine pl_pures 14 (by kernel_rfl) (by kernel_rfl) (off (by kernel_rfl)) ?_
        refine pl_done (by kernel_rfl) ?_
        refine then_n ?_
        refine c_seq [1, 1, 1, 1, 1, 0, 1, 0, 0, 1, 0, 0, 1, 1, 1, 0] [1, 1, 1, 1, 1, 0, 1, 0, 0, 1, 0, 0, 1, 1, 1, 1] (by kernel_rfl) ?_
        refine c_reg 21 rblock_c_R21 (by kernel_rfl) ?_
        refine at_pures 1 (by kernel_rfl) (by kernel_rfl) ?_
        have h233_ := Rd.keep' h222_ F228_ Dis.n0
        have h234_ := Fr.keep F228_ h224_ Dis.n0
        have h235_ := Fr.keep F228_ h225_ Dis.n0
        refine at_do (by kernel_rfl) (op_call 85 #[(.tmp 155), (.const (.int .i64 2))] #[(.int .u32 ((R.getD 0 0).toNat : Int)), (.int .i64 2)] (by kernel_rfl) (by kernel_rfl) (by kernel_rfl) ?_)
        have C240_ := rturn_c (R.getD 0 0) 2 w227_   (by first | omega | with_reducible assumption | (simp only [List.length_append, List.length_cons, List.length_nil, putB_length]; omega) | decide)
        refine Calls.mono C240_ ?_
        rintro e239_ w237_ ⟨rfl, F238_⟩
        refine ⟨_, rfl, ?_⟩
        have T241_ := Fr.tr T229_ F238_
        have h242_ := Rd.keep' h233_ F238_ Dis.n0
        have h243_ := Rd.keep' h231_ F238_ Dis.n0
        have h244_ := Fr.keep F238_ h234_ Dis.n0
        have h245_ := Fr.keep F238_ h235_ Dis.n0
        have h246_ := Fr.keep F238_ h232_ Dis.n0
        refine at_pures 3 (by kernel_rfl) (by kernel_rfl) ?_
        refine at_do (by kernel_rfl) (op_call 85 #[(.tmp 157), (.const (.int .i64 13))] #[(.int .u32 ((R.getD 0 0).toNat : Int)), (.int .i64 13)] (by kernel_rfl) (by kernel_rfl) (by kernel_rfl) ?_)
        have C251_ := rturn_c (R.getD 0 0) 13 w237_   (by first | omega | with_reducible assumption | (simp only [List.length_append, List.length_cons, List.length_nil, putB_length]; omega) | decide)
        refine Calls.mono C251_ ?_
        rintro e250_ w248_ ⟨rfl, F249_⟩
        refine ⟨_, rfl, ?_⟩
        have T252_ := Fr.tr T241_ F249_
        have h253_ := Rd.keep' h242_ F249_ Dis.n0
        have h254_ := Rd.keep' h243_ F249_ Dis.n0
        have h255_ := Fr.keep F249_ h244_ Dis.n0
        have h256_ := Fr.keep F249_ h245_ Dis.n0
        have h257_ := Fr.keep F249_ h246_ Dis.n0
        refine at_pures 5 (by kernel_rfl) (by kernel_rfl) ?_
        refine at_do (by kernel_rfl) (op_call 85 #[(.tmp 159), (.const (.int .i64 22))] #[(.int .u32 ((R.getD 0 0).toNat : Int)), (.int .i64 22)] (by kernel_rfl) (by kernel_rfl) (by kernel_rfl) ?_)
        have C262_ := rturn_c (R.getD 0 0) 22 w248_   (by first | omega | with_reducible assumption | (simp only [List.length_append, List.length_cons, List.length_nil, putB_length]; omega) | decide)
        refine Calls.mono C262_ ?_
        rintro e261_ w259_ ⟨rfl, F260_⟩
        refine ⟨_, rfl, ?_⟩
        have T263_ := Fr.tr T252_ F260_
        have h264_ := Rd.keep' h253_ F260_ Dis.n0
        have h265_ := Rd.keep' h254_ F260_ Dis.n0
        have h266_ := Fr.keep F260_ h255_ Dis.n0
        have h267_ := Fr.keep F260_ h256_ Dis.n0
        have h268_ := Fr.keep F260_ h257_ Dis.n0
        refine at_do (by kernel_rfl) (op_call 84 #[(.tmp 156), (.tmp 158), (.tmp 160)] #[(.int .u32 ((turn (R.getD 0 0) 2).toNat : Int)), (.int .u32 ((turn (R.getD 0 0) 13).toNat : Int)), (.int .u32 ((turn (R.getD 0 0) 22).toNat : Int))] (by kernel_rfl) (by kernel_rfl) (by kernel_rfl) ?_)
        have C273_ := xor_c (turn (R.getD 0 0) 2) (turn (R.getD 0 0) 13) (turn (R.getD 0 0) 22) w259_   
        refine Calls.mono C273_ ?_
        rintro e272_ w270_ ⟨rfl, F271_⟩
        refine ⟨_, rfl, ?_⟩
        have T274_ := Fr.tr T263_ F271_
        have h275_ := Rd.keep' h264_ F271_ Dis.n0
        have h276_ := Rd.keep' h265_ F271_ Dis.n0
        have h277_ := Fr.keep F271_ h266_ Dis.n0
        have h278_ := Fr.keep F271_ h267_ Dis.n0
        have h279_ := Fr.keep F271_ h268_ Dis.n0
        refine at_pures 8 (by kernel_rfl) (by kernel_rfl) ?_
        refine at_done (by kernel_rfl) ?_
        refine then_n ?_
        refine c_seq [1, 1, 1, 1, 1, 0, 1, 0, 0, 1, 0, 0, 1, 1, 1, 1, 0] [1, 1, 1, 1, 1, 0, 1, 0, 0, 1, 0, 0, 1, 1, 1, 1, 1] (by kernel_rfl) ?_
        refine c_reg 22 rblock_c_R22 (by kernel_rfl) ?_
        refine at_pures 2 (by kernel_rfl) (by kernel_rfl) ?_
        refine at_int (kd := .u32) (IntKind.u32.wrap (((BitVec.ofInt 32 ((R.getD 0 0).toNat : Int) &&& BitVec.ofInt 32 ((R.getD 1 0).toNat : Int)).toNat : Int))) ((((R.getD 0 0) &&& (R.getD 1 0)).toNat : Int)) (by kernel_rfl) (by kernel_rfl) (bv_and (R.getD 0 0) (R.getD 1 0)) ?_
        refine at_pures 5 (by kernel_rfl) (by kernel_rfl) ?_
        refine at_int (kd := .u32) (IntKind.u32.wrap (((BitVec.ofInt 32 ((R.getD 0 0).toNat : Int) &&& BitVec.ofInt 32 ((R.getD 2 0).toNat : Int)).toNat : Int))) ((((R.getD 0 0) &&& (R.getD 2 0)).toNat : Int)) (by kernel_rfl) (by kernel_rfl) (bv_and (R.getD 0 0) (R.getD 2 0)) ?_
        refine at_int (kd := .u32) (IntKind.u32.wrap (((BitVec.ofInt 32 (((R.getD 0 0) &&& (R.getD 1 0)).toNat : Int) ||| BitVec.ofInt 32 (((R.getD 0 0) &&& (R.getD 2 0)).toNat : Int)).toNat : Int))) (((((R.getD 0 0) &&& (R.getD 1 0)) ||| ((R.getD 0 0) &&& (R.getD 2 0))).toNat : Int)) (by kernel_rfl) (by kernel_rfl) (bv_or ((R.getD 0 0) &&& (R.getD 1 0)) ((R.getD 0 0) &&& (R.getD 2 0))) ?_
        refine at_pures 9 (by kernel_rfl) (by kernel_rfl) ?_
        refine at_int (kd := .u32) (IntKind.u32.wrap (((BitVec.ofInt 32 ((R.getD 1 0).toNat : Int) &&& BitVec.ofInt 32 ((R.getD 2 0).toNat : Int)).toNat : Int))) ((((R.getD 1 0) &&& (R.getD 2 0)).toNat : Int)) (by kernel_rfl) (by kernel_rfl) (bv_and (R.getD 1 0) (R.getD 2 0)) ?_
        refine at_int (kd := .u32) (IntKind.u32.wrap (((BitVec.ofInt 32 ((((R.getD 0 0) &&& (R.getD 1 0)) ||| ((R.getD 0 0) &&& (R.getD 2 0))).toNat : Int) ||| BitVec.ofInt 32 (((R.getD 1 0) &&& (R.getD 2 0)).toNat : Int)).toNat : Int))) (((maj R).toNat : Int)) (by kernel_rfl) (by kernel_rfl) (maj_pf R) ?_
        refine at_pures 12 (by kernel_rfl) (by kernel_rfl) ?_
        refine at_done (by kernel_rfl) ?_
        refine then_n ?_
        refine c_seq [1, 1, 1, 1, 1, 0, 1, 0, 0, 1, 0, 0, 1, 1, 1, 1, 1, 0] [1, 1, 1, 1, 1, 0, 1, 0, 0, 1, 0, 0, 1, 1, 1, 1, 1, 1] (by kernel_rfl) ?_
        refine c_reg 23 rblock_c_R23 (by kernel_rfl) ?_
        refine at_pures 2 (by kernel_rfl) (by kernel_rfl) ?_
        refine at_done (by kernel_rfl) ?_
        refine then_n ?_
        refine c_seq [1, 1, 1, 1, 1, 0, 1, 0, 0, 1, 0, 0, 1, 1, 1, 1, 1, 1, 0] [1, 1, 1, 1, 1, 0, 1, 0, 0, 1, 0, 0, 1, 1, 1, 1, 1, 1, 1] (by kernel_rfl) ?_
        refine c_reg 24 rblock_c_R24 (by kernel_rfl) ?_
        refine at_pures 2 (by kernel_rfl) (by kernel_rfl) ?_
        refine at_done (by kernel_rfl) ?_
        refine then_n ?_
        refine c_seq [1, 1, 1, 1, 1, 0, 1, 0, 0, 1, 0, 0, 1, 1, 1, 1, 1, 1, 1, 0] [1, 1, 1, 1, 1, 0, 1, 0, 0, 1, 0, 0, 1, 1, 1, 1, 1, 1, 1, 1] (by kernel_rfl) ?_
        refine c_reg 25 rblock_c_R25 (by kernel_rfl) ?_
        refine at_pures 2 (by kernel_rfl) (by kernel_rfl) ?_
        refine at_done (by kernel_rfl) ?_
        refine then_n ?_
        refine c_seq [1, 1, 1, 1, 1, 0, 1, 0, 0, 1, 0, 0, 1, 1, 1, 1, 1, 1, 1, 1, 0] [1, 1, 1, 1, 1, 0, 1, 0, 0, 1, 0, 0, 1, 1, 1, 1, 1, 1, 1, 1, 1] (by kernel_rfl) ?_
        refine c_reg 26 rblock_c_R26 (by kernel_rfl) ?_
        refine at_pures 2 (by kernel_rfl) (by kernel_rfl) ?_
        refine at_int (kd := .u32) (IntKind.u32.wrap (((R.getD 3 0).toNat : Int) + ((((((R.getD 7 0) + ((turn (R.getD 4 0) 6) ^^^ (turn (R.getD 4 0) 11) ^^^ (turn (R.getD 4 0) 25))) + (chs R)) + (KL.getD t3 0)) + ((wS bl t2).getD t3 0)).toNat : Int))) ((((R.getD 3 0) + (((((R.getD 7 0) + ((turn (R.getD 4 0) 6) ^^^ (turn (R.getD 4 0) 11) ^^^ (turn (R.getD 4 0) 25))) + (chs R)) + (KL.getD t3 0)) + ((wS bl t2).getD t3 0))).toNat : Int)) (by kernel_rfl) (by kernel_rfl) (bv_add (R.getD 3 0) (((((R.getD 7 0) + ((turn (R.getD 4 0) 6) ^^^ (turn (R.getD 4 0) 11) ^^^ (turn (R.getD 4 0) 25))) + (chs R)) + (KL.getD t3 0)) + ((wS bl t2).getD t3 0))) ?_
        refine at_pures 4 (by kernel_rfl) (by kernel_rfl) ?_
        refine at_done (by kernel_rfl) ?_
        refine then_n ?_
        refine c_seq [1, 1, 1, 1, 1, 0, 1, 0, 0, 1, 0, 0, 1, 1, 1, 1, 1, 1, 1, 1, 1, 0] [1, 1, 1, 1, 1, 0, 1, 0, 0, 1, 0, 0, 1, 1, 1, 1, 1, 1, 1, 1, 1, 1] (by kernel_rfl) ?_
        refine c_reg 27 rblock_c_R27 (by kernel_rfl) ?_
        refine at_pures 2 (by kernel_rfl) (by kernel_rfl) ?_
        refine at_done (by kernel_rfl) ?_
        refine then_n ?_
        refine c_seq [1, 1, 1, 1, 1, 0, 1, 0, 0, 1, 0, 0, 1, 1, 1, 1, 1, 1, 1, 1, 1, 1, 0] [1, 1, 1, 1, 1, 0, 1, 0, 0, 1, 0, 0, 1, 1, 1, 1, 1, 1, 1, 1, 1, 1, 1] (by kernel_rfl) ?_
        refine c_reg 28 rblock_c_R28 (by kernel_rfl) ?_
        refine at_pures 2 (by kernel_rfl) (by kernel_rfl) ?_
        refine at_done (by kernel_rfl) ?_
        refine then_n ?_
        refine c_seq [1, 1, 1, 1, 1, 0, 1, 0, 0, 1, 0, 0, 1, 1, 1, 1, 1, 1, 1, 1, 1, 1, 1, 0] [1, 1, 1, 1, 1, 0, 1, 0, 0, 1, 0, 0, 1, 1, 1, 1, 1, 1, 1, 1, 1, 1, 1, 1] (by kernel_rfl) ?_
        refine c_reg 29 rblock_c_R29 (by kernel_rfl) ?_
        refine at_pures 2 (by kernel_rfl) (by kernel_rfl) ?_
        refine at_done (by kernel_rfl) ?_
        refine then_n ?_
        refine c_reg 30 rblock_c_R30 (by kernel_rfl) ?_
        refine at_pures 2 (by kernel_rfl) (by kernel_rfl) ?_
        refine at_int (kd := .u32) (IntKind.u32.wrap (((((((R.getD 7 0) + ((turn (R.getD 4 0) 6) ^^^ (turn (R.getD 4 0) 11) ^^^ (turn (R.getD 4 0) 25))) + (chs R)) + (KL.getD t3 0)) + ((wS bl t2).getD t3 0)).toNat : Int) + (((turn (R.getD 0 0) 2) ^^^ (turn (R.getD 0 0) 13) ^^^ (turn (R.getD 0 0) 22)).toNat : Int))) ((((((((R.getD 7 0) + ((turn (R.getD 4 0) 6) ^^^ (turn (R.getD 4 0) 11) ^^^ (turn (R.getD 4 0) 25))) + (chs R)) + (KL.getD t3 0)) + ((wS bl t2).getD t3 0)) + ((turn (R.getD 0 0) 2) ^^^ (turn (R.getD 0 0) 13) ^^^ (turn (R.getD 0 0) 22))).toNat : Int)) (by kernel_rfl) (by kernel_rfl) (bv_add (((((R.getD 7 0) + ((turn (R.getD 4 0) 6) ^^^ (turn (R.getD 4 0) 11) ^^^ (turn (R.getD 4 0) 25))) + (chs R)) + (KL.getD t3 0)) + ((wS bl t2).getD t3 0)) ((turn (R.getD 0 0) 2) ^^^ (turn (R.getD 0 0) 13) ^^^ (turn (R.getD 0 0) 22))) ?_
        refine at_pures 4 (by kernel_rfl) (by kernel_rfl) ?_
        refine at_int (kd := .u32) (IntKind.u32.wrap ((((((((R.getD 7 0) + ((turn (R.getD 4 0) 6) ^^^ (turn (R.getD 4 0) 11) ^^^ (turn (R.getD 4 0) 25))) + (chs R)) + (KL.getD t3 0)) + ((wS bl t2).getD t3 0)) + ((turn (R.getD 0 0) 2) ^^^ (turn (R.getD 0 0) 13) ^^^ (turn (R.getD 0 0) 22))).toNat : Int) + ((maj R).toNat : Int))) ((((((((R.getD 7 0) + ((turn (R.getD 4 0) 6) ^^^ (turn (R.getD 4 0) 11) ^^^ (turn (R.getD 4 0) 25))) + (chs R)) + (KL.getD t3 0)) + ((wS bl t2).getD t3 0)) + (((turn (R.getD 0 0) 2) ^^^ (turn (R.getD 0 0) 13) ^^^ (turn (R.getD 0 0) 22)) + (maj R))).toNat : Int)) (by kernel_rfl) (by kernel_rfl) (bv_add3 (((((R.getD 7 0) + ((turn (R.getD 4 0) 6) ^^^ (turn (R.getD 4 0) 11) ^^^ (turn (R.getD 4 0) 25))) + (chs R)) + (KL.getD t3 0)) + ((wS bl t2).getD t3 0)) ((turn (R.getD 0 0) 2) ^^^ (turn (R.getD 0 0) 13) ^^^ (turn (R.getD 0 0) 22)) (maj R)) ?_
        refine at_pures 6 (by kernel_rfl) (by kernel_rfl) ?_
        refine at_done (by kernel_rfl) ?_
        refine blk_n ?_
        refine then_n ?_
        refine c_reg 17 rblock_c_R17 (by kernel_rfl) ?_
        refine at_pures 1 (by kernel_rfl) (by kernel_rfl) ?_
        refine at_int (kd := .i64) (IntKind.i64.wrap ((t3 : Int) + (1 : Int))) ((t3 : Int) + (1 : Int)) (by kernel_rfl) (by kernel_rfl) (wrapN_i64 (by omega) (by omega)) ?_
        refine at_pures 3 (by kernel_rfl) (by kernel_rfl) ?_
        refine at_done (by kernel_rfl) ?_
        refine then_n ?_
        exact ⟨⟨t3 + 1, (rd1 (wS bl t2) R t3), is_mk (by kernel_rfl) (by kernel_rfl) (by kernel_rfl), ⟨(by omega), (by rw [hR]; rfl), h275_, h276_, h277_, h278_, h279_, T274_⟩⟩, cnt_lt (k := (t3 : Int)) (k' := ((t3 : Int) + (1 : Int))) (by kernel_rfl) (by kernel_rfl) (by omega) (by omega)⟩
      · -- no
        replace c182_ : ¬ ((t3 : Int) < (64 : Int)) := of_decide_eq_false c182_
        refine c_exit 4 (by kernel_rfl) ?_
        refine then_e ?_
        refine then_e ?_
        refine blk_hit ?_
        refine then_n ?_
        refine c_seq [1, 1, 1, 1, 1, 1, 0] [1, 1, 1, 1, 1, 1, 1] (by kernel_rfl) ?_
        refine c_reg 31 rblock_c_R31 (by kernel_rfl) ?_
        refine at_pures 1 (by kernel_rfl) (by kernel_rfl) ?_
        refine at_load1 29 (.tmp 187) b1_ 0 _ _ _ (.int .u32 ((S.getD 0 0).toNat : Int)) (by kernel_rfl) (by kernel_rfl) (by kernel_rfl) (by kernel_rfl) q_2L178_ (by kernel_rfl) ?_
        refine at_pures 3 (by kernel_rfl) (by kernel_rfl) ?_
        refine at_int (kd := .u32) (IntKind.u32.wrap (((S.getD 0 0).toNat : Int) + ((R.getD 0 0).toNat : Int))) ((((S.getD 0 0) + (R.getD 0 0)).toNat : Int)) (by kernel_rfl) (by kernel_rfl) (bv_add (S.getD 0 0) (R.getD 0 0)) ?_
        refine at_pures 5 (by kernel_rfl) (by kernel_rfl) ?_
        refine at_load1 29 (.tmp 191) b1_ 1 _ _ _ (.int .u32 ((S.getD 1 0).toNat : Int)) (by kernel_rfl) (by kernel_rfl) (by kernel_rfl) (by kernel_rfl) q_2L178_ (by kernel_rfl) ?_
        refine at_pures 7 (by kernel_rfl) (by kernel_rfl) ?_
        refine at_int (kd := .u32) (IntKind.u32.wrap (((S.getD 1 0).toNat : Int) + ((R.getD 1 0).toNat : Int))) ((((S.getD 1 0) + (R.getD 1 0)).toNat : Int)) (by kernel_rfl) (by kernel_rfl) (bv_add (S.getD 1 0) (R.getD 1 0)) ?_
        refine at_pures 9 (by kernel_rfl) (by kernel_rfl) ?_
        refine at_load1 29 (.tmp 195) b1_ 2 _ _ _ (.int .u32 ((S.getD 2 0).toNat : Int)) (by kernel_rfl) (by kernel_rfl) (by kernel_rfl) (by kernel_rfl) q_2L178_ (by kernel_rfl) ?_
        refine at_pures 11 (by kernel_rfl) (by kernel_rfl) ?_
        refine at_int (kd := .u32) (IntKind.u32.wrap (((S.getD 2 0).toNat : Int) + ((R.getD 2 0).toNat : Int))) ((((S.getD 2 0) + (R.getD 2 0)).toNat : Int)) (by kernel_rfl) (by kernel_rfl) (bv_add (S.getD 2 0) (R.getD 2 0)) ?_
        refine at_pures 13 (by kernel_rfl) (by kernel_rfl) ?_
        refine at_load1 29 (.tmp 199) b1_ 3 _ _ _ (.int .u32 ((S.getD 3 0).toNat : Int)) (by kernel_rfl) (by kernel_rfl) (by kernel_rfl) (by kernel_rfl) q_2L178_ (by kernel_rfl) ?_
        refine at_pures 15 (by kernel_rfl) (by kernel_rfl) ?_
        refine at_int (kd := .u32) (IntKind.u32.wrap (((S.getD 3 0).toNat : Int) + ((R.getD 3 0).toNat : Int))) ((((S.getD 3 0) + (R.getD 3 0)).toNat : Int)) (by kernel_rfl) (by kernel_rfl) (bv_add (S.getD 3 0) (R.getD 3 0)) ?_
        refine at_pures 17 (by kernel_rfl) (by kernel_rfl) ?_
        refine at_load1 29 (.tmp 203) b1_ 4 _ _ _ (.int .u32 ((S.getD 4 0).toNat : Int)) (by kernel_rfl) (by kernel_rfl) (by kernel_rfl) (by kernel_rfl) q_2L178_ (by kernel_rfl) ?_
        refine at_pures 19 (by kernel_rfl) (by kernel_rfl) ?_
        refine at_int (kd := .u32) (IntKind.u32.wrap (((S.getD 4 0).toNat : Int) + ((R.getD 4 0).toNat : Int))) ((((S.getD 4 0) + (R.getD 4 0)).toNat : Int)) (by kernel_rfl) (by kernel_rfl) (bv_add (S.getD 4 0) (R.getD 4 0)) ?_
        refine at_pures 21 (by kernel_rfl) (by kernel_rfl) ?_
        refine at_load1 29 (.tmp 207) b1_ 5 _ _ _ (.int .u32 ((S.getD 5 0).toNat : Int)) (by kernel_rfl) (by kernel_rfl) (by kernel_rfl) (by kernel_rfl) q_2L178_ (by kernel_rfl) ?_
        refine at_pures 23 (by kernel_rfl) (by kernel_rfl) ?_
        refine at_int (kd := .u32) (IntKind.u32.wrap (((S.getD 5 0).toNat : Int) + ((R.getD 5 0).toNat : Int))) ((((S.getD 5 0) + (R.getD 5 0)).toNat : Int)) (by kernel_rfl) (by kernel_rfl) (bv_add (S.getD 5 0) (R.getD 5 0)) ?_
        refine at_pures 25 (by kernel_rfl) (by kernel_rfl) ?_
        refine at_load1 29 (.tmp 211) b1_ 6 _ _ _ (.int .u32 ((S.getD 6 0).toNat : Int)) (by kernel_rfl) (by kernel_rfl) (by kernel_rfl) (by kernel_rfl) q_2L178_ (by kernel_rfl) ?_
        refine at_pures 27 (by kernel_rfl) (by kernel_rfl) ?_
        refine at_int (kd := .u32) (IntKind.u32.wrap (((S.getD 6 0).toNat : Int) + ((R.getD 6 0).toNat : Int))) ((((S.getD 6 0) + (R.getD 6 0)).toNat : Int)) (by kernel_rfl) (by kernel_rfl) (bv_add (S.getD 6 0) (R.getD 6 0)) ?_
        refine at_pures 29 (by kernel_rfl) (by kernel_rfl) ?_
        refine at_load1 29 (.tmp 215) b1_ 7 _ _ _ (.int .u32 ((S.getD 7 0).toNat : Int)) (by kernel_rfl) (by kernel_rfl) (by kernel_rfl) (by kernel_rfl) q_2L178_ (by kernel_rfl) ?_
        refine at_pures 31 (by kernel_rfl) (by kernel_rfl) ?_
        refine at_int (kd := .u32) (IntKind.u32.wrap (((S.getD 7 0).toNat : Int) + ((R.getD 7 0).toNat : Int))) ((((S.getD 7 0) + (R.getD 7 0)).toNat : Int)) (by kernel_rfl) (by kernel_rfl) (bv_add (S.getD 7 0) (R.getD 7 0)) ?_
        refine at_pures 33 (by kernel_rfl) (by kernel_rfl) ?_
        refine at_do (by kernel_rfl) (op_store 127 (.tmp 4) (.tmp 219) b10_ 0 (.agg #[(.int .u32 (((S.getD 0 0) + (R.getD 0 0)).toNat : Int)), (.int .u32 (((S.getD 1 0) + (R.getD 1 0)).toNat : Int)), (.int .u32 (((S.getD 2 0) + (R.getD 2 0)).toNat : Int)), (.int .u32 (((S.getD 3 0) + (R.getD 3 0)).toNat : Int)), (.int .u32 (((S.getD 4 0) + (R.getD 4 0)).toNat : Int)), (.int .u32 (((S.getD 5 0) + (R.getD 5 0)).toNat : Int)), (.int .u32 (((S.getD 6 0) + (R.getD 6 0)).toNat : Int)), (.int .u32 (((S.getD 7 0) + (R.getD 7 0)).toNat : Int))]) _ _ #[(.int .u32 (((S.getD 0 0) + (R.getD 0 0)).toNat : Int)), (.int .u32 (((S.getD 1 0) + (R.getD 1 0)).toNat : Int)), (.int .u32 (((S.getD 2 0) + (R.getD 2 0)).toNat : Int)), (.int .u32 (((S.getD 3 0) + (R.getD 3 0)).toNat : Int)), (.int .u32 (((S.getD 4 0) + (R.getD 4 0)).toNat : Int)), (.int .u32 (((S.getD 5 0) + (R.getD 5 0)).toNat : Int)), (.int .u32 (((S.getD 6 0) + (R.getD 6 0)).toNat : Int)), (.int .u32 (((S.getD 7 0) + (R.getD 7 0)).toNat : Int))] (by kernel_rfl) (by kernel_rfl) (by kernel_rfl) q_3L178_ (by kernel_rfl) (by kernel_rfl) (by kernel_rfl) (by kernel_rfl) (fun w280_ h281_ z282_ F283_ => ?_))
        have T284_ := Fr.then hFrL178_ F283_ N20_
        have h285_ := Rd.keep' q_0L178_ F283_ (Dis.sym d16_)
        have h286_ := Rd.keep' q_1L178_ F283_ (Dis.sym d18_)
        have h287_ := Fr.keep F283_ q_2L178_ (Dis.sym d19_)
        have h288_ := Fr.keep F283_ q_4L178_ d33_
        refine at_done (by kernel_rfl) ?_
        refine then_n ?_
        refine c_ret (by kernel_rfl) ?_
        refine fin_retL [.cell 4 127] [(.agg #[(.int .u32 (((S.getD 0 0) + (R.getD 0 0)).toNat : Int)), (.int .u32 (((S.getD 1 0) + (R.getD 1 0)).toNat : Int)), (.int .u32 (((S.getD 2 0) + (R.getD 2 0)).toNat : Int)), (.int .u32 (((S.getD 3 0) + (R.getD 3 0)).toNat : Int)), (.int .u32 (((S.getD 4 0) + (R.getD 4 0)).toNat : Int)), (.int .u32 (((S.getD 5 0) + (R.getD 5 0)).toNat : Int)), (.int .u32 (((S.getD 6 0) + (R.getD 6 0)).toNat : Int)), (.int .u32 (((S.getD 7 0) + (R.getD 7 0)).toNat : Int))])] (.agg #[(.int .u32 (((S.getD 0 0) + (R.getD 0 0)).toNat : Int)), (.int .u32 (((S.getD 1 0) + (R.getD 1 0)).toNat : Int)), (.int .u32 (((S.getD 2 0) + (R.getD 2 0)).toNat : Int)), (.int .u32 (((S.getD 3 0) + (R.getD 3 0)).toNat : Int)), (.int .u32 (((S.getD 4 0) + (R.getD 4 0)).toNat : Int)), (.int .u32 (((S.getD 5 0) + (R.getD 5 0)).toNat : Int)), (.int .u32 (((S.getD 6 0) + (R.getD 6 0)).toNat : Int)), (.int .u32 (((S.getD 7 0) + (R.getD 7 0)).toNat : Int))]) (by kernel_rfl) (by rfl) ⟨ResOne.cellN (off := 0) (n := 8) (vs := #[(.int .u32 (((S.getD 0 0) + (R.getD 0 0)).toNat : Int)), (.int .u32 (((S.getD 1 0) + (R.getD 1 0)).toNat : Int)), (.int .u32 (((S.getD 2 0) + (R.getD 2 0)).toNat : Int)), (.int .u32 (((S.getD 3 0) + (R.getD 3 0)).toNat : Int)), (.int .u32 (((S.getD 4 0) + (R.getD 4 0)).toNat : Int)), (.int .u32 (((S.getD 5 0) + (R.getD 5 0)).toNat : Int)), (.int .u32 (((S.getD 6 0) + (R.getD 6 0)).toNat : Int)), (.int .u32 (((S.getD 7 0) + (R.getD 7 0)).toNat : Int))]) (by kernel_rfl) (by kernel_rfl) (by kernel_rfl) h281_ (by kernel_rfl) (by kernel_rfl), trivial⟩ (by rfl) ?_
        exact ⟨(by rw [show compress S bl = addN S R 8 from by rw [hR, show t3 = 64 from by omega, show t2 = 64 from by omega]; rfl]; kernel_rfl), T284_⟩

noncomputable def padded_c_R0 : Array Oper := rAt Tryd.prog 76 [0]
noncomputable def padded_c_R1 : Array Oper := rAt Tryd.prog 76 [1, 0]
noncomputable def padded_c_R2 : Array Oper := rAt Tryd.prog 76 [1, 1, 0, 0, 0, 0, 0]
noncomputable def padded_c_R3 : Array Oper := rAt Tryd.prog 76 [1, 1, 0, 0, 0, 1, 0]
noncomputable def padded_c_R4 : Array Oper := rAt Tryd.prog 76 [1, 1, 1, 0]
noncomputable def padded_c_R5 : Array Oper := rAt Tryd.prog 76 [1, 1, 1, 1, 0]
noncomputable def padded_c_R6 : Array Oper := rAt Tryd.prog 76 [1, 1, 1, 1, 1, 0, 0]
noncomputable def padded_c_R7 : Array Oper := rAt Tryd.prog 76 [1, 1, 1, 1, 1, 0, 1, 0, 0, 0, 0]
noncomputable def padded_c_R9 : Array Oper := rAt Tryd.prog 76 [1, 1, 1, 1, 1, 0, 1, 0, 0, 1, 0, 0, 0]
noncomputable def padded_c_R10 : Array Oper := rAt Tryd.prog 76 [1, 1, 1, 1, 1, 0, 1, 0, 0, 1, 0, 0, 1]
noncomputable def padded_c_R8 : Array Oper := rAt Tryd.prog 76 [1, 1, 1, 1, 1, 0, 1, 0, 0, 1, 1]
noncomputable def padded_c_R11 : Array Oper := rAt Tryd.prog 76 [1, 1, 1, 1, 1, 1, 0]
set_option maxRecDepth 100000 in
theorem padded_c (bs : Value) (bl : List Nat) (w : World) (h_b : SlV w bs bl.length (B bl)) (hbl : bl.length ≤ 1000000) :
    Calls Tryd.prog 76 #[bs] w fun e w' => ∃ (v_out' : Value), e = .returned v_out' ∧ Row w' 5 1 v_out' ((bl ++ padL bl.length).length) (B (bl ++ padL bl.length)) ∧ Fr w w' N0 ∧ New w N0 (Own v_out') := by
  obtain ⟨ao_b, cap_b, rfl, h_b⟩ := h_b
  refine c_enter (mk 38 [(0, (.slice ao_b bl.length cap_b))] (fun _ => undef)) Tryd.func76 (by kernel_rfl) (by kernel_rfl) ?_
  refine c_seq [0] [1] (by kernel_rfl) ?_
  refine c_reg 0 padded_c_R0 (by kernel_rfl) ?_
  refine at_pures 1 (by kernel_rfl) (by kernel_rfl) ?_
  refine at_done (by kernel_rfl) ?_
  refine then_n ?_
  refine c_seq [1, 0] [1, 1] (by kernel_rfl) ?_
  refine c_reg 1 padded_c_R1 (by kernel_rfl) ?_
  refine at_do (by kernel_rfl) (op_new (.cells #[] 5) (fun N => (.slice (some ⟨N, 0, none⟩) 0 0)) (fun _ => by kernel_rfl) (fun w2_ b1_ h3_ q4_ F5_ => ?_))
  have d6_ : Dis (One b1_) (Ar ao_b (B bl)) := Dis.fresh (New.one q4_) (Rd.in h_b)
  have N7_ : New w N0 (One b1_) := New.made q4_ (Fr.size (Fr.refl w N0))
  have T8_ := Fr.tr (Fr.refl w N0) F5_
  refine at_pures 2 (by kernel_rfl) (by kernel_rfl) ?_
  have h9_ := Rd.keep' h_b F5_ Dis.n0
  have h10_ : Row w2_ 5 1 (.slice (some ⟨b1_, 0, none⟩) 0 0) 0 [] := Row.made' h3_ (by rfl) (by decide) (by decide) (by rfl)
  refine at_do (by kernel_rfl) (op_append (.tmp 7) (.tmp 8) 64 64 5 1 1 (.int .u8 0) (by kernel_rfl) (by kernel_rfl) (by rfl) (v := (.slice (some ⟨b1_, 0, none⟩) 0 0)) (by kernel_rfl) h10_ (xv := (.slice ao_b bl.length cap_b)) (m := bl.length) (news := B bl) (by kernel_rfl) (Rd.src (size := 1) (e := 5) (by kernel_rfl) h9_ (by simp only [B_length]; omega) (by decide) B_one) (by first | (simp only [maxLen]; omega) | (simp only [maxLen, List.length_append, List.length_cons, List.length_nil, putB_length]; omega)) (by first | omega | (simp only [List.length_append, List.length_cons, List.length_nil, putB_length]; omega)) (fun v11_ w12_ h13_ F14_ s15_ => ?_))
  have T16_ := Fr.then T8_ F14_ (New.own N7_)
  have d17_ : Dis (Own v11_) (Ar ao_b (B bl)) := Dis.step (Dis.own d6_) s15_ (Rd.in h9_)
  have h18_ := Rd.keep' h9_ F14_ (Dis.sym (Dis.own d6_))
  have N19_ : New w N0 (Own v11_) := New.trans (New.own N7_) s15_ (Fr.size T8_)
  have h20_ : Row w12_ 5 1 v11_ ([] ++ bl).length (B ([] ++ bl)) := Row.appB h13_ rfl
  refine at_do (by kernel_rfl) (op_new (.cells #[(.int .u8 128)] 5) (fun N => (.slice (some ⟨N, 0, none⟩) 1 1)) (fun _ => by kernel_rfl) (fun w22_ b21_ h23_ q24_ F25_ => ?_))
  have d26_ : Dis (One b21_) (Ar ao_b (B bl)) := Dis.fresh (New.one q24_) (Rd.in h18_)
  have d27_ : Dis (One b21_) (Own v11_) := Dis.fresh (New.one q24_) (Row.in h20_)
  have N28_ : New w N0 (One b21_) := New.made q24_ (Fr.size T16_)
  have T29_ := Fr.tr T16_ F25_
  have h30_ := Rd.keep' h18_ F25_ Dis.n0
  have h31_ := Row.keep h20_ F25_ Dis.n0
  refine at_do (by kernel_rfl) (op_append (.tmp 9) (.tmp 10) 64 64 5 1 1 (.int .u8 0) (by kernel_rfl) (by kernel_rfl) (by rfl) (v := v11_) (by kernel_rfl) h31_ (xv := (.slice (some ⟨b21_, 0, none⟩) 1 1)) (m := 1) (news := (#[(.int .u8 128)]).toList) (by kernel_rfl) (Rd.src (xs := (#[(.int .u8 128)]).toList) (size := 1) (e := 5) (by kernel_rfl) (Rd.of_cut h23_ 0 1 (by kernel_rfl)) (by kernel_rfl) (by decide) (ones (by kernel_rfl))) (by first | (simp only [maxLen]; omega) | (simp only [maxLen, List.length_append, List.length_nil]; omega)) (by first | omega | (simp only [List.length_append, List.length_nil]; omega)) (fun v32_ w33_ h34_ F35_ s36_ => ?_))
  have T37_ := Fr.then T29_ F35_ N19_
  have d38_ : Dis (Own v32_) (Ar ao_b (B bl)) := Dis.step d17_ s36_ (Rd.in h30_)
  have h39_ := Rd.keep' h30_ F35_ (Dis.sym d17_)
  have N40_ : New w N0 (Own v32_) := New.trans N19_ s36_ (Fr.size T29_)
  have h41_ : Row w33_ 5 1 v32_ ([] ++ bl ++ [128]).length (B ([] ++ bl ++ [128])) := Row.appB h34_ (by rfl)
  refine at_pures 6 (by kernel_rfl) (by kernel_rfl) ?_
  refine at_done (by kernel_rfl) ?_
  refine then_n ?_
  refine c_seq [1, 1, 0] [1, 1, 1] (by kernel_rfl) ?_
  refine c_block 0 [1, 1, 0, 0] (by kernel_rfl) ?_
  refine c_loop (fun a w' => ∃ (z : Nat), ∃ (vp : Value), (∃ u, a = mk 38 [(0, (.slice ao_b bl.length cap_b)), (2, (.slice none 0 0)), (3, vp), (7, (.slice (some ⟨b1_, 0, none⟩) 0 0)), (8, (.slice ao_b bl.length cap_b)), (9, v11_), (10, (.slice (some ⟨b21_, 0, none⟩) 1 1)), (11, v32_)] u) ∧ (z ≤ (119 - bl.length % 64) % 64) ∧ (Rd w' ao_b (B bl)) ∧ (Row w' 5 1 vp ((bl.length + 1 + z)) (B (bl ++ 128 :: List.replicate z 0))) ∧ (Dis (Ar ao_b (B bl)) (Own vp)) ∧ (New w N0 (Own vp)) ∧ (Fr w w' N0)) (fun a _ => lenZ (bl.length + 1 + (119 - bl.length % 64) % 64 + 1) 3 a) [1, 1, 0, 0, 0] (by kernel_rfl) ⟨0, _, is_mk (by kernel_rfl) (by kernel_rfl) (by kernel_rfl), ⟨Nat.zero_le _, h39_, (by have h := h41_; rw [show ([] ++ bl ++ [128] : List Nat).length = bl.length + 1 + 0 from by simp] at h; exact h), (Dis.sym d38_), N40_, T37_⟩⟩ ?_
  rintro a43_ w44_ ⟨z, vp, ⟨u45_, rfl⟩, ⟨hz, q_0L42_, q_1L42_, d_0_1L42_, n_1L42_, hFrL42_⟩⟩
  obtain ⟨ao46_, cap47_, rfl, hc48_, hm49_, hR50_, ho51_⟩ := Row.read q_1L42_
  refine c_seq [1, 1, 0, 0, 0, 0] [1, 1, 0, 0, 0, 1] (by kernel_rfl) ?_
  refine c_seq [1, 1, 0, 0, 0, 0, 0] [1, 1, 0, 0, 0, 0, 1] (by kernel_rfl) ?_
  refine c_reg 2 padded_c_R2 (by kernel_rfl) ?_
  refine at_pures 2 (by kernel_rfl) (by kernel_rfl) ?_
  refine at_int (kd := .i64) (((bl.length + 1 + z) : Int).tmod (64 : Int)) ((((bl.length + 1 + z : Nat) % 64 : Nat) : Int)) (by kernel_rfl) (by kernel_rfl) (rem_nat2 (n := (bl.length + 1 + z : Nat)) (by omega)) ?_
  refine at_pures 4 (by kernel_rfl) (by kernel_rfl) ?_
  refine at_done (by kernel_rfl) ?_
  refine then_n ?_
  refine c_if (.tmp 15) ((((bl.length + 1 + z : Nat) % 64 : Nat) : Int) != (56 : Int)) [1, 1, 0, 0, 0, 0, 1, 0] [1, 1, 0, 0, 0, 0, 1, 1] (by kernel_rfl) (by kernel_rfl) (fun c52_ => ?_) (fun c52_ => ?_)
  · -- yes
    replace c52_ : (((bl.length + 1 + z : Nat) % 64 : Nat) : Int) ≠ (56 : Int) := by simpa using c52_
    refine c_skip (by kernel_rfl) ?_
    refine then_n ?_
    refine c_block 1 [1, 1, 0, 0, 0, 1, 0] (by kernel_rfl) ?_
    refine c_reg 3 padded_c_R3 (by kernel_rfl) ?_
    refine at_pures 1 (by kernel_rfl) (by kernel_rfl) ?_
    refine at_do (by kernel_rfl) (op_new (.cells #[(.int .u8 0)] 5) (fun N => (.slice (some ⟨N, 0, none⟩) 1 1)) (fun _ => by kernel_rfl) (fun w54_ b53_ h55_ q56_ F57_ => ?_))
    have d58_ : Dis (One b53_) (Ar ao_b (B bl)) := Dis.fresh (New.one q56_) (Rd.in q_0L42_)
    have d59_ : Dis (One b53_) (Own (.slice ao46_ (bl.length + 1 + z) cap47_)) := Dis.fresh (New.one q56_) (Row.in q_1L42_)
    have N60_ : New w N0 (One b53_) := New.made q56_ (Fr.size hFrL42_)
    have T61_ := Fr.tr hFrL42_ F57_
    have h62_ := Rd.keep' q_0L42_ F57_ Dis.n0
    have h63_ := Row.keep q_1L42_ F57_ Dis.n0
    refine at_do (by kernel_rfl) (op_append (.tmp 16) (.tmp 17) 64 64 5 1 1 (.int .u8 0) (by kernel_rfl) (by kernel_rfl) (by rfl) (v := (.slice ao46_ (bl.length + 1 + z) cap47_)) (by kernel_rfl) h63_ (xv := (.slice (some ⟨b53_, 0, none⟩) 1 1)) (m := 1) (news := (#[(.int .u8 0)]).toList) (by kernel_rfl) (Rd.src (xs := (#[(.int .u8 0)]).toList) (size := 1) (e := 5) (by kernel_rfl) (Rd.of_cut h55_ 0 1 (by kernel_rfl)) (by kernel_rfl) (by decide) (ones (by kernel_rfl))) (by first | (simp only [maxLen]; omega) | (simp only [maxLen, List.length_append, List.length_cons, List.length_nil, putB_length]; omega)) (by first | omega | (simp only [List.length_append, List.length_cons, List.length_nil, putB_length]; omega)) (fun v64_ w65_ h66_ F67_ s68_ => ?_))
    have T69_ := Fr.then T61_ F67_ n_1L42_
    have d70_ : Dis (Own v64_) (Ar ao_b (B bl)) := Dis.step (Dis.sym d_0_1L42_) s68_ (Rd.in h62_)
    have h71_ := Rd.keep' h62_ F67_ d_0_1L42_
    have N72_ : New w N0 (Own v64_) := New.trans n_1L42_ s68_ (Fr.size T61_)
    obtain ⟨ao73_, cap74_, rfl, hc75_, hm76_, hR77_, ho78_⟩ := Row.read h66_
    refine at_pures 4 (by kernel_rfl) (by kernel_rfl) ?_
    refine at_done (by kernel_rfl) ?_
    refine blk_n ?_
    refine then_n ?_
    exact ⟨⟨z + 1, (.slice ao73_ ((bl.length + 1 + z) + 1) cap74_), is_mk (by kernel_rfl) (by kernel_rfl) (by kernel_rfl), ⟨(by omega), h71_, (by rw [padz2]; exact h66_), (Dis.sym d70_), N72_, T69_⟩⟩, lenZ_lt (x := ao46_) (n := bl.length + 1 + z) (c := cap47_) (x' := ao73_) (n' := bl.length + 1 + z + 1) (c' := cap74_) (by kernel_rfl) (by kernel_rfl) (by omega) (by omega)⟩
  · -- no
    replace c52_ : (((bl.length + 1 + z : Nat) % 64 : Nat) : Int) = (56 : Int) := by simpa using c52_
    refine c_exit 0 (by kernel_rfl) ?_
    refine then_e ?_
    refine then_e ?_
    refine blk_hit ?_
    refine then_n ?_
    refine c_seq [1, 1, 1, 0] [1, 1, 1, 1] (by kernel_rfl) ?_
    refine c_reg 4 padded_c_R4 (by kernel_rfl) ?_
    refine at_pures 2 (by kernel_rfl) (by kernel_rfl) ?_
    refine at_int (kd := .u64) (IntKind.u64.wrap ((bl.length : Int))) ((bl.length : Int)) (by kernel_rfl) (by kernel_rfl) (wrapN_u64 (by omega) (by omega)) ?_
    refine at_int (kd := .u64) (IntKind.u64.wrap ((8 : Int) * (bl.length : Int))) ((8 : Int) * (bl.length : Int)) (by kernel_rfl) (by kernel_rfl) (wrapN_u64 (by omega) (by omega)) ?_
    refine at_pures 5 (by kernel_rfl) (by kernel_rfl) ?_
    refine at_done (by kernel_rfl) ?_
    refine then_n ?_
    refine c_seq [1, 1, 1, 1, 0] [1, 1, 1, 1, 1] (by kernel_rfl) ?_
    refine c_reg 5 padded_c_R5 (by kernel_rfl) ?_
    refine at_pures 1 (by kernel_rfl) (by kernel_rfl) ?_
    refine at_done (by kernel_rfl) ?_
    refine then_n ?_
    refine c_seq [1, 1, 1, 1, 1, 0] [1, 1, 1, 1, 1, 1] (by kernel_rfl) ?_
    refine c_seq [1, 1, 1, 1, 1, 0, 0] [1, 1, 1, 1, 1, 0, 1] (by kernel_rfl) ?_
    refine c_reg 6 padded_c_R6 (by kernel_rfl) ?_
    refine at_pures 1 (by kernel_rfl) (by kernel_rfl) ?_
    refine at_done (by kernel_rfl) ?_
    refine then_n ?_
    refine c_block 2 [1, 1, 1, 1, 1, 0, 1, 0] (by kernel_rfl) ?_
    have hzz : z = (119 - bl.length % 64) % 64 := by omega
    refine c_loop (fun a w' => ∃ (k : Nat), ∃ (vq : Value), (∃ u, a = mk 38 [(0, (.slice ao_b bl.length cap_b)), (2, (.slice none 0 0)), (3, vq), (4, (.int .u64 ((8 : Int) * (bl.length : Int)))), (5, (.int .u64 ((lowQ 72057594037927936 k : Nat) : Int))), (6, (.int .i64 (k : Int))), (7, (.slice (some ⟨b1_, 0, none⟩) 0 0)), (8, (.slice ao_b bl.length cap_b)), (9, v11_), (10, (.slice (some ⟨b21_, 0, none⟩) 1 1)), (11, v32_), (12, (.slice ao46_ (bl.length + 1 + z) cap47_)), (13, (.int .i64 ((bl.length + 1 + z) : Int))), (14, (.int .i64 (((bl.length + 1 + z : Nat) % 64 : Nat) : Int))), (15, (.bool ((((bl.length + 1 + z : Nat) % 64 : Nat) : Int) != (56 : Int)))), (19, (.slice ao_b bl.length cap_b)), (20, (.int .i64 (bl.length : Int))), (21, (.int .u64 (bl.length : Int))), (22, (.int .u64 ((8 : Int) * (bl.length : Int))))] u) ∧ (k ≤ 8) ∧ (Rd w' ao_b (B bl)) ∧ (Row w' 5 1 vq ((bl.length + 1 + z + k)) (B ((bl ++ 128 :: List.replicate z 0) ++ putB (8 * bl.length) 8 k))) ∧ (Dis (Ar ao_b (B bl)) (Own vq)) ∧ (New w N0 (Own vq)) ∧ (Fr w w' N0)) (fun a _ => cnt (8) 6 a) [1, 1, 1, 1, 1, 0, 1, 0, 0] (by kernel_rfl) ⟨0, _, is_mk (by kernel_rfl) (by kernel_rfl) (by kernel_rfl), ⟨Nat.zero_le _, q_0L42_, (by rw [show putB (8 * bl.length) 8 0 = [] from rfl, List.append_nil]; exact q_1L42_), d_0_1L42_, n_1L42_, hFrL42_⟩⟩ ?_
    rintro a80_ w81_ ⟨k, vq, ⟨u82_, rfl⟩, ⟨hk, q_0L79_, q_1L79_, d_0_1L79_, n_1L79_, hFrL79_⟩⟩
    obtain ⟨ao83_, cap84_, rfl, hc85_, hm86_, hR87_, ho88_⟩ := Row.read q_1L79_
    have hlq := lowQ_le 72057594037927936 k; have hl56 : k < 8 → 0 < lowQ 72057594037927936 k := fun h => by rw [low56 h]; exact Nat.pow_pos (by decide)
    refine c_seq [1, 1, 1, 1, 1, 0, 1, 0, 0, 0] [1, 1, 1, 1, 1, 0, 1, 0, 0, 1] (by kernel_rfl) ?_
    refine c_seq [1, 1, 1, 1, 1, 0, 1, 0, 0, 0, 0] [1, 1, 1, 1, 1, 0, 1, 0, 0, 0, 1] (by kernel_rfl) ?_
    refine c_reg 7 padded_c_R7 (by kernel_rfl) ?_
    refine at_pures 2 (by kernel_rfl) (by kernel_rfl) ?_
    refine at_done (by kernel_rfl) ?_
    refine then_n ?_
    refine c_if (.tmp 24) (decide ((k : Int) < (8 : Int))) [1, 1, 1, 1, 1, 0, 1, 0, 0, 0, 1, 0] [1, 1, 1, 1, 1, 0, 1, 0, 0, 0, 1, 1] (by kernel_rfl) (by kernel_rfl) (fun c89_ => ?_) (fun c89_ => ?_)
    · -- yes
      replace c89_ : (k : Int) < (8 : Int) := of_decide_eq_true c89_
      refine c_skip (by kernel_rfl) ?_
      refine then_n ?_
      refine c_seq [1, 1, 1, 1, 1, 0, 1, 0, 0, 1, 0] [1, 1, 1, 1, 1, 0, 1, 0, 0, 1, 1] (by kernel_rfl) ?_
      refine c_block 3 [1, 1, 1, 1, 1, 0, 1, 0, 0, 1, 0, 0] (by kernel_rfl) ?_
      refine c_seq [1, 1, 1, 1, 1, 0, 1, 0, 0, 1, 0, 0, 0] [1, 1, 1, 1, 1, 0, 1, 0, 0, 1, 0, 0, 1] (by kernel_rfl) ?_
      refine c_reg 9 padded_c_R9 (by kernel_rfl) ?_
      refine at_pures 3 (by kernel_rfl) (by kernel_rfl) ?_
      refine at_run (.int .u64 (((8 * bl.length) / (lowQ 72057594037927936 k : Nat) : Nat) : Int)) _ (by kernel_rfl) (by rw [← quo_u64 (m := 8 * bl.length) (d := (lowQ 72057594037927936 k : Nat)) (by omega)]; exact run_quo (.tmp 28) (.tmp 29) (k := .u64) ((8 * bl.length : Nat) : Int) (((lowQ 72057594037927936 k : Nat) : Nat) : Int) (by kernel_rfl) (by kernel_rfl) (by kernel_rfl) (by omega)) ?_
      refine at_int (kd := .u64) ((((8 * bl.length) / (lowQ 72057594037927936 k : Nat) : Nat) : Int).tmod (256 : Int)) (((((8 * bl.length) / (lowQ 72057594037927936 k : Nat) : Nat) % 256 : Nat) : Int)) (by kernel_rfl) (by kernel_rfl) (rem_nat2 (n := ((8 * bl.length) / (lowQ 72057594037927936 k : Nat) : Nat)) (by omega)) ?_
      refine at_int (kd := .u8) (IntKind.u8.wrap (((((8 * bl.length) / (lowQ 72057594037927936 k : Nat) : Nat) % 256 : Nat) : Int))) (((((8 * bl.length) / (lowQ 72057594037927936 k : Nat) : Nat) % 256 : Nat) : Int)) (by kernel_rfl) (by kernel_rfl) (wrapN_u8 (by omega) (by omega)) ?_
      refine at_do (by kernel_rfl) (op_new (.cells #[(.int .u8 ((((8 * bl.length) / (lowQ 72057594037927936 k : Nat) : Nat) % 256 : Nat) : Int))] 5) (fun N => (.slice (some ⟨N, 0, none⟩) 1 1)) (fun _ => by kernel_rfl) (fun w91_ b90_ h92_ q93_ F94_ => ?_))
      have d95_ : Dis (One b90_) (Ar ao_b (B bl)) := Dis.fresh (New.one q93_) (Rd.in q_0L79_)
      have d96_ : Dis (One b90_) (Own (.slice ao83_ (bl.length + 1 + z + k) cap84_)) := Dis.fresh (New.one q93_) (Row.in q_1L79_)
      have N97_ : New w N0 (One b90_) := New.made q93_ (Fr.size hFrL79_)
      have T98_ := Fr.tr hFrL79_ F94_
      have h99_ := Rd.keep' q_0L79_ F94_ Dis.n0
      have h100_ := Row.keep q_1L79_ F94_ Dis.n0
      refine at_do (by kernel_rfl) (op_append (.tmp 27) (.tmp 33) 64 64 5 1 1 (.int .u8 0) (by kernel_rfl) (by kernel_rfl) (by rfl) (v := (.slice ao83_ (bl.length + 1 + z + k) cap84_)) (by kernel_rfl) h100_ (xv := (.slice (some ⟨b90_, 0, none⟩) 1 1)) (m := 1) (news := (#[(.int .u8 ((((8 * bl.length) / (lowQ 72057594037927936 k : Nat) : Nat) % 256 : Nat) : Int))]).toList) (by kernel_rfl) (Rd.src (xs := (#[(.int .u8 ((((8 * bl.length) / (lowQ 72057594037927936 k : Nat) : Nat) % 256 : Nat) : Int))]).toList) (size := 1) (e := 5) (by kernel_rfl) (Rd.of_cut h92_ 0 1 (by kernel_rfl)) (by kernel_rfl) (by decide) (ones (by kernel_rfl))) (by first | (simp only [maxLen]; omega) | (simp only [maxLen, List.length_append, List.length_cons, List.length_nil, putB_length]; omega)) (by first | omega | (simp only [List.length_append, List.length_cons, List.length_nil, putB_length]; omega)) (fun v101_ w102_ h103_ F104_ s105_ => ?_))
      have T106_ := Fr.then T98_ F104_ n_1L79_
      have d107_ : Dis (Own v101_) (Ar ao_b (B bl)) := Dis.step (Dis.sym d_0_1L79_) s105_ (Rd.in h99_)
      have h108_ := Rd.keep' h99_ F104_ d_0_1L79_
      have N109_ : New w N0 (Own v101_) := New.trans n_1L79_ s105_ (Fr.size T98_)
      refine at_pures 9 (by kernel_rfl) (by kernel_rfl) ?_
      refine at_done (by kernel_rfl) ?_
      refine then_n ?_
      refine c_reg 10 padded_c_R10 (by kernel_rfl) ?_
      refine at_pures 1 (by kernel_rfl) (by kernel_rfl) ?_
      refine at_int (kd := .u64) (IntKind.u64.wrap (((lowQ 72057594037927936 k : Nat) : Int).tdiv (256 : Int))) ((((lowQ 72057594037927936 k : Nat) / 256 : Nat) : Int)) (by kernel_rfl) (by kernel_rfl) (quo_u64 (by omega)) ?_
      refine at_pures 3 (by kernel_rfl) (by kernel_rfl) ?_
      refine at_done (by kernel_rfl) ?_
      refine blk_n ?_
      refine then_n ?_
      refine c_reg 8 padded_c_R8 (by kernel_rfl) ?_
      refine at_pures 1 (by kernel_rfl) (by kernel_rfl) ?_
      refine at_int (kd := .i64) (IntKind.i64.wrap ((k : Int) + (1 : Int))) ((k : Int) + (1 : Int)) (by kernel_rfl) (by kernel_rfl) (wrapN_i64 (by omega) (by omega)) ?_
      refine at_pures 3 (by kernel_rfl) (by kernel_rfl) ?_
      refine at_done (by kernel_rfl) ?_
      refine then_n ?_
      exact ⟨⟨k + 1, v101_, is_mk (by kernel_rfl) (by kernel_rfl) (by kernel_rfl), ⟨(by omega), h108_, (by rw [putB_succ, ← List.append_assoc, B_append, ← low56 (by omega)]; exact h103_), (Dis.sym d107_), N109_, T106_⟩⟩, cnt_lt (k := (k : Int)) (k' := ((k : Int) + (1 : Int))) (by kernel_rfl) (by kernel_rfl) (by omega) (by omega)⟩
    · -- no
      replace c89_ : ¬ ((k : Int) < (8 : Int)) := of_decide_eq_false c89_
      refine c_exit 2 (by kernel_rfl) ?_
      refine then_e ?_
      refine then_e ?_
      refine blk_hit ?_
      refine then_n ?_
      refine c_seq [1, 1, 1, 1, 1, 1, 0] [1, 1, 1, 1, 1, 1, 1] (by kernel_rfl) ?_
      refine c_reg 11 padded_c_R11 (by kernel_rfl) ?_
      refine at_pures 2 (by kernel_rfl) (by kernel_rfl) ?_
      refine at_done (by kernel_rfl) ?_
      refine then_n ?_
      refine c_ret (by kernel_rfl) ?_
      refine fin_ret (.slice ao83_ (bl.length + 1 + z + k) cap84_) (by kernel_rfl) (by kernel_rfl) ?_
      have hP : ((bl ++ 128 :: List.replicate z 0) ++ putB (8 * bl.length) 8 k) = (bl ++ padL bl.length) := by rw [List.append_assoc]; exact congrArg (bl ++ ·) (padL_eq hzz (by omega))
      have hpn : bl.length + 1 + z + k = (bl ++ padL bl.length).length := by rw [← hP]; simp [putB_length]; omega
      have h110_ : Row w81_ 5 1 (.slice ao83_ (bl.length + 1 + z + k) cap84_) (bl ++ padL bl.length).length (B (bl ++ padL bl.length)) := by rw [← hpn, ← hP]; exact q_1L79_
      exact ⟨(.slice ao83_ (bl.length + 1 + z + k) cap84_), rfl, h110_, hFrL79_, n_1L79_⟩
end Go.Proofs.YtokdfjelilhekaaDoor
