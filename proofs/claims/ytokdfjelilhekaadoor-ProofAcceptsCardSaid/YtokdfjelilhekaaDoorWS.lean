/- The walks of the digest. -/
import Derived.Test.YtokdfjelilhekaaDoorLib2
import Derived.Test.YtokdfjelilhekaaDoorProg
namespace Go.Proofs.YtokdfjelilhekaaDoor
open Go Go.RowKit Go.Alm
noncomputable def nturn_c_R0 : Array Oper := rAt Tryd.prog 89 [0]
noncomputable def nturn_c_R1 : Array Oper := rAt Tryd.prog 89 [1, 0]
noncomputable def nturn_c_R2 : Array Oper := rAt Tryd.prog 89 [1, 1, 0]
def nturn_c_sk2 : Nat → Bool := fun _ => false
def nturn_c_pl2 : List (Nat × PK) := [(0, .q false), (1, .q false), (2, .q false), (3, .q false), (4, .q false), (5, .q false), (6, .q false), (7, .q false), (8, .q false), (9, .q false)]
set_option maxRecDepth 100000 in
theorem nturn_c (x : W32) (k : Nat) (w : World) (hk : k < 32) :
    Calls Tryd.prog 89 #[(.int .u32 (x.toNat : Int)), (.int .i64 (k : Int))] w fun e w' => e = .returned (.int .u32 ((turn x k).toNat : Int)) ∧ Fr w w' N0 := by
  refine c_enter (mk 17 [(0, (.int .u32 (x.toNat : Int))), (1, (.int .i64 (k : Int)))] (fun _ => undef)) Tryd.func89 (by kernel_rfl) (by kernel_rfl) ?_
  refine c_seq [0] [1] (by kernel_rfl) ?_
  refine c_reg 0 nturn_c_R0 (by kernel_rfl) ?_
  refine at_pures 1 (by kernel_rfl) (by kernel_rfl) ?_
  refine at_done (by kernel_rfl) ?_
  refine then_n ?_
  refine c_seq [1, 0] [1, 1] (by kernel_rfl) ?_
  refine c_reg 1 nturn_c_R1 (by kernel_rfl) ?_
  refine at_pures 1 (by kernel_rfl) (by kernel_rfl) ?_
  refine at_int (kd := .i64) (IntKind.i64.wrap (((BitVec.ofInt 64 (k : Int) &&& BitVec.ofInt 64 (31 : Int)).toNat : Int))) ((k : Int)) (by kernel_rfl) (by kernel_rfl) (and31 hk) ?_
  refine at_pures 3 (by kernel_rfl) (by kernel_rfl) ?_
  refine at_done (by kernel_rfl) ?_
  refine then_n ?_
  refine c_seq [1, 1, 0] [1, 1, 1] (by kernel_rfl) ?_
  refine c_plan 2 nturn_c_R2 (fun w' => True) nturn_c_sk2 nturn_c_pl2 (by kernel_rfl) (by kernel_rfl) (by kernel_rfl) (by kernel_rfl) (by kernel_rfl) (fun w1_ F2_ => ?_)
  have T3_ := Fr.tr (Fr.refl w N0) F2_
  have S4_ : True := trivial
  refine pl_pures 2 (by kernel_rfl) (by kernel_rfl) (off (by kernel_rfl)) ?_
  refine pl_quiet 2 (.int .u32 ((x >>> (k)).toNat : Int)) (by kernel_rfl) (by kernel_rfl) (fun w' => by rw [← shr_turn x (k := k) hk]; exact run_shr (k' := .i64) (.tmp 8) (.tmp 9) (x.toNat : Int) (k : Int) (by kernel_rfl) (by kernel_rfl) (by kernel_rfl) (by omega)) (off (by kernel_rfl)) ?_
  refine pl_pures 5 (by kernel_rfl) (by kernel_rfl) (off (by kernel_rfl)) ?_
  refine pl_as 5 (.int .i64 (IntKind.i64.wrap ((32 : Int) - (k : Int)))) (.int .i64 ((32 : Int) - (k : Int))) (by kernel_rfl) (by kernel_rfl) ⟨by kernel_rfl, by kernel_rfl⟩ (congrArg (Value.int .i64) (wrapN_i64 (by omega) (by omega))) (off (by kernel_rfl)) ?_
  refine pl_as 6 (.int .i64 (IntKind.i64.wrap (((BitVec.ofInt 64 ((32 : Int) - (k : Int)) &&& BitVec.ofInt 64 (31 : Int)).toNat : Int)))) (.int .i64 (((32 - k) % 32 : Nat) : Int)) (by kernel_rfl) (by kernel_rfl) ⟨by kernel_rfl, by kernel_rfl⟩ (congrArg (Value.int .i64) (and31' hk)) (off (by kernel_rfl)) ?_
  refine pl_quiet 7 (.int .u32 ((x <<< ((32 - k) % 32)).toNat : Int)) (by kernel_rfl) (by kernel_rfl) (fun w' => by rw [← shl_turn x (k := (32 - k) % 32) (by omega)]; exact run_shl (k' := .i64) (.tmp 11) (.tmp 14) (x.toNat : Int) (((32 - k) % 32 : Nat) : Int) (by kernel_rfl) (by kernel_rfl) (by kernel_rfl) (by omega)) (off (by kernel_rfl)) ?_
  refine pl_as 8 (.int .u32 (IntKind.u32.wrap (((BitVec.ofInt 32 ((x >>> (k)).toNat : Int) ||| BitVec.ofInt 32 ((x <<< ((32 - k) % 32)).toNat : Int)).toNat : Int)))) (.int .u32 (((x >>> (k)) ||| (x <<< ((32 - k) % 32))).toNat : Int)) (by kernel_rfl) (by kernel_rfl) ⟨by kernel_rfl, by kernel_rfl⟩ (congrArg (Value.int .u32) (bv_or (x >>> (k)) (x <<< ((32 - k) % 32)))) (off (by kernel_rfl)) ?_
  refine pl_pures 10 (by kernel_rfl) (by kernel_rfl) (off (by kernel_rfl)) ?_
  refine pl_done (by kernel_rfl) ?_
  refine then_n ?_
  refine c_ret (by kernel_rfl) ?_
  refine fin_ret (.int .u32 (((x >>> (k)) ||| (x <<< ((32 - k) % 32))).toNat : Int)) (by kernel_rfl) (by kernel_rfl) ?_
  exact ⟨rfl, T3_⟩

noncomputable def turned_c_R0 : Array Oper := rAt Tryd.prog 87 [0]
noncomputable def turned_c_R1 : Array Oper := rAt Tryd.prog 87 [1, 0]
set_option maxRecDepth 100000 in
theorem turned_c (x : W32) (a : Nat) (b : Nat) (c : Nat) (w : World) (ha : a < 32) (hb : b < 32) (hc : c < 32) :
    Calls Tryd.prog 87 #[(.int .u32 (x.toNat : Int)), (.int .i64 (a : Int)), (.int .i64 (b : Int)), (.int .i64 (c : Int))] w fun e w' => e = .returned (.int .u32 ((sg x a b c).toNat : Int)) ∧ Fr w w' N0 := by
  refine c_enter (mk 20 [(0, (.int .u32 (x.toNat : Int))), (1, (.int .i64 (a : Int))), (2, (.int .i64 (b : Int))), (3, (.int .i64 (c : Int)))] (fun _ => undef)) Tryd.func87 (by kernel_rfl) (by kernel_rfl) ?_
  refine c_seq [0] [1] (by kernel_rfl) ?_
  refine c_reg 0 turned_c_R0 (by kernel_rfl) ?_
  refine at_pures 1 (by kernel_rfl) (by kernel_rfl) ?_
  refine at_done (by kernel_rfl) ?_
  refine then_n ?_
  refine c_seq [1, 0] [1, 1] (by kernel_rfl) ?_
  refine c_reg 1 turned_c_R1 (by kernel_rfl) ?_
  refine at_pures 2 (by kernel_rfl) (by kernel_rfl) ?_
  refine at_do (by kernel_rfl) (op_call 89 #[(.tmp 9), (.tmp 10)] #[(.int .u32 (x.toNat : Int)), (.int .i64 (a : Int))] (by kernel_rfl) (by kernel_rfl) (by kernel_rfl) ?_)
  have C5_ := nturn_c x a w   (by first | omega | with_reducible assumption | (simp only [List.length_append, List.length_cons, List.length_nil, putB_length]; omega) | decide)
  refine Calls.mono C5_ ?_
  rintro e4_ w2_ ⟨rfl, F3_⟩
  refine ⟨_, rfl, ?_⟩
  have T6_ := Fr.tr (Fr.refl w N0) F3_
  refine at_pures 5 (by kernel_rfl) (by kernel_rfl) ?_
  refine at_do (by kernel_rfl) (op_call 89 #[(.tmp 12), (.tmp 13)] #[(.int .u32 (x.toNat : Int)), (.int .i64 (b : Int))] (by kernel_rfl) (by kernel_rfl) (by kernel_rfl) ?_)
  have C11_ := nturn_c x b w2_   (by first | omega | with_reducible assumption | (simp only [List.length_append, List.length_cons, List.length_nil, putB_length]; omega) | decide)
  refine Calls.mono C11_ ?_
  rintro e10_ w8_ ⟨rfl, F9_⟩
  refine ⟨_, rfl, ?_⟩
  have T12_ := Fr.tr T6_ F9_
  refine at_int (kd := .u32) (IntKind.u32.wrap (((BitVec.ofInt 32 ((turn x a).toNat : Int) ^^^ BitVec.ofInt 32 ((turn x b).toNat : Int)).toNat : Int))) ((((turn x a) ^^^ (turn x b)).toNat : Int)) (by kernel_rfl) (by kernel_rfl) (bv_xor (turn x a) (turn x b)) ?_
  refine at_pures 9 (by kernel_rfl) (by kernel_rfl) ?_
  refine at_do (by kernel_rfl) (op_call 89 #[(.tmp 16), (.tmp 17)] #[(.int .u32 (x.toNat : Int)), (.int .i64 (c : Int))] (by kernel_rfl) (by kernel_rfl) (by kernel_rfl) ?_)
  have C17_ := nturn_c x c w8_   (by first | omega | with_reducible assumption | (simp only [List.length_append, List.length_cons, List.length_nil, putB_length]; omega) | decide)
  refine Calls.mono C17_ ?_
  rintro e16_ w14_ ⟨rfl, F15_⟩
  refine ⟨_, rfl, ?_⟩
  have T18_ := Fr.tr T12_ F15_
  refine at_int (kd := .u32) (IntKind.u32.wrap (((BitVec.ofInt 32 (((turn x a) ^^^ (turn x b)).toNat : Int) ^^^ BitVec.ofInt 32 ((turn x c).toNat : Int)).toNat : Int))) (((((turn x a) ^^^ (turn x b)) ^^^ (turn x c)).toNat : Int)) (by kernel_rfl) (by kernel_rfl) (bv_xor ((turn x a) ^^^ (turn x b)) (turn x c)) ?_
  refine at_pures 12 (by kernel_rfl) (by kernel_rfl) ?_
  refine at_done (by kernel_rfl) ?_
  refine then_n ?_
  refine c_ret (by kernel_rfl) ?_
  refine fin_ret (.int .u32 ((((turn x a) ^^^ (turn x b)) ^^^ (turn x c)).toNat : Int)) (by kernel_rfl) (by kernel_rfl) ?_
  exact ⟨rfl, T18_⟩

noncomputable def shifted_c_R0 : Array Oper := rAt Tryd.prog 88 [0]
noncomputable def shifted_c_R1 : Array Oper := rAt Tryd.prog 88 [1, 0]
def shifted_c_sk1 : Nat → Bool := fun _ => false
def shifted_c_pl1 : List (Nat × PK) := [(0, .q false), (1, .q false), (3, .q false), (4, .q false), (7, .q false), (8, .q false), (9, .q false), (2, .e), (5, .e), (6, .q false), (10, .q false), (11, .q false)]
set_option maxRecDepth 100000 in
theorem shifted_c (x : W32) (a : Nat) (b : Nat) (c : Nat) (w : World) (ha : a < 32) (hb : b < 32) (hc : c < 32) :
    Calls Tryd.prog 88 #[(.int .u32 (x.toNat : Int)), (.int .i64 (a : Int)), (.int .i64 (b : Int)), (.int .i64 (c : Int))] w fun e w' => e = .returned (.int .u32 ((sh x a b c).toNat : Int)) ∧ Fr w w' N0 := by
  refine c_enter (mk 20 [(0, (.int .u32 (x.toNat : Int))), (1, (.int .i64 (a : Int))), (2, (.int .i64 (b : Int))), (3, (.int .i64 (c : Int)))] (fun _ => undef)) Tryd.func88 (by kernel_rfl) (by kernel_rfl) ?_
  refine c_seq [0] [1] (by kernel_rfl) ?_
  refine c_reg 0 shifted_c_R0 (by kernel_rfl) ?_
  refine at_pures 1 (by kernel_rfl) (by kernel_rfl) ?_
  refine at_done (by kernel_rfl) ?_
  refine then_n ?_
  refine c_seq [1, 0] [1, 1] (by kernel_rfl) ?_
  refine c_plan 1 shifted_c_R1 (fun w' => True) shifted_c_sk1 shifted_c_pl1 (by kernel_rfl) (by kernel_rfl) (by kernel_rfl) (by kernel_rfl) (by kernel_rfl) (fun w1_ F2_ => ?_)
  have T3_ := Fr.tr (Fr.refl w N0) F2_
  have S4_ : True := trivial
  refine pl_pures 6 (by kernel_rfl) (by kernel_rfl) (off (by kernel_rfl)) ?_
  refine pl_quiet 9 (.int .u32 ((x >>> (c)).toNat : Int)) (by kernel_rfl) (by kernel_rfl) (fun w' => by rw [← shr_turn x (k := c) hc]; exact run_shr (k' := .i64) (.tmp 16) (.tmp 17) (x.toNat : Int) (c : Int) (by kernel_rfl) (by kernel_rfl) (by kernel_rfl) (by omega)) (off (by kernel_rfl)) ?_
  refine pl_do 2 (by kernel_rfl) (by kernel_rfl) (op_call 89 #[(.tmp 9), (.tmp 10)] #[(.int .u32 (x.toNat : Int)), (.int .i64 (a : Int))] (by kernel_rfl) (by kernel_rfl) (by kernel_rfl) ?_)
  have C9_ := nturn_c x a w1_   (by first | omega | with_reducible assumption | (simp only [List.length_append, List.length_cons, List.length_nil, putB_length]; omega) | decide)
  refine Calls.mono C9_ ?_
  rintro e8_ w6_ ⟨rfl, F7_⟩
  refine ⟨_, rfl, ?_⟩
  have T10_ := Fr.tr T3_ F7_
  refine ⟨off (by kernel_rfl), ?_⟩
  refine pl_do 5 (by kernel_rfl) (by kernel_rfl) (op_call 89 #[(.tmp 12), (.tmp 13)] #[(.int .u32 (x.toNat : Int)), (.int .i64 (b : Int))] (by kernel_rfl) (by kernel_rfl) (by kernel_rfl) ?_)
  have C15_ := nturn_c x b w6_   (by first | omega | with_reducible assumption | (simp only [List.length_append, List.length_cons, List.length_nil, putB_length]; omega) | decide)
  refine Calls.mono C15_ ?_
  rintro e14_ w12_ ⟨rfl, F13_⟩
  refine ⟨_, rfl, ?_⟩
  have T16_ := Fr.tr T10_ F13_
  refine ⟨off (by kernel_rfl), ?_⟩
  refine pl_as 6 (.int .u32 (IntKind.u32.wrap (((BitVec.ofInt 32 ((turn x a).toNat : Int) ^^^ BitVec.ofInt 32 ((turn x b).toNat : Int)).toNat : Int)))) (.int .u32 (((turn x a) ^^^ (turn x b)).toNat : Int)) (by kernel_rfl) (by kernel_rfl) ⟨by kernel_rfl, by kernel_rfl⟩ (congrArg (Value.int .u32) (bv_xor (turn x a) (turn x b))) (off (by kernel_rfl)) ?_
  refine pl_as 10 (.int .u32 (IntKind.u32.wrap (((BitVec.ofInt 32 (((turn x a) ^^^ (turn x b)).toNat : Int) ^^^ BitVec.ofInt 32 ((x >>> (c)).toNat : Int)).toNat : Int)))) (.int .u32 ((((turn x a) ^^^ (turn x b)) ^^^ (x >>> (c))).toNat : Int)) (by kernel_rfl) (by kernel_rfl) ⟨by kernel_rfl, by kernel_rfl⟩ (congrArg (Value.int .u32) (bv_xor ((turn x a) ^^^ (turn x b)) (x >>> (c)))) (off (by kernel_rfl)) ?_
  refine pl_pures 12 (by kernel_rfl) (by kernel_rfl) (off (by kernel_rfl)) ?_
  refine pl_done (by kernel_rfl) ?_
  refine then_n ?_
  refine c_ret (by kernel_rfl) ?_
  refine fin_ret (.int .u32 ((((turn x a) ^^^ (turn x b)) ^^^ (x >>> (c))).toNat : Int)) (by kernel_rfl) (by kernel_rfl) ?_
  exact ⟨rfl, T16_⟩

noncomputable def sched_c_R0 : Array Oper := rAt Tryd.prog 86 [0]
noncomputable def sched_c_R1 : Array Oper := rAt Tryd.prog 86 [1, 0]
noncomputable def sched_c_R2 : Array Oper := rAt Tryd.prog 86 [1, 1, 0, 0]
noncomputable def sched_c_R3 : Array Oper := rAt Tryd.prog 86 [1, 1, 0, 1, 0, 0, 0]
noncomputable def sched_c_R4 : Array Oper := rAt Tryd.prog 86 [1, 1, 0, 1, 0, 0, 1, 1, 0, 0, 0]
noncomputable def sched_c_R5 : Array Oper := rAt Tryd.prog 86 [1, 1, 0, 1, 0, 0, 1, 1, 0, 0, 1, 0]
noncomputable def sched_c_R6 : Array Oper := rAt Tryd.prog 86 [1, 1, 0, 1, 0, 0, 1, 1, 0, 0, 1, 1, 0, 0, 0]
noncomputable def sched_c_R7 : Array Oper := rAt Tryd.prog 86 [1, 1, 0, 1, 0, 0, 1, 1, 0, 0, 1, 1, 0, 0, 1, 1, 0, 0, 0]
noncomputable def sched_c_R8 : Array Oper := rAt Tryd.prog 86 [1, 1, 0, 1, 0, 0, 1, 1, 0, 0, 1, 1, 0, 0, 1, 1, 0, 0, 1]
noncomputable def sched_c_R9 : Array Oper := rAt Tryd.prog 86 [1, 1, 0, 1, 0, 0, 1, 1, 0, 0, 1, 1, 0, 0, 1, 1, 1]
noncomputable def sched_c_R10 : Array Oper := rAt Tryd.prog 86 [1, 1, 0, 1, 0, 0, 1, 1, 1]
noncomputable def sched_c_R11 : Array Oper := rAt Tryd.prog 86 [1, 1, 1, 0, 0]
noncomputable def sched_c_R12 : Array Oper := rAt Tryd.prog 86 [1, 1, 1, 0, 1, 0, 0, 0, 0]
noncomputable def sched_c_R14 : Array Oper := rAt Tryd.prog 86 [1, 1, 1, 0, 1, 0, 0, 1, 0, 0]
def sched_c_sk14 : Nat → Bool := fun i => decide (i ∈ [5, 6, 7, 8, 9, 10, 11, 12, 13, 14, 15, 16, 17, 18, 19, 20])
def sched_c_pl14 : List (Nat × PK) := [(0, .q false), (1, .q false), (2, .q false), (3, .q false), (4, .q true), (6, .q false), (7, .q false), (8, .q false), (9, .q true), (11, .q false), (12, .q false), (13, .q false), (14, .q true), (17, .q false), (18, .q false), (19, .q false), (20, .q true), (5, .e), (10, .q false), (15, .e), (16, .q false), (21, .q false), (22, .q false), (23, .e)]
noncomputable def sched_c_R13 : Array Oper := rAt Tryd.prog 86 [1, 1, 1, 0, 1, 0, 0, 1, 1]
noncomputable def sched_c_R15 : Array Oper := rAt Tryd.prog 86 [1, 1, 1, 1, 0]
set_option maxRecDepth 100000 in
theorem sched_c (bh : Nat) (S : List W32) (q : List Nat) (n : Nat) (w : World) (h_hs : w.heap[bh]? = some (.cells (hsC S q n) 132 (0, 0))) (hql : q.length = 64) (hB : Byt q) :
    Calls Tryd.prog 86 #[(.pointer (some ⟨bh, 0, none⟩))] w fun e w' => e = .returned (.agg (hw (wS q 64))) ∧ Fr w w' N0 := by
  refine c_enter (mk 64 [(0, (.pointer (some ⟨bh, 0, none⟩)))] (fun _ => undef)) Tryd.func86 (by kernel_rfl) (by kernel_rfl) ?_
  refine c_seq [0] [1] (by kernel_rfl) ?_
  refine c_reg 0 sched_c_R0 (by kernel_rfl) ?_
  refine at_do (by kernel_rfl) (op_new (.cells #[(.int .u32 0), (.int .u32 0), (.int .u32 0), (.int .u32 0), (.int .u32 0), (.int .u32 0), (.int .u32 0), (.int .u32 0), (.int .u32 0), (.int .u32 0), (.int .u32 0), (.int .u32 0), (.int .u32 0), (.int .u32 0), (.int .u32 0), (.int .u32 0), (.int .u32 0), (.int .u32 0), (.int .u32 0), (.int .u32 0), (.int .u32 0), (.int .u32 0), (.int .u32 0), (.int .u32 0), (.int .u32 0), (.int .u32 0), (.int .u32 0), (.int .u32 0), (.int .u32 0), (.int .u32 0), (.int .u32 0), (.int .u32 0), (.int .u32 0), (.int .u32 0), (.int .u32 0), (.int .u32 0), (.int .u32 0), (.int .u32 0), (.int .u32 0), (.int .u32 0), (.int .u32 0), (.int .u32 0), (.int .u32 0), (.int .u32 0), (.int .u32 0), (.int .u32 0), (.int .u32 0), (.int .u32 0), (.int .u32 0), (.int .u32 0), (.int .u32 0), (.int .u32 0), (.int .u32 0), (.int .u32 0), (.int .u32 0), (.int .u32 0), (.int .u32 0), (.int .u32 0), (.int .u32 0), (.int .u32 0), (.int .u32 0), (.int .u32 0), (.int .u32 0), (.int .u32 0)] 137) (fun N => (.pointer (some ⟨N, 0, none⟩))) (fun _ => by kernel_rfl) (fun w2_ b1_ h3_ q4_ F5_ => ?_))
  have d6_ : Dis (One b1_) (One bh) := Dis.fresh (New.one q4_) (In.one h_hs)
  have N7_ : New w N0 (One b1_) := New.made q4_ (Fr.size (Fr.refl w N0))
  have T8_ := Fr.tr (Fr.refl w N0) F5_
  refine at_done (by kernel_rfl) ?_
  refine then_n ?_
  refine c_seq [1, 0] [1, 1] (by kernel_rfl) ?_
  refine c_reg 1 sched_c_R1 (by kernel_rfl) ?_
  refine at_do (by kernel_rfl) (op_new (.cells #[(.int .u32 0), (.int .u32 0), (.int .u32 0), (.int .u32 0), (.int .u32 0), (.int .u32 0), (.int .u32 0), (.int .u32 0), (.int .u32 0), (.int .u32 0), (.int .u32 0), (.int .u32 0), (.int .u32 0), (.int .u32 0), (.int .u32 0), (.int .u32 0), (.int .u32 0), (.int .u32 0), (.int .u32 0), (.int .u32 0), (.int .u32 0), (.int .u32 0), (.int .u32 0), (.int .u32 0), (.int .u32 0), (.int .u32 0), (.int .u32 0), (.int .u32 0), (.int .u32 0), (.int .u32 0), (.int .u32 0), (.int .u32 0), (.int .u32 0), (.int .u32 0), (.int .u32 0), (.int .u32 0), (.int .u32 0), (.int .u32 0), (.int .u32 0), (.int .u32 0), (.int .u32 0), (.int .u32 0), (.int .u32 0), (.int .u32 0), (.int .u32 0), (.int .u32 0), (.int .u32 0), (.int .u32 0), (.int .u32 0), (.int .u32 0), (.int .u32 0), (.int .u32 0), (.int .u32 0), (.int .u32 0), (.int .u32 0), (.int .u32 0), (.int .u32 0), (.int .u32 0), (.int .u32 0), (.int .u32 0), (.int .u32 0), (.int .u32 0), (.int .u32 0), (.int .u32 0)] 137) (fun N => (.pointer (some ⟨N, 0, none⟩))) (fun _ => by kernel_rfl) (fun w10_ b9_ h11_ q12_ F13_ => ?_))
  have h14_ := Fr.keep F5_ h_hs Dis.n0
  have d15_ : Dis (One b9_) (One bh) := Dis.fresh (New.one q12_) (In.one h14_)
  have d16_ : Dis (One b9_) (One b1_) := Dis.fresh (New.one q12_) (In.one h3_)
  have N17_ : New w N0 (One b9_) := New.made q12_ (Fr.size T8_)
  have T18_ := Fr.tr T8_ F13_
  refine at_done (by kernel_rfl) ?_
  refine then_n ?_
  refine c_seq [1, 1, 0] [1, 1, 1] (by kernel_rfl) ?_
  refine c_seq [1, 1, 0, 0] [1, 1, 0, 1] (by kernel_rfl) ?_
  refine c_reg 2 sched_c_R2 (by kernel_rfl) ?_
  refine at_pures 1 (by kernel_rfl) (by kernel_rfl) ?_
  refine at_done (by kernel_rfl) ?_
  refine then_n ?_
  refine c_block 0 [1, 1, 0, 1, 0] (by kernel_rfl) ?_
  have h19_ := Fr.keep F13_ h14_ Dis.n0
  have h20_ := Fr.keep F13_ h3_ Dis.n0
  refine c_loop (fun a w' => ∃ (t : Nat), (∃ u, a = mk 64 [(0, (.pointer (some ⟨bh, 0, none⟩))), (2, (.pointer (some ⟨b1_, 0, none⟩))), (3, (.pointer (some ⟨b9_, 0, none⟩))), (8, (.int .i64 (t : Int)))] u) ∧ (t ≤ 16) ∧ (w'.heap[bh]? = some (.cells (hsC S q n) 132 (0, 0))) ∧ (w'.heap[b1_]? = some (.cells #[(.int .u32 0), (.int .u32 0), (.int .u32 0), (.int .u32 0), (.int .u32 0), (.int .u32 0), (.int .u32 0), (.int .u32 0), (.int .u32 0), (.int .u32 0), (.int .u32 0), (.int .u32 0), (.int .u32 0), (.int .u32 0), (.int .u32 0), (.int .u32 0), (.int .u32 0), (.int .u32 0), (.int .u32 0), (.int .u32 0), (.int .u32 0), (.int .u32 0), (.int .u32 0), (.int .u32 0), (.int .u32 0), (.int .u32 0), (.int .u32 0), (.int .u32 0), (.int .u32 0), (.int .u32 0), (.int .u32 0), (.int .u32 0), (.int .u32 0), (.int .u32 0), (.int .u32 0), (.int .u32 0), (.int .u32 0), (.int .u32 0), (.int .u32 0), (.int .u32 0), (.int .u32 0), (.int .u32 0), (.int .u32 0), (.int .u32 0), (.int .u32 0), (.int .u32 0), (.int .u32 0), (.int .u32 0), (.int .u32 0), (.int .u32 0), (.int .u32 0), (.int .u32 0), (.int .u32 0), (.int .u32 0), (.int .u32 0), (.int .u32 0), (.int .u32 0), (.int .u32 0), (.int .u32 0), (.int .u32 0), (.int .u32 0), (.int .u32 0), (.int .u32 0), (.int .u32 0)] 137 (0, 0))) ∧ (w'.heap[b9_]? = some (.cells (hw (wS q t)) 137 (0, 0))) ∧ (Fr w w' N0)) (fun a _ => cnt (16) 8 a) [1, 1, 0, 1, 0, 0] (by kernel_rfl) ⟨0, is_mk (by kernel_rfl) (by kernel_rfl) (by kernel_rfl), ⟨Nat.zero_le _, h19_, h20_, (cast (by kernel_rfl) h11_), T18_⟩⟩ ?_
  rintro a22_ w23_ ⟨t, ⟨u24_, rfl⟩, ⟨ht, q_0L21_, q_1L21_, q_2L21_, hFrL21_⟩⟩
  refine c_seq [1, 1, 0, 1, 0, 0, 0] [1, 1, 0, 1, 0, 0, 1] (by kernel_rfl) ?_
  refine c_reg 3 sched_c_R3 (by kernel_rfl) ?_
  refine at_pures 1 (by kernel_rfl) (by kernel_rfl) ?_
  refine at_done (by kernel_rfl) ?_
  refine then_n ?_
  refine c_seq [1, 1, 0, 1, 0, 0, 1, 0] [1, 1, 0, 1, 0, 0, 1, 1] (by kernel_rfl) ?_
  refine c_if (.tmp 9) (decide ((t : Int) < (16 : Int))) [1, 1, 0, 1, 0, 0, 1, 0, 0] [1, 1, 0, 1, 0, 0, 1, 0, 1] (by kernel_rfl) (by kernel_rfl) (fun c25_ => ?_) (fun c25_ => ?_)
  · -- yes
    replace c25_ : (t : Int) < (16 : Int) := of_decide_eq_true c25_
    refine c_skip (by kernel_rfl) ?_
    refine then_n ?_
    refine c_seq [1, 1, 0, 1, 0, 0, 1, 1, 0] [1, 1, 0, 1, 0, 0, 1, 1, 1] (by kernel_rfl) ?_
    refine c_block 1 [1, 1, 0, 1, 0, 0, 1, 1, 0, 0] (by kernel_rfl) ?_
    refine c_seq [1, 1, 0, 1, 0, 0, 1, 1, 0, 0, 0] [1, 1, 0, 1, 0, 0, 1, 1, 0, 0, 1] (by kernel_rfl) ?_
    refine c_reg 4 sched_c_R4 (by kernel_rfl) ?_
    refine at_pures 2 (by kernel_rfl) (by kernel_rfl) ?_
    refine at_done (by kernel_rfl) ?_
    refine then_n ?_
    refine c_seq [1, 1, 0, 1, 0, 0, 1, 1, 0, 0, 1, 0] [1, 1, 0, 1, 0, 0, 1, 1, 0, 0, 1, 1] (by kernel_rfl) ?_
    refine c_reg 5 sched_c_R5 (by kernel_rfl) ?_
    refine at_pures 4 (by kernel_rfl) (by kernel_rfl) ?_
    refine at_int (kd := .i64) (IntKind.i64.wrap ((4 : Int) * (t : Int))) ((4 : Int) * (t : Int)) (by kernel_rfl) (by kernel_rfl) (wrapN_i64 (by omega) (by omega)) ?_
    refine at_pures 6 (by kernel_rfl) (by kernel_rfl) ?_
    refine at_int (kd := .i64) (IntKind.i64.wrap ((4 : Int) * (t : Int))) ((4 : Int) * (t : Int)) (by kernel_rfl) (by kernel_rfl) (wrapN_i64 (by omega) (by omega)) ?_
    refine at_int (kd := .i64) (IntKind.i64.wrap (((4 : Int) * (t : Int)) + (4 : Int))) (((4 : Int) * (t : Int)) + (4 : Int)) (by kernel_rfl) (by kernel_rfl) (wrapN_i64 (by omega) (by omega)) ?_
    refine at_run (.slice (some ⟨bh, 8 + (4 * t) * 1, none⟩) 4 (64 - 4 * t)) _ (by kernel_rfl) (run_cut_arrN 130 (.tmp 13) (some (.tmp 15)) (some (.tmp 18)) 1 bh 8 64 (4 * t) ((4 * t) + 4) (by kernel_rfl) (by kernel_rfl) (by kernel_rfl) (by kernel_rfl) (by kernel_rfl) (by kernel_rfl) (by omega) (by omega) (by omega) 4 (by omega)) ?_
    have h26_ : Rd w23_ (some ⟨bh, 8 + (4 * t) * 1, none⟩) (B ((q.drop (4 * t)).take 4)) := Rd.of_left q_0L21_ hql
    have hp4 : ((q.drop (4 * t)).take 4).length = 4 := by rw [List.length_take, List.length_drop]; omega
    have hBp : Byt ((q.drop (4 * t)).take 4) := (hB.drop _).take 4
    refine at_pures 11 (by kernel_rfl) (by kernel_rfl) ?_
    refine at_done (by kernel_rfl) ?_
    refine then_n ?_
    refine c_block 2 [1, 1, 0, 1, 0, 0, 1, 1, 0, 0, 1, 1, 0] (by kernel_rfl) ?_
    refine c_loop (fun a w' => ∃ (k : Nat), (∃ u, a = mk 64 [(0, (.pointer (some ⟨bh, 0, none⟩))), (2, (.pointer (some ⟨b1_, 0, none⟩))), (3, (.pointer (some ⟨b9_, 0, none⟩))), (4, (.int .i64 (t : Int))), (8, (.int .i64 (t : Int))), (9, (.bool (decide ((t : Int) < (16 : Int))))), (10, (.int .i64 (t : Int))), (11, (.pointer (some ⟨bh, 0, none⟩))), (12, (.pointer (some ⟨bh, 0, none⟩))), (13, (.pointer (some ⟨bh, 8, none⟩))), (14, (.int .i64 (t : Int))), (15, (.int .i64 ((4 : Int) * (t : Int)))), (16, (.int .i64 (t : Int))), (17, (.int .i64 ((4 : Int) * (t : Int)))), (18, (.int .i64 (((4 : Int) * (t : Int)) + (4 : Int)))), (19, (.slice (some ⟨bh, 8 + (4 * t) * 1, none⟩) 4 (64 - 4 * t))), (20, (.int .i64 4)), (21, (.int .i64 (k : Int)))] u) ∧ (k ≤ 4) ∧ (w'.heap[bh]? = some (.cells (hsC S q n) 132 (0, 0))) ∧ (w'.heap[b1_]? = some (.cells #[(.int .u32 0), (.int .u32 0), (.int .u32 0), (.int .u32 0), (.int .u32 0), (.int .u32 0), (.int .u32 0), (.int .u32 0), (.int .u32 0), (.int .u32 0), (.int .u32 0), (.int .u32 0), (.int .u32 0), (.int .u32 0), (.int .u32 0), (.int .u32 0), (.int .u32 0), (.int .u32 0), (.int .u32 0), (.int .u32 0), (.int .u32 0), (.int .u32 0), (.int .u32 0), (.int .u32 0), (.int .u32 0), (.int .u32 0), (.int .u32 0), (.int .u32 0), (.int .u32 0), (.int .u32 0), (.int .u32 0), (.int .u32 0), (.int .u32 0), (.int .u32 0), (.int .u32 0), (.int .u32 0), (.int .u32 0), (.int .u32 0), (.int .u32 0), (.int .u32 0), (.int .u32 0), (.int .u32 0), (.int .u32 0), (.int .u32 0), (.int .u32 0), (.int .u32 0), (.int .u32 0), (.int .u32 0), (.int .u32 0), (.int .u32 0), (.int .u32 0), (.int .u32 0), (.int .u32 0), (.int .u32 0), (.int .u32 0), (.int .u32 0), (.int .u32 0), (.int .u32 0), (.int .u32 0), (.int .u32 0), (.int .u32 0), (.int .u32 0), (.int .u32 0), (.int .u32 0)] 137 (0, 0))) ∧ (w'.heap[b9_]? = some (.cells (hw ((wS q t).set t (BitVec.ofNat 32 (num (((q.drop (4 * t)).take 4).take k))))) 137 (0, 0))) ∧ (Rd w' (some ⟨bh, 8 + (4 * t) * 1, none⟩) (B ((q.drop (4 * t)).take 4))) ∧ (Fr w w' N0)) (fun a _ => cnt (4) 21 a) [1, 1, 0, 1, 0, 0, 1, 1, 0, 0, 1, 1, 0, 0] (by kernel_rfl) ⟨0, is_mk (by kernel_rfl) (by kernel_rfl) (by kernel_rfl), ⟨Nat.zero_le _, q_0L21_, q_1L21_, (by rw [hw_set0 (q := q) (t := t) (by omega)]; exact q_2L21_), h26_, hFrL21_⟩⟩ ?_
    rintro a28_ w29_ ⟨k, ⟨u30_, rfl⟩, ⟨hk, q_0L27_, q_1L27_, q_2L27_, q_3L27_, hFrL27_⟩⟩
    refine c_seq [1, 1, 0, 1, 0, 0, 1, 1, 0, 0, 1, 1, 0, 0, 0] [1, 1, 0, 1, 0, 0, 1, 1, 0, 0, 1, 1, 0, 0, 1] (by kernel_rfl) ?_
    refine c_reg 6 sched_c_R6 (by kernel_rfl) ?_
    refine at_pures 1 (by kernel_rfl) (by kernel_rfl) ?_
    refine at_done (by kernel_rfl) ?_
    refine then_n ?_
    refine c_seq [1, 1, 0, 1, 0, 0, 1, 1, 0, 0, 1, 1, 0, 0, 1, 0] [1, 1, 0, 1, 0, 0, 1, 1, 0, 0, 1, 1, 0, 0, 1, 1] (by kernel_rfl) ?_
    refine c_if (.tmp 22) (decide ((k : Int) < (4 : Int))) [1, 1, 0, 1, 0, 0, 1, 1, 0, 0, 1, 1, 0, 0, 1, 0, 0] [1, 1, 0, 1, 0, 0, 1, 1, 0, 0, 1, 1, 0, 0, 1, 0, 1] (by kernel_rfl) (by kernel_rfl) (fun c31_ => ?_) (fun c31_ => ?_)
    · -- yes
      replace c31_ : (k : Int) < (4 : Int) := of_decide_eq_true c31_
      refine c_skip (by kernel_rfl) ?_
      refine then_n ?_
      refine c_seq [1, 1, 0, 1, 0, 0, 1, 1, 0, 0, 1, 1, 0, 0, 1, 1, 0] [1, 1, 0, 1, 0, 0, 1, 1, 0, 0, 1, 1, 0, 0, 1, 1, 1] (by kernel_rfl) ?_
      refine c_block 3 [1, 1, 0, 1, 0, 0, 1, 1, 0, 0, 1, 1, 0, 0, 1, 1, 0, 0] (by kernel_rfl) ?_
      refine c_seq [1, 1, 0, 1, 0, 0, 1, 1, 0, 0, 1, 1, 0, 0, 1, 1, 0, 0, 0] [1, 1, 0, 1, 0, 0, 1, 1, 0, 0, 1, 1, 0, 0, 1, 1, 0, 0, 1] (by kernel_rfl) ?_
      refine c_reg 7 sched_c_R7 (by kernel_rfl) ?_
      obtain ⟨ad32_, ha33_⟩ := q_3L27_.has (k * 1) (by rw [B_length, hp4]; omega)
      refine at_run (.pointer (some (ad32_.add (k * 1)))) _ (by kernel_rfl) (run_idx_o 64 (.tmp 19) (.tmp 21) 1 (some ⟨bh, 8 + (4 * t) * 1, none⟩) ad32_ 4 (64 - 4 * t) .i64 k (by kernel_rfl) (by kernel_rfl) (by kernel_rfl) (by kernel_rfl) (by kernel_rfl) ha33_ (by omega)) ?_
      refine at_run (.int .u8 (((((q.drop (4 * t)).take 4)).getD k 0 : Nat) : Int)) _ (by kernel_rfl) (run_loadE1 5 (.tmp 23) (some ⟨bh, 8 + (4 * t) * 1, none⟩) ad32_ (k * 1) (B ((q.drop (4 * t)).take 4)) (.int .u8 (((((q.drop (4 * t)).take 4)).getD k 0 : Nat) : Int)) (by kernel_rfl) (by kernel_rfl) (by kernel_rfl) ha33_ q_3L27_ (by rw [Nat.mul_one]; exact B_getD _ _ (by first | omega | (simp only [List.length_take, List.length_drop]; omega)))) ?_
      refine at_pures 3 (by kernel_rfl) (by kernel_rfl) ?_
      refine at_done (by kernel_rfl) ?_
      refine then_n ?_
      refine c_reg 8 sched_c_R8 (by kernel_rfl) ?_
      refine at_pures 2 (by kernel_rfl) (by kernel_rfl) ?_
      refine at_run (.pointer (some ⟨b9_, 0 + t * 1, none⟩)) _ (by kernel_rfl) (run_idx_arr 137 (.tmp 3) (.tmp 26) 1 b9_ 0 64 .i64 t (by kernel_rfl) (by kernel_rfl) (by kernel_rfl) (by kernel_rfl) (by kernel_rfl) (by omega)) ?_
      refine at_run (.int .u32 ((((wS q t).set t (BitVec.ofNat 32 (num (((q.drop (4 * t)).take 4).take k)))).getD t 0).toNat : Int)) _ (by kernel_rfl) (run_load1 29 (.tmp 27) b9_ (0 + t * 1) _ _ _ (.int .u32 ((((wS q t).set t (BitVec.ofNat 32 (num (((q.drop (4 * t)).take 4).take k)))).getD t 0).toNat : Int)) (by kernel_rfl) (by kernel_rfl) (by kernel_rfl) q_2L27_ (hw_get ((wS q t).set t (BitVec.ofNat 32 (num (((q.drop (4 * t)).take 4).take k)))) t (by omega))) ?_
      refine at_int (kd := .u32) (IntKind.u32.wrap (((((wS q t).set t (BitVec.ofNat 32 (num (((q.drop (4 * t)).take 4).take k)))).getD t 0).toNat : Int) * 2 ^ 8)) ((((((wS q t).set t (BitVec.ofNat 32 (num (((q.drop (4 * t)).take 4).take k)))).getD t 0) <<< 8).toNat : Int)) (by kernel_rfl) (by kernel_rfl) (bv_shl (((wS q t).set t (BitVec.ofNat 32 (num (((q.drop (4 * t)).take 4).take k)))).getD t 0) 8) ?_
      refine at_pures 6 (by kernel_rfl) (by kernel_rfl) ?_
      refine at_int (kd := .u32) (IntKind.u32.wrap ((((((q.drop (4 * t)).take 4)).getD k 0 : Nat) : Int))) (((BitVec.ofNat 32 (((q.drop (4 * t)).take 4).getD k 0)).toNat : Int)) (by kernel_rfl) (by kernel_rfl) (conv_u32 (getD_lt hBp k)) ?_
      refine at_int (kd := .u32) (IntKind.u32.wrap (((BitVec.ofInt 32 (((((wS q t).set t (BitVec.ofNat 32 (num (((q.drop (4 * t)).take 4).take k)))).getD t 0) <<< 8).toNat : Int) ||| BitVec.ofInt 32 ((BitVec.ofNat 32 (((q.drop (4 * t)).take 4).getD k 0)).toNat : Int)).toNat : Int))) (((((((wS q t).set t (BitVec.ofNat 32 (num (((q.drop (4 * t)).take 4).take k)))).getD t 0) <<< 8) ||| (BitVec.ofNat 32 (((q.drop (4 * t)).take 4).getD k 0))).toNat : Int)) (by kernel_rfl) (by kernel_rfl) (bv_or ((((wS q t).set t (BitVec.ofNat 32 (num (((q.drop (4 * t)).take 4).take k)))).getD t 0) <<< 8) (BitVec.ofNat 32 (((q.drop (4 * t)).take 4).getD k 0))) ?_
      refine at_run (.pointer (some ⟨b9_, 0 + t * 1, none⟩)) _ (by kernel_rfl) (run_idx_arr 137 (.tmp 3) (.tmp 25) 1 b9_ 0 64 .i64 t (by kernel_rfl) (by kernel_rfl) (by kernel_rfl) (by kernel_rfl) (by kernel_rfl) (by omega)) ?_
      refine at_do (by kernel_rfl) (op_store1 29 (.tmp 33) (.tmp 32) b9_ (0 + t * 1) (.int .u32 ((((((wS q t).set t (BitVec.ofNat 32 (num (((q.drop (4 * t)).take 4).take k)))).getD t 0) <<< 8) ||| (BitVec.ofNat 32 (((q.drop (4 * t)).take 4).getD k 0))).toNat : Int)) _ _ (hw ((wS q t).set t (BitVec.ofNat 32 (num (((q.drop (4 * t)).take 4).take (k + 1)))))) (by kernel_rfl) (by kernel_rfl) (by kernel_rfl) (by rfl) (by rfl) q_2L27_ (by kernel_rfl) (Nat.ble_eq_true_of_le (by show 0 + t * 1 + 1 ≤ 64; omega)) (by rw [getD_set (by rw [wS_length]; omega), if_pos rfl, wd_step hB (by omega) (by omega), hw_set (by rw [List.length_set, wS_length]) (by omega), List.set_set]) (fun w34_ h35_ z36_ F37_ => ?_))
      have T38_ := Fr.then hFrL27_ F37_ N17_
      have h39_ := Fr.keep F37_ q_0L27_ (Dis.sym d15_)
      have h40_ := Fr.keep F37_ q_1L27_ (Dis.sym d16_)
      have h41_ := Rd.keep' q_3L27_ F37_ (Sub.dis Sub.arOff (Dis.sym d15_))
      refine at_done (by kernel_rfl) ?_
      refine blk_n ?_
      refine then_n ?_
      refine c_reg 9 sched_c_R9 (by kernel_rfl) ?_
      refine at_int (kd := .i64) (IntKind.i64.wrap ((k : Int) + (1 : Int))) ((k : Int) + (1 : Int)) (by kernel_rfl) (by kernel_rfl) (wrapN_i64 (by omega) (by omega)) ?_
      refine at_pures 2 (by kernel_rfl) (by kernel_rfl) ?_
      refine at_done (by kernel_rfl) ?_
      refine then_n ?_
      exact ⟨⟨k + 1, is_mk (by kernel_rfl) (by kernel_rfl) (by kernel_rfl), ⟨(by omega), h39_, h40_, h35_, h41_, T38_⟩⟩, cnt_lt (k := (k : Int)) (k' := ((k : Int) + (1 : Int))) (by kernel_rfl) (by kernel_rfl) (by omega) (by omega)⟩
    · -- no
      replace c31_ : ¬ ((k : Int) < (4 : Int)) := of_decide_eq_false c31_
      refine c_exit 2 (by kernel_rfl) ?_
      refine then_e ?_
      refine then_e ?_
      refine blk_hit ?_
      refine blk_n ?_
      refine then_n ?_
      refine c_reg 10 sched_c_R10 (by kernel_rfl) ?_
      refine at_int (kd := .i64) (IntKind.i64.wrap ((t : Int) + (1 : Int))) ((t : Int) + (1 : Int)) (by kernel_rfl) (by kernel_rfl) (wrapN_i64 (by omega) (by omega)) ?_
      refine at_pures 2 (by kernel_rfl) (by kernel_rfl) ?_
      refine at_done (by kernel_rfl) ?_
      refine then_n ?_
      exact ⟨⟨t + 1, is_mk (by kernel_rfl) (by kernel_rfl) (by kernel_rfl), ⟨(by omega), q_0L27_, q_1L27_, (by have e : k = 4 := (by omega); subst e; rw [List.take_take] at q_2L27_; rw [show wS q (t + 1) = (wS q t).set t (wd q t) from by rw [wS, if_pos (by omega)]]; exact q_2L27_), hFrL27_⟩⟩, cnt_lt (k := (t : Int)) (k' := ((t : Int) + (1 : Int))) (by kernel_rfl) (by kernel_rfl) (by omega) (by omega)⟩
  · -- no
    replace c25_ : ¬ ((t : Int) < (16 : Int)) := of_decide_eq_false c25_
    refine c_exit 0 (by kernel_rfl) ?_
    refine then_e ?_
    refine then_e ?_
    refine blk_hit ?_
    refine then_n ?_
    refine c_seq [1, 1, 1, 0] [1, 1, 1, 1] (by kernel_rfl) ?_
    refine c_seq [1, 1, 1, 0, 0] [1, 1, 1, 0, 1] (by kernel_rfl) ?_
    refine c_reg 11 sched_c_R11 (by kernel_rfl) ?_
    refine at_pures 1 (by kernel_rfl) (by kernel_rfl) ?_
    refine at_done (by kernel_rfl) ?_
    refine then_n ?_
    refine c_block 4 [1, 1, 1, 0, 1, 0] (by kernel_rfl) ?_
    refine c_loop (fun a w' => ∃ (t2 : Nat), (∃ u, a = mk 64 [(0, (.pointer (some ⟨bh, 0, none⟩))), (2, (.pointer (some ⟨b1_, 0, none⟩))), (3, (.pointer (some ⟨b9_, 0, none⟩))), (7, (.int .i64 (t2 : Int))), (8, (.int .i64 (t : Int))), (9, (.bool (decide ((t : Int) < (16 : Int)))))] u) ∧ (16 ≤ t2) ∧ (t2 ≤ 64) ∧ (w'.heap[bh]? = some (.cells (hsC S q n) 132 (0, 0))) ∧ (w'.heap[b1_]? = some (.cells #[(.int .u32 0), (.int .u32 0), (.int .u32 0), (.int .u32 0), (.int .u32 0), (.int .u32 0), (.int .u32 0), (.int .u32 0), (.int .u32 0), (.int .u32 0), (.int .u32 0), (.int .u32 0), (.int .u32 0), (.int .u32 0), (.int .u32 0), (.int .u32 0), (.int .u32 0), (.int .u32 0), (.int .u32 0), (.int .u32 0), (.int .u32 0), (.int .u32 0), (.int .u32 0), (.int .u32 0), (.int .u32 0), (.int .u32 0), (.int .u32 0), (.int .u32 0), (.int .u32 0), (.int .u32 0), (.int .u32 0), (.int .u32 0), (.int .u32 0), (.int .u32 0), (.int .u32 0), (.int .u32 0), (.int .u32 0), (.int .u32 0), (.int .u32 0), (.int .u32 0), (.int .u32 0), (.int .u32 0), (.int .u32 0), (.int .u32 0), (.int .u32 0), (.int .u32 0), (.int .u32 0), (.int .u32 0), (.int .u32 0), (.int .u32 0), (.int .u32 0), (.int .u32 0), (.int .u32 0), (.int .u32 0), (.int .u32 0), (.int .u32 0), (.int .u32 0), (.int .u32 0), (.int .u32 0), (.int .u32 0), (.int .u32 0), (.int .u32 0), (.int .u32 0), (.int .u32 0)] 137 (0, 0))) ∧ (w'.heap[b9_]? = some (.cells (hw (wS q t2)) 137 (0, 0))) ∧ (Fr w w' N0)) (fun a _ => cnt (64) 7 a) [1, 1, 1, 0, 1, 0, 0] (by kernel_rfl) ⟨16, is_mk (by kernel_rfl) (by kernel_rfl) (by kernel_rfl), ⟨Nat.le_refl _, (by decide), q_0L21_, q_1L21_, (by rw [show t = 16 from by omega] at q_2L21_; exact q_2L21_), hFrL21_⟩⟩ ?_
    rintro a43_ w44_ ⟨t2, ⟨u45_, rfl⟩, ⟨ht1, ht2, q_0L42_, q_1L42_, q_2L42_, hFrL42_⟩⟩
    refine c_seq [1, 1, 1, 0, 1, 0, 0, 0] [1, 1, 1, 0, 1, 0, 0, 1] (by kernel_rfl) ?_
    refine c_seq [1, 1, 1, 0, 1, 0, 0, 0, 0] [1, 1, 1, 0, 1, 0, 0, 0, 1] (by kernel_rfl) ?_
    refine c_reg 12 sched_c_R12 (by kernel_rfl) ?_
    refine at_pures 2 (by kernel_rfl) (by kernel_rfl) ?_
    refine at_done (by kernel_rfl) ?_
    refine then_n ?_
    refine c_if (.tmp 37) (decide ((t2 : Int) < (64 : Int))) [1, 1, 1, 0, 1, 0, 0, 0, 1, 0] [1, 1, 1, 0, 1, 0, 0, 0, 1, 1] (by kernel_rfl) (by kernel_rfl) (fun c46_ => ?_) (fun c46_ => ?_)
    · -- yes
      replace c46_ : (t2 : Int) < (64 : Int) := of_decide_eq_true c46_
      refine c_skip (by kernel_rfl) ?_
      refine then_n ?_
      refine c_seq [1, 1, 1, 0, 1, 0, 0, 1, 0] [1, 1, 1, 0, 1, 0, 0, 1, 1] (by kernel_rfl) ?_
      refine c_block 5 [1, 1, 1, 0, 1, 0, 0, 1, 0, 0] (by kernel_rfl) ?_
      refine c_plan 14 sched_c_R14 (fun w' => w'.heap[b9_]? = some (.cells (hw (wS q t2)) 137 (0, 0)) ∧ True) sched_c_sk14 sched_c_pl14 (by kernel_rfl) (by kernel_rfl) (by kernel_rfl) (by kernel_rfl) (by kernel_rfl) (fun w47_ F48_ => ?_)
      have T49_ := Fr.tr hFrL42_ F48_
      have h51_ := Fr.keep F48_ q_2L42_ Dis.n0
      have S50_ : w47_.heap[b9_]? = some (.cells (hw (wS q t2)) 137 (0, 0)) ∧ True := ⟨h51_, trivial⟩
      refine pl_pures 2 (by kernel_rfl) (by kernel_rfl) (off (by kernel_rfl)) ?_
      refine pl_as 2 (.int .i64 (IntKind.i64.wrap ((t2 : Int) - (2 : Int)))) (.int .i64 ((t2 - 2 : Nat) : Int)) (by kernel_rfl) (by kernel_rfl) ⟨by kernel_rfl, by kernel_rfl⟩ (congrArg (Value.int .i64) (by rw [wrapN_i64 (by omega) (by omega)]; omega)) (off (by kernel_rfl)) ?_
      refine pl_quiet 3 (.pointer (some ⟨b9_, 0 + (t2 - 2 : Nat) * 1, none⟩)) (by kernel_rfl) (by kernel_rfl) (fun w' => run_idx_arr 137 (.tmp 3) (.tmp 42) 1 b9_ 0 64 .i64 (t2 - 2 : Nat) (by kernel_rfl) (by kernel_rfl) (by kernel_rfl) (by kernel_rfl) (by kernel_rfl) (by omega)) (off (by kernel_rfl)) ?_
      refine pl_read 4 (.int .u32 (((wS q t2).getD (t2 - 2 : Nat) 0).toNat : Int)) (by kernel_rfl) (by kernel_rfl) (fun w' hs => run_load1 29 (.tmp 43) b9_ (0 + (t2 - 2 : Nat) * 1) _ _ _ (.int .u32 (((wS q t2).getD (t2 - 2 : Nat) 0).toNat : Int)) (by kernel_rfl) (by kernel_rfl) (by kernel_rfl) hs.1 (hw_get (wS q t2) (t2 - 2 : Nat) (by omega))) S50_ ?_
      refine pl_pures 6 (by kernel_rfl) (by kernel_rfl) (fun _ => S50_) ?_
      refine pl_as 7 (.int .i64 (IntKind.i64.wrap ((t2 : Int) - (7 : Int)))) (.int .i64 ((t2 - 7 : Nat) : Int)) (by kernel_rfl) (by kernel_rfl) ⟨by kernel_rfl, by kernel_rfl⟩ (congrArg (Value.int .i64) (by rw [wrapN_i64 (by omega) (by omega)]; omega)) (fun _ => S50_) ?_
      refine pl_quiet 8 (.pointer (some ⟨b9_, 0 + (t2 - 7 : Nat) * 1, none⟩)) (by kernel_rfl) (by kernel_rfl) (fun w' => run_idx_arr 137 (.tmp 3) (.tmp 47) 1 b9_ 0 64 .i64 (t2 - 7 : Nat) (by kernel_rfl) (by kernel_rfl) (by kernel_rfl) (by kernel_rfl) (by kernel_rfl) (by omega)) (fun _ => S50_) ?_
      refine pl_read 9 (.int .u32 (((wS q t2).getD (t2 - 7 : Nat) 0).toNat : Int)) (by kernel_rfl) (by kernel_rfl) (fun w' hs => run_load1 29 (.tmp 48) b9_ (0 + (t2 - 7 : Nat) * 1) _ _ _ (.int .u32 (((wS q t2).getD (t2 - 7 : Nat) 0).toNat : Int)) (by kernel_rfl) (by kernel_rfl) (by kernel_rfl) hs.1 (hw_get (wS q t2) (t2 - 7 : Nat) (by omega))) S50_ ?_
      refine pl_pures 10 (by kernel_rfl) (by kernel_rfl) (fun _ => S50_) ?_
      refine pl_as 12 (.int .i64 (IntKind.i64.wrap ((t2 : Int) - (15 : Int)))) (.int .i64 ((t2 - 15 : Nat) : Int)) (by kernel_rfl) (by kernel_rfl) ⟨by kernel_rfl, by kernel_rfl⟩ (congrArg (Value.int .i64) (by rw [wrapN_i64 (by omega) (by omega)]; omega)) (fun _ => S50_) ?_
      refine pl_quiet 13 (.pointer (some ⟨b9_, 0 + (t2 - 15 : Nat) * 1, none⟩)) (by kernel_rfl) (by kernel_rfl) (fun w' => run_idx_arr 137 (.tmp 3) (.tmp 52) 1 b9_ 0 64 .i64 (t2 - 15 : Nat) (by kernel_rfl) (by kernel_rfl) (by kernel_rfl) (by kernel_rfl) (by kernel_rfl) (by omega)) (fun _ => S50_) ?_
      refine pl_read 14 (.int .u32 (((wS q t2).getD (t2 - 15 : Nat) 0).toNat : Int)) (by kernel_rfl) (by kernel_rfl) (fun w' hs => run_load1 29 (.tmp 53) b9_ (0 + (t2 - 15 : Nat) * 1) _ _ _ (.int .u32 (((wS q t2).getD (t2 - 15 : Nat) 0).toNat : Int)) (by kernel_rfl) (by kernel_rfl) (by kernel_rfl) hs.1 (hw_get (wS q t2) (t2 - 15 : Nat) (by omega))) S50_ ?_
      refine pl_pures 14 (by kernel_rfl) (by kernel_rfl) (fun _ => S50_) ?_
      refine pl_as 18 (.int .i64 (IntKind.i64.wrap ((t2 : Int) - (16 : Int)))) (.int .i64 ((t2 - 16 : Nat) : Int)) (by kernel_rfl) (by kernel_rfl) ⟨by kernel_rfl, by kernel_rfl⟩ (congrArg (Value.int .i64) (by rw [wrapN_i64 (by omega) (by omega)]; omega)) (fun _ => S50_) ?_
      refine pl_quiet 19 (.pointer (some ⟨b9_, 0 + (t2 - 16 : Nat) * 1, none⟩)) (by kernel_rfl) (by kernel_rfl) (fun w' => run_idx_arr 137 (.tmp 3) (.tmp 58) 1 b9_ 0 64 .i64 (t2 - 16 : Nat) (by kernel_rfl) (by kernel_rfl) (by kernel_rfl) (by kernel_rfl) (by kernel_rfl) (by omega)) (fun _ => S50_) ?_
      refine pl_read 20 (.int .u32 (((wS q t2).getD (t2 - 16 : Nat) 0).toNat : Int)) (by kernel_rfl) (by kernel_rfl) (fun w' hs => run_load1 29 (.tmp 59) b9_ (0 + (t2 - 16 : Nat) * 1) _ _ _ (.int .u32 (((wS q t2).getD (t2 - 16 : Nat) 0).toNat : Int)) (by kernel_rfl) (by kernel_rfl) (by kernel_rfl) hs.1 (hw_get (wS q t2) (t2 - 16 : Nat) (by omega))) S50_ ?_
      have h52_ := Fr.keep F48_ q_0L42_ Dis.n0
      have h53_ := Fr.keep F48_ q_1L42_ Dis.n0
      refine pl_do 5 (by kernel_rfl) (by kernel_rfl) (op_call 88 #[(.tmp 44), (.const (.int .i64 17)), (.const (.int .i64 19)), (.const (.int .i64 10))] #[(.int .u32 (((wS q t2).getD (t2 - 2 : Nat) 0).toNat : Int)), (.int .i64 17), (.int .i64 19), (.int .i64 10)] (by kernel_rfl) (by kernel_rfl) (by kernel_rfl) ?_)
      have C58_ := shifted_c ((wS q t2).getD (t2 - 2 : Nat) 0) 17 19 10 w47_   (by first | omega | with_reducible assumption | (simp only [List.length_append, List.length_cons, List.length_nil, putB_length]; omega) | decide) (by first | omega | with_reducible assumption | (simp only [List.length_append, List.length_cons, List.length_nil, putB_length]; omega) | decide) (by first | omega | with_reducible assumption | (simp only [List.length_append, List.length_cons, List.length_nil, putB_length]; omega) | decide)
      refine Calls.mono C58_ ?_
      rintro e57_ w55_ ⟨rfl, F56_⟩
      refine ⟨_, rfl, ?_⟩
      have T59_ := Fr.tr T49_ F56_
      have h60_ := Fr.keep F56_ h52_ Dis.n0
      have h61_ := Fr.keep F56_ h53_ Dis.n0
      have h62_ := Fr.keep F56_ h51_ Dis.n0
      have S63_ : w55_.heap[b9_]? = some (.cells (hw (wS q t2)) 137 (0, 0)) ∧ True := ⟨h62_, trivial⟩
      refine ⟨fun _ => S63_, ?_⟩
      refine pl_as 10 (.int .u32 (IntKind.u32.wrap (((sh ((wS q t2).getD (t2 - 2 : Nat) 0) 17 19 10).toNat : Int) + (((wS q t2).getD (t2 - 7 : Nat) 0).toNat : Int)))) (.int .u32 (((sh ((wS q t2).getD (t2 - 2 : Nat) 0) 17 19 10) + ((wS q t2).getD (t2 - 7 : Nat) 0)).toNat : Int)) (by kernel_rfl) (by kernel_rfl) ⟨by kernel_rfl, by kernel_rfl⟩ (congrArg (Value.int .u32) (bv_add (sh ((wS q t2).getD (t2 - 2 : Nat) 0) 17 19 10) ((wS q t2).getD (t2 - 7 : Nat) 0))) (fun _ => S63_) ?_
      refine pl_do 15 (by kernel_rfl) (by kernel_rfl) (op_call 88 #[(.tmp 54), (.const (.int .i64 7)), (.const (.int .i64 18)), (.const (.int .i64 3))] #[(.int .u32 (((wS q t2).getD (t2 - 15 : Nat) 0).toNat : Int)), (.int .i64 7), (.int .i64 18), (.int .i64 3)] (by kernel_rfl) (by kernel_rfl) (by kernel_rfl) ?_)
      have C68_ := shifted_c ((wS q t2).getD (t2 - 15 : Nat) 0) 7 18 3 w55_   (by first | omega | with_reducible assumption | (simp only [List.length_append, List.length_cons, List.length_nil, putB_length]; omega) | decide) (by first | omega | with_reducible assumption | (simp only [List.length_append, List.length_cons, List.length_nil, putB_length]; omega) | decide) (by first | omega | with_reducible assumption | (simp only [List.length_append, List.length_cons, List.length_nil, putB_length]; omega) | decide)
      refine Calls.mono C68_ ?_
      rintro e67_ w65_ ⟨rfl, F66_⟩
      refine ⟨_, rfl, ?_⟩
      have T69_ := Fr.tr T59_ F66_
      have h70_ := Fr.keep F66_ h60_ Dis.n0
      have h71_ := Fr.keep F66_ h61_ Dis.n0
      have h72_ := Fr.keep F66_ h62_ Dis.n0
      have S73_ : w65_.heap[b9_]? = some (.cells (hw (wS q t2)) 137 (0, 0)) ∧ True := ⟨h72_, trivial⟩
      refine ⟨fun _ => S73_, ?_⟩
      refine pl_as 16 (.int .u32 (IntKind.u32.wrap ((((sh ((wS q t2).getD (t2 - 2 : Nat) 0) 17 19 10) + ((wS q t2).getD (t2 - 7 : Nat) 0)).toNat : Int) + ((sh ((wS q t2).getD (t2 - 15 : Nat) 0) 7 18 3).toNat : Int)))) (.int .u32 ((((sh ((wS q t2).getD (t2 - 2 : Nat) 0) 17 19 10) + ((wS q t2).getD (t2 - 7 : Nat) 0)) + (sh ((wS q t2).getD (t2 - 15 : Nat) 0) 7 18 3)).toNat : Int)) (by kernel_rfl) (by kernel_rfl) ⟨by kernel_rfl, by kernel_rfl⟩ (congrArg (Value.int .u32) (bv_add ((sh ((wS q t2).getD (t2 - 2 : Nat) 0) 17 19 10) + ((wS q t2).getD (t2 - 7 : Nat) 0)) (sh ((wS q t2).getD (t2 - 15 : Nat) 0) 7 18 3))) (fun _ => S73_) ?_
      refine pl_as 21 (.int .u32 (IntKind.u32.wrap (((((sh ((wS q t2).getD (t2 - 2 : Nat) 0) 17 19 10) + ((wS q t2).getD (t2 - 7 : Nat) 0)) + (sh ((wS q t2).getD (t2 - 15 : Nat) 0) 7 18 3)).toNat : Int) + (((wS q t2).getD (t2 - 16 : Nat) 0).toNat : Int)))) (.int .u32 (((((sh ((wS q t2).getD (t2 - 2 : Nat) 0) 17 19 10) + ((wS q t2).getD (t2 - 7 : Nat) 0)) + (sh ((wS q t2).getD (t2 - 15 : Nat) 0) 7 18 3)) + ((wS q t2).getD (t2 - 16 : Nat) 0)).toNat : Int)) (by kernel_rfl) (by kernel_rfl) ⟨by kernel_rfl, by kernel_rfl⟩ (congrArg (Value.int .u32) (bv_add (((sh ((wS q t2).getD (t2 - 2 : Nat) 0) 17 19 10) + ((wS q t2).getD (t2 - 7 : Nat) 0)) + (sh ((wS q t2).getD (t2 - 15 : Nat) 0) 7 18 3)) ((wS q t2).getD (t2 - 16 : Nat) 0))) (off (by kernel_rfl)) ?_
      refine pl_quiet 22 (.pointer (some ⟨b9_, 0 + t2 * 1, none⟩)) (by kernel_rfl) (by kernel_rfl) (fun w' => run_idx_arr 137 (.tmp 3) (.tmp 40) 1 b9_ 0 64 .i64 t2 (by kernel_rfl) (by kernel_rfl) (by kernel_rfl) (by kernel_rfl) (by kernel_rfl) (by omega)) (off (by kernel_rfl)) ?_
      refine pl_do 23 (by kernel_rfl) (by kernel_rfl) (op_store1 29 (.tmp 62) (.tmp 61) b9_ (0 + t2 * 1) (.int .u32 (((((sh ((wS q t2).getD (t2 - 2 : Nat) 0) 17 19 10) + ((wS q t2).getD (t2 - 7 : Nat) 0)) + (sh ((wS q t2).getD (t2 - 15 : Nat) 0) 7 18 3)) + ((wS q t2).getD (t2 - 16 : Nat) 0)).toNat : Int)) _ _ (hw (wS q (t2 + 1))) (by kernel_rfl) (by kernel_rfl) (by kernel_rfl) (by rfl) (by rfl) h72_ (by kernel_rfl) (Nat.ble_eq_true_of_le (by show 0 + t2 * 1 + 1 ≤ 64; omega)) (by rw [hw_set (wS_length q t2) (by omega), show wS q (t2 + 1) = (wS q t2).set t2 (wnx (wS q t2) t2) from by rw [wS, if_neg (by omega)]]; rfl) (fun w74_ h75_ z76_ F77_ => ?_))
      have T78_ := Fr.then T69_ F77_ N17_
      have h79_ := Fr.keep F77_ h70_ (Dis.sym d15_)
      have h80_ := Fr.keep F77_ h71_ (Dis.sym d16_)
      refine ⟨off (by kernel_rfl), ?_⟩
      refine pl_done (by kernel_rfl) ?_
      refine blk_n ?_
      refine then_n ?_
      refine c_reg 13 sched_c_R13 (by kernel_rfl) ?_
      refine at_pures 1 (by kernel_rfl) (by kernel_rfl) ?_
      refine at_int (kd := .i64) (IntKind.i64.wrap ((t2 : Int) + (1 : Int))) ((t2 : Int) + (1 : Int)) (by kernel_rfl) (by kernel_rfl) (wrapN_i64 (by omega) (by omega)) ?_
      refine at_pures 3 (by kernel_rfl) (by kernel_rfl) ?_
      refine at_done (by kernel_rfl) ?_
      refine then_n ?_
      exact ⟨⟨t2 + 1, is_mk (by kernel_rfl) (by kernel_rfl) (by kernel_rfl), ⟨(by omega), (by omega), h79_, h80_, h75_, T78_⟩⟩, cnt_lt (k := (t2 : Int)) (k' := ((t2 : Int) + (1 : Int))) (by kernel_rfl) (by kernel_rfl) (by omega) (by omega)⟩
    · -- no
      replace c46_ : ¬ ((t2 : Int) < (64 : Int)) := of_decide_eq_false c46_
      refine c_exit 4 (by kernel_rfl) ?_
      refine then_e ?_
      refine then_e ?_
      refine blk_hit ?_
      refine then_n ?_
      refine c_seq [1, 1, 1, 1, 0] [1, 1, 1, 1, 1] (by kernel_rfl) ?_
      refine c_reg 15 sched_c_R15 (by kernel_rfl) ?_
      refine at_loadN 137 (.tmp 3) b9_ 0 64 _ _ _ (hw (wS q t2)) (by kernel_rfl) (by kernel_rfl) (by kernel_rfl) (by kernel_rfl) (by kernel_rfl) q_2L42_ (by kernel_rfl) (by kernel_rfl) ?_
      refine at_do (by kernel_rfl) (op_store 137 (.tmp 2) (.tmp 63) b1_ 0 (.agg (hw (wS q t2))) _ _ (hw (wS q t2)) (by kernel_rfl) (by kernel_rfl) (by kernel_rfl) q_1L42_ (by kernel_rfl) (by kernel_rfl) (by kernel_rfl) (by kernel_rfl) (fun w81_ h82_ z83_ F84_ => ?_))
      have T85_ := Fr.then hFrL42_ F84_ N7_
      have h86_ := Fr.keep F84_ q_0L42_ (Dis.sym d6_)
      have h87_ := Fr.keep F84_ q_2L42_ d16_
      refine at_done (by kernel_rfl) ?_
      refine then_n ?_
      refine c_ret (by kernel_rfl) ?_
      refine fin_retL [.cell 2 137] [(.agg (hw (wS q t2)))] (.agg (hw (wS q t2))) (by kernel_rfl) (by rfl) ⟨ResOne.cellN (off := 0) (n := 64) (vs := (hw (wS q t2))) (by kernel_rfl) (by kernel_rfl) (by kernel_rfl) h82_ (by kernel_rfl) (by kernel_rfl), trivial⟩ (by rfl) ?_
      exact ⟨(by rw [show t2 = 64 from by omega]), T85_⟩

noncomputable def mix_c_R0 : Array Oper := rAt Tryd.prog 78 [0]
noncomputable def mix_c_R1 : Array Oper := rAt Tryd.prog 78 [1, 0, 0]
noncomputable def mix_c_R2 : Array Oper := rAt Tryd.prog 78 [1, 0, 1, 0, 0, 0]
noncomputable def mix_c_R3 : Array Oper := rAt Tryd.prog 78 [1, 0, 1, 0, 0, 1, 1, 0, 0, 0]
noncomputable def mix_c_R4 : Array Oper := rAt Tryd.prog 78 [1, 0, 1, 0, 0, 1, 1, 0, 0, 1, 0]
noncomputable def mix_c_R5 : Array Oper := rAt Tryd.prog 78 [1, 0, 1, 0, 0, 1, 1, 0, 0, 1, 1, 0]
def mix_c_sk5 : Nat → Bool := fun i => decide (i ∈ [2, 3, 4, 5, 6, 7, 8, 9, 10, 11, 12])
def mix_c_pl5 : List (Nat × PK) := [(0, .q false), (1, .q true), (2, .q false), (3, .q true), (6, .q false), (8, .q false), (9, .q false), (10, .q true), (12, .q false), (4, .e), (5, .q false), (7, .q false), (11, .q false), (13, .q false), (14, .q false)]
noncomputable def mix_c_R6 : Array Oper := rAt Tryd.prog 78 [1, 0, 1, 0, 0, 1, 1, 0, 0, 1, 1, 1, 0]
def mix_c_sk6 : Nat → Bool := fun i => decide (i ∈ [2, 3, 4, 5, 6, 7, 8, 9, 10, 11, 12, 13, 14, 15, 16, 17, 18, 19])
def mix_c_pl6 : List (Nat × PK) := [(0, .q false), (1, .q true), (3, .q false), (4, .q true), (5, .q false), (6, .q true), (7, .q false), (8, .q false), (9, .q true), (10, .q false), (11, .q true), (12, .q false), (13, .q false), (14, .q false), (15, .q true), (16, .q false), (17, .q true), (18, .q false), (19, .q false), (2, .e), (20, .q false), (21, .q false)]
noncomputable def mix_c_R7 : Array Oper := rAt Tryd.prog 78 [1, 0, 1, 0, 0, 1, 1, 0, 0, 1, 1, 1, 1, 0]
def mix_c_sk7 : Nat → Bool := fun _ => false
def mix_c_pl7 : List (Nat × PK) := [(0, .q false), (1, .q false), (2, .e)]
noncomputable def mix_c_R8 : Array Oper := rAt Tryd.prog 78 [1, 0, 1, 0, 0, 1, 1, 0, 0, 1, 1, 1, 1, 1, 0]
noncomputable def mix_c_R9 : Array Oper := rAt Tryd.prog 78 [1, 0, 1, 0, 0, 1, 1, 0, 0, 1, 1, 1, 1, 1, 1]
noncomputable def mix_c_R10 : Array Oper := rAt Tryd.prog 78 [1, 0, 1, 0, 0, 1, 1, 1]
noncomputable def mix_c_R11 : Array Oper := rAt Tryd.prog 78 [1, 1, 0]
noncomputable def mix_c_R12 : Array Oper := rAt Tryd.prog 78 [1, 1, 1, 0, 0, 0]
noncomputable def mix_c_R13 : Array Oper := rAt Tryd.prog 78 [1, 1, 1, 0, 0, 1, 1, 0, 0, 0]
noncomputable def mix_c_R14 : Array Oper := rAt Tryd.prog 78 [1, 1, 1, 0, 0, 1, 1, 0, 0, 1]
def mix_c_sk14 : Nat → Bool := fun i => decide (i ∈ [6, 7, 8, 10, 11])
def mix_c_pl14 : List (Nat × PK) := [(0, .q false), (1, .q false), (2, .q false), (3, .q false), (4, .q false), (5, .q true), (6, .q false), (7, .q false), (8, .q true), (9, .q false), (10, .q false), (11, .q false), (12, .q false), (13, .e)]
noncomputable def mix_c_R15 : Array Oper := rAt Tryd.prog 78 [1, 1, 1, 0, 0, 1, 1, 1]
set_option maxRecDepth 100000 in
theorem mix_c (bh : Nat) (S : List W32) (q : List Nat) (n : Nat) (w : World) (h_hs : w.heap[bh]? = some (.cells (hsC S q n) 132 (0, 0))) (h_ks1 : Rd w (some ⟨1, 0, none⟩) ((hw KL).toList)) (d_ks1_hs : Dis (Ar (some ⟨1, 0, none⟩) ((hw KL).toList)) (One bh)) (hql : q.length = 64) (hB : Byt q) :
    Calls Tryd.prog 78 #[(.pointer (some ⟨bh, 0, none⟩))] w fun e w' => e = .returned (.tuple #[]) ∧ w'.heap[bh]? = some (.cells (hsC (compress S q) q n) 132 (0, 0)) ∧ Fr w w' (One bh) := by
  refine c_enter (mk 96 [(0, (.pointer (some ⟨bh, 0, none⟩)))] (fun _ => undef)) Tryd.func78 (by kernel_rfl) (by kernel_rfl) ?_
  refine c_seq [0] [1] (by kernel_rfl) ?_
  refine c_reg 0 mix_c_R0 (by kernel_rfl) ?_
  refine at_pures 3 (by kernel_rfl) (by kernel_rfl) ?_
  refine at_loadN 127 (.tmp 11) bh 0 8 _ _ _ (hw8 S) (by kernel_rfl) (by kernel_rfl) (by kernel_rfl) (by kernel_rfl) (by kernel_rfl) h_hs (by kernel_rfl) (by kernel_rfl) ?_
  refine at_do (by kernel_rfl) (op_new (.cells #[(.int .u32 0), (.int .u32 0), (.int .u32 0), (.int .u32 0), (.int .u32 0), (.int .u32 0), (.int .u32 0), (.int .u32 0)] 127) (fun N => (.pointer (some ⟨N, 0, none⟩))) (fun _ => by kernel_rfl) (fun w2_ b1_ h3_ q4_ F5_ => ?_))
  have d6_ : Dis (One b1_) (One bh) := Dis.fresh (New.one q4_) (In.one h_hs)
  have d7_ : Dis (One b1_) (Ar (some ⟨1, 0, none⟩) ((hw KL).toList)) := Dis.fresh (New.one q4_) (Rd.in h_ks1)
  have N8_ : New w (One bh) (One b1_) := New.made q4_ (Fr.size (Fr.refl w (One bh)))
  have T9_ := Fr.tr (Fr.refl w (One bh)) F5_
  have h10_ := Fr.keep F5_ h_hs Dis.n0
  have h11_ := Rd.keep' h_ks1 F5_ Dis.n0
  refine at_do (by kernel_rfl) (op_store 127 (.tmp 2) (.tmp 12) b1_ 0 (.agg (hw8 S)) _ _ (hw8 S) (by kernel_rfl) (by kernel_rfl) (by kernel_rfl) h3_ (by kernel_rfl) (by kernel_rfl) (by kernel_rfl) (by kernel_rfl) (fun w12_ h13_ z14_ F15_ => ?_))
  have T16_ := Fr.then T9_ F15_ N8_
  have h17_ := Fr.keep F15_ h10_ (Dis.sym d6_)
  have h18_ := Rd.keep' h11_ F15_ (Dis.sym d7_)
  refine at_done (by kernel_rfl) ?_
  refine then_n ?_
  refine c_seq [1, 0] [1, 1] (by kernel_rfl) ?_
  refine c_seq [1, 0, 0] [1, 0, 1] (by kernel_rfl) ?_
  refine c_reg 1 mix_c_R1 (by kernel_rfl) ?_
  refine at_pures 1 (by kernel_rfl) (by kernel_rfl) ?_
  refine at_do (by kernel_rfl) (op_call 86 #[(.tmp 13)] #[(.pointer (some ⟨bh, 0, none⟩))] (by kernel_rfl) (by kernel_rfl) (by kernel_rfl) ?_)
  have C23_ := sched_c bh S q n w12_ h17_  (by first | omega | with_reducible assumption | (simp only [List.length_append, List.length_cons, List.length_nil, putB_length]; omega) | decide) (by first | omega | with_reducible assumption | (simp only [List.length_append, List.length_cons, List.length_nil, putB_length]; omega) | decide)
  refine Calls.mono C23_ ?_
  rintro e22_ w20_ ⟨rfl, F21_⟩
  refine ⟨_, rfl, ?_⟩
  have T24_ := Fr.tr T16_ F21_
  have h25_ := Fr.keep F21_ h17_ Dis.n0
  have h26_ := Rd.keep' h18_ F21_ Dis.n0
  have h27_ := Fr.keep F21_ h13_ Dis.n0
  refine at_pures 3 (by kernel_rfl) (by kernel_rfl) ?_
  refine at_done (by kernel_rfl) ?_
  refine then_n ?_
  refine c_block 0 [1, 0, 1, 0] (by kernel_rfl) ?_
  refine c_loop (fun a w' => ∃ (t : Nat), ∃ (R : List W32), (∃ u, a = mk 96 [(0, (.pointer (some ⟨bh, 0, none⟩))), (2, (.pointer (some ⟨b1_, 0, none⟩))), (9, (.pointer (some ⟨bh, 0, none⟩))), (10, (.pointer (some ⟨bh, 0, none⟩))), (11, (.pointer (some ⟨bh, 0, none⟩))), (12, (.agg (hw8 S))), (13, (.pointer (some ⟨bh, 0, none⟩))), (14, (.agg (hw (wS q 64)))), (15, (.int .i64 (t : Int)))] u) ∧ (t ≤ 64) ∧ (R = rdN (wS q 64) S t) ∧ (w'.heap[bh]? = some (.cells (hsC S q n) 132 (0, 0))) ∧ (Rd w' (some ⟨1, 0, none⟩) ((hw KL).toList)) ∧ (w'.heap[b1_]? = some (.cells (hw8 R) 127 (0, 0))) ∧ (Fr w w' (One bh))) (fun a _ => cnt (64) 15 a) [1, 0, 1, 0, 0] (by kernel_rfl) ⟨0, S, is_mk (by kernel_rfl) (by kernel_rfl) (by kernel_rfl), ⟨Nat.zero_le _, rfl, h25_, h26_, h27_, T24_⟩⟩ ?_
  rintro a29_ w30_ ⟨t, R, ⟨u31_, rfl⟩, ⟨ht, hR, q_0L28_, q_1L28_, q_2L28_, hFrL28_⟩⟩
  refine c_seq [1, 0, 1, 0, 0, 0] [1, 0, 1, 0, 0, 1] (by kernel_rfl) ?_
  refine c_reg 2 mix_c_R2 (by kernel_rfl) ?_
  refine at_pures 1 (by kernel_rfl) (by kernel_rfl) ?_
  refine at_done (by kernel_rfl) ?_
  refine then_n ?_
  refine c_seq [1, 0, 1, 0, 0, 1, 0] [1, 0, 1, 0, 0, 1, 1] (by kernel_rfl) ?_
  refine c_if (.tmp 16) (decide ((t : Int) < (64 : Int))) [1, 0, 1, 0, 0, 1, 0, 0] [1, 0, 1, 0, 0, 1, 0, 1] (by kernel_rfl) (by kernel_rfl) (fun c32_ => ?_) (fun c32_ => ?_)
  · -- yes
    replace c32_ : (t : Int) < (64 : Int) := of_decide_eq_true c32_
    refine c_skip (by kernel_rfl) ?_
    refine then_n ?_
    refine c_seq [1, 0, 1, 0, 0, 1, 1, 0] [1, 0, 1, 0, 0, 1, 1, 1] (by kernel_rfl) ?_
    refine c_block 1 [1, 0, 1, 0, 0, 1, 1, 0, 0] (by kernel_rfl) ?_
    refine c_seq [1, 0, 1, 0, 0, 1, 1, 0, 0, 0] [1, 0, 1, 0, 0, 1, 1, 0, 0, 1] (by kernel_rfl) ?_
    refine c_reg 3 mix_c_R3 (by kernel_rfl) ?_
    refine at_pures 1 (by kernel_rfl) (by kernel_rfl) ?_
    refine at_run (.int .u32 (((wS q 64).getD t 0).toNat : Int)) _ (by kernel_rfl) (run_index1 137 (.tmp 14) (.tmp 15) 64 29 (hw (wS q 64)) .i64 t (.int .u32 (((wS q 64).getD t 0).toNat : Int)) (by kernel_rfl) (by kernel_rfl) (by kernel_rfl) (by kernel_rfl) (by kernel_rfl) (by kernel_rfl) (by kernel_rfl) (by omega) (hw_get (wS q 64) t (by omega))) ?_
    refine at_pures 4 (by kernel_rfl) (by kernel_rfl) ?_
    refine at_done (by kernel_rfl) ?_
    refine then_n ?_
    refine c_seq [1, 0, 1, 0, 0, 1, 1, 0, 0, 1, 0] [1, 0, 1, 0, 0, 1, 1, 0, 0, 1, 1] (by kernel_rfl) ?_
    refine c_reg 4 mix_c_R4 (by kernel_rfl) ?_
    refine at_pures 1 (by kernel_rfl) (by kernel_rfl) ?_
    refine at_load1 29 (.tmp 19) b1_ 4 _ _ _ (.int .u32 ((R.getD 4 0).toNat : Int)) (by kernel_rfl) (by kernel_rfl) (by kernel_rfl) (by kernel_rfl) q_2L28_ (by kernel_rfl) ?_
    refine at_pures 3 (by kernel_rfl) (by kernel_rfl) ?_
    refine at_load1 29 (.tmp 21) b1_ 5 _ _ _ (.int .u32 ((R.getD 5 0).toNat : Int)) (by kernel_rfl) (by kernel_rfl) (by kernel_rfl) (by kernel_rfl) q_2L28_ (by kernel_rfl) ?_
    refine at_int (kd := .u32) (IntKind.u32.wrap (((BitVec.ofInt 32 ((R.getD 4 0).toNat : Int) &&& BitVec.ofInt 32 ((R.getD 5 0).toNat : Int)).toNat : Int))) ((((R.getD 4 0) &&& (R.getD 5 0)).toNat : Int)) (by kernel_rfl) (by kernel_rfl) (bv_and (R.getD 4 0) (R.getD 5 0)) ?_
    refine at_pures 6 (by kernel_rfl) (by kernel_rfl) ?_
    refine at_load1 29 (.tmp 24) b1_ 4 _ _ _ (.int .u32 ((R.getD 4 0).toNat : Int)) (by kernel_rfl) (by kernel_rfl) (by kernel_rfl) (by kernel_rfl) q_2L28_ (by kernel_rfl) ?_
    refine at_int (kd := .u32) (IntKind.u32.wrap (((BitVec.ofInt 32 4294967295 ^^^ BitVec.ofInt 32 ((R.getD 4 0).toNat : Int)).toNat : Int))) (((~~~(R.getD 4 0)).toNat : Int)) (by kernel_rfl) (by kernel_rfl) (bv_not (R.getD 4 0)) ?_
    refine at_pures 9 (by kernel_rfl) (by kernel_rfl) ?_
    refine at_load1 29 (.tmp 27) b1_ 6 _ _ _ (.int .u32 ((R.getD 6 0).toNat : Int)) (by kernel_rfl) (by kernel_rfl) (by kernel_rfl) (by kernel_rfl) q_2L28_ (by kernel_rfl) ?_
    refine at_int (kd := .u32) (IntKind.u32.wrap (((BitVec.ofInt 32 ((~~~(R.getD 4 0)).toNat : Int) &&& BitVec.ofInt 32 ((R.getD 6 0).toNat : Int)).toNat : Int))) ((((~~~(R.getD 4 0)) &&& (R.getD 6 0)).toNat : Int)) (by kernel_rfl) (by kernel_rfl) (bv_and (~~~(R.getD 4 0)) (R.getD 6 0)) ?_
    refine at_int (kd := .u32) (IntKind.u32.wrap (((BitVec.ofInt 32 (((R.getD 4 0) &&& (R.getD 5 0)).toNat : Int) ^^^ BitVec.ofInt 32 (((~~~(R.getD 4 0)) &&& (R.getD 6 0)).toNat : Int)).toNat : Int))) (((((R.getD 4 0) &&& (R.getD 5 0)) ^^^ ((~~~(R.getD 4 0)) &&& (R.getD 6 0))).toNat : Int)) (by kernel_rfl) (by kernel_rfl) (bv_xor ((R.getD 4 0) &&& (R.getD 5 0)) ((~~~(R.getD 4 0)) &&& (R.getD 6 0))) ?_
    refine at_pures 13 (by kernel_rfl) (by kernel_rfl) ?_
    refine at_done (by kernel_rfl) ?_
    refine then_n ?_
    refine c_seq [1, 0, 1, 0, 0, 1, 1, 0, 0, 1, 1, 0] [1, 0, 1, 0, 0, 1, 1, 0, 0, 1, 1, 1] (by kernel_rfl) ?_
    refine c_plan 5 mix_c_R5 (fun w' => w'.heap[b1_]? = some (.cells (hw8 R) 127 (0, 0)) ∧ Rd w' (some ⟨1, 0, none⟩) ((hw KL).toList) ∧ True) mix_c_sk5 mix_c_pl5 (by kernel_rfl) (by kernel_rfl) (by kernel_rfl) (by kernel_rfl) (by kernel_rfl) (fun w33_ F34_ => ?_)
    have T35_ := Fr.tr hFrL28_ F34_
    have h37_ := Fr.keep F34_ q_2L28_ Dis.n0
    have h38_ := Rd.keep' q_1L28_ F34_ Dis.n0
    have S36_ : w33_.heap[b1_]? = some (.cells (hw8 R) 127 (0, 0)) ∧ Rd w33_ (some ⟨1, 0, none⟩) ((hw KL).toList) ∧ True := ⟨h37_, h38_, trivial⟩
    refine pl_pures 1 (by kernel_rfl) (by kernel_rfl) (off (by kernel_rfl)) ?_
    refine pl_read 1 (.int .u32 ((R.getD 7 0).toNat : Int)) (by kernel_rfl) (by kernel_rfl) (fun w' hs => run_load1 29 (.tmp 31) b1_ 7 _ _ _ (.int .u32 ((R.getD 7 0).toNat : Int)) (by kernel_rfl) (by kernel_rfl) (by kernel_rfl) hs.1 (by kernel_rfl)) S36_ ?_
    refine pl_pures 3 (by kernel_rfl) (by kernel_rfl) (fun _ => S36_) ?_
    refine pl_read 3 (.int .u32 ((R.getD 4 0).toNat : Int)) (by kernel_rfl) (by kernel_rfl) (fun w' hs => run_load1 29 (.tmp 33) b1_ 4 _ _ _ (.int .u32 ((R.getD 4 0).toNat : Int)) (by kernel_rfl) (by kernel_rfl) (by kernel_rfl) hs.1 (by kernel_rfl)) S36_ ?_
    refine pl_pures 6 (by kernel_rfl) (by kernel_rfl) (fun _ => S36_) ?_
    refine pl_quiet 9 (.pointer (some ⟨1, 0 + t * 1, none⟩)) (by kernel_rfl) (by kernel_rfl) (fun w' => run_idx_arr 137 (.global 1) (.tmp 39) 1 1 0 64 .i64 t (by kernel_rfl) (by kernel_rfl) (by kernel_rfl) (by kernel_rfl) (by kernel_rfl) (by omega)) (fun _ => S36_) ?_
    refine pl_read 10 (.int .u32 ((KL.getD t 0).toNat : Int)) (by kernel_rfl) (by kernel_rfl) (fun w' hs => run_loadG 29 (.tmp 40) 1 t ((hw KL).toList) (.int .u32 ((KL.getD t 0).toNat : Int)) (by kernel_rfl) (by kernel_rfl) (by kernel_rfl) hs.2.1 (KL_get _ (by omega))) S36_ ?_
    refine pl_pures 9 (by kernel_rfl) (by kernel_rfl) (fun _ => S36_) ?_
    have h39_ := Fr.keep F34_ q_0L28_ Dis.n0
    refine pl_do 4 (by kernel_rfl) (by kernel_rfl) (op_call 87 #[(.tmp 34), (.const (.int .i64 6)), (.const (.int .i64 11)), (.const (.int .i64 25))] #[(.int .u32 ((R.getD 4 0).toNat : Int)), (.int .i64 6), (.int .i64 11), (.int .i64 25)] (by kernel_rfl) (by kernel_rfl) (by kernel_rfl) ?_)
    have C44_ := turned_c (R.getD 4 0) 6 11 25 w33_   (by first | omega | with_reducible assumption | (simp only [List.length_append, List.length_cons, List.length_nil, putB_length]; omega) | decide) (by first | omega | with_reducible assumption | (simp only [List.length_append, List.length_cons, List.length_nil, putB_length]; omega) | decide) (by first | omega | with_reducible assumption | (simp only [List.length_append, List.length_cons, List.length_nil, putB_length]; omega) | decide)
    refine Calls.mono C44_ ?_
    rintro e43_ w41_ ⟨rfl, F42_⟩
    refine ⟨_, rfl, ?_⟩
    have T45_ := Fr.tr T35_ F42_
    have h46_ := Fr.keep F42_ h39_ Dis.n0
    have h47_ := Rd.keep' h38_ F42_ Dis.n0
    have h48_ := Fr.keep F42_ h37_ Dis.n0
    have S49_ : w41_.heap[b1_]? = some (.cells (hw8 R) 127 (0, 0)) ∧ Rd w41_ (some ⟨1, 0, none⟩) ((hw KL).toList) ∧ True := ⟨h48_, h47_, trivial⟩
    refine ⟨fun _ => S49_, ?_⟩
    refine pl_as 5 (.int .u32 (IntKind.u32.wrap (((R.getD 7 0).toNat : Int) + ((sg (R.getD 4 0) 6 11 25).toNat : Int)))) (.int .u32 (((R.getD 7 0) + (sg (R.getD 4 0) 6 11 25)).toNat : Int)) (by kernel_rfl) (by kernel_rfl) ⟨by kernel_rfl, by kernel_rfl⟩ (congrArg (Value.int .u32) (bv_add (R.getD 7 0) (sg (R.getD 4 0) 6 11 25))) (fun _ => S49_) ?_
    refine pl_as 7 (.int .u32 (IntKind.u32.wrap ((((R.getD 7 0) + (sg (R.getD 4 0) 6 11 25)).toNat : Int) + ((((R.getD 4 0) &&& (R.getD 5 0)) ^^^ ((~~~(R.getD 4 0)) &&& (R.getD 6 0))).toNat : Int)))) (.int .u32 ((((R.getD 7 0) + (sg (R.getD 4 0) 6 11 25)) + (((R.getD 4 0) &&& (R.getD 5 0)) ^^^ ((~~~(R.getD 4 0)) &&& (R.getD 6 0)))).toNat : Int)) (by kernel_rfl) (by kernel_rfl) ⟨by kernel_rfl, by kernel_rfl⟩ (congrArg (Value.int .u32) (bv_add ((R.getD 7 0) + (sg (R.getD 4 0) 6 11 25)) (((R.getD 4 0) &&& (R.getD 5 0)) ^^^ ((~~~(R.getD 4 0)) &&& (R.getD 6 0))))) (fun _ => S49_) ?_
    refine pl_as 11 (.int .u32 (IntKind.u32.wrap (((((R.getD 7 0) + (sg (R.getD 4 0) 6 11 25)) + (((R.getD 4 0) &&& (R.getD 5 0)) ^^^ ((~~~(R.getD 4 0)) &&& (R.getD 6 0)))).toNat : Int) + ((KL.getD t 0).toNat : Int)))) (.int .u32 (((((R.getD 7 0) + (sg (R.getD 4 0) 6 11 25)) + (((R.getD 4 0) &&& (R.getD 5 0)) ^^^ ((~~~(R.getD 4 0)) &&& (R.getD 6 0)))) + (KL.getD t 0)).toNat : Int)) (by kernel_rfl) (by kernel_rfl) ⟨by kernel_rfl, by kernel_rfl⟩ (congrArg (Value.int .u32) (bv_add (((R.getD 7 0) + (sg (R.getD 4 0) 6 11 25)) + (((R.getD 4 0) &&& (R.getD 5 0)) ^^^ ((~~~(R.getD 4 0)) &&& (R.getD 6 0)))) (KL.getD t 0))) (fun _ => S49_) ?_
    refine pl_as 13 (.int .u32 (IntKind.u32.wrap ((((((R.getD 7 0) + (sg (R.getD 4 0) 6 11 25)) + (((R.getD 4 0) &&& (R.getD 5 0)) ^^^ ((~~~(R.getD 4 0)) &&& (R.getD 6 0)))) + (KL.getD t 0)).toNat : Int) + (((wS q 64).getD t 0).toNat : Int)))) (.int .u32 ((((((R.getD 7 0) + (sg (R.getD 4 0) 6 11 25)) + (((R.getD 4 0) &&& (R.getD 5 0)) ^^^ ((~~~(R.getD 4 0)) &&& (R.getD 6 0)))) + (KL.getD t 0)) + ((wS q 64).getD t 0)).toNat : Int)) (by kernel_rfl) (by kernel_rfl) ⟨by kernel_rfl, by kernel_rfl⟩ (congrArg (Value.int .u32) (bv_add ((((R.getD 7 0) + (sg (R.getD 4 0) 6 11 25)) + (((R.getD 4 0) &&& (R.getD 5 0)) ^^^ ((~~~(R.getD 4 0)) &&& (R.getD 6 0)))) + (KL.getD t 0)) ((wS q 64).getD t 0))) (off (by kernel_rfl)) ?_
    refine pl_pures 15 (by kernel_rfl) (by kernel_rfl) (off (by kernel_rfl)) ?_
    refine pl_done (by kernel_rfl) ?_
    refine then_n ?_
    refine c_seq [1, 0, 1, 0, 0, 1, 1, 0, 0, 1, 1, 1, 0] [1, 0, 1, 0, 0, 1, 1, 0, 0, 1, 1, 1, 1] (by kernel_rfl) ?_
    refine c_plan 6 mix_c_R6 (fun w' => w'.heap[b1_]? = some (.cells (hw8 R) 127 (0, 0)) ∧ True) mix_c_sk6 mix_c_pl6 (by kernel_rfl) (by kernel_rfl) (by kernel_rfl) (by kernel_rfl) (by kernel_rfl) (fun w50_ F51_ => ?_)
    have T52_ := Fr.tr T45_ F51_
    have h54_ := Fr.keep F51_ h48_ Dis.n0
    have S53_ : w50_.heap[b1_]? = some (.cells (hw8 R) 127 (0, 0)) ∧ True := ⟨h54_, trivial⟩
    refine pl_pures 1 (by kernel_rfl) (by kernel_rfl) (off (by kernel_rfl)) ?_
    refine pl_read 1 (.int .u32 ((R.getD 0 0).toNat : Int)) (by kernel_rfl) (by kernel_rfl) (fun w' hs => run_load1 29 (.tmp 45) b1_ 0 _ _ _ (.int .u32 ((R.getD 0 0).toNat : Int)) (by kernel_rfl) (by kernel_rfl) (by kernel_rfl) hs.1 (by kernel_rfl)) S53_ ?_
    refine pl_pures 3 (by kernel_rfl) (by kernel_rfl) (fun _ => S53_) ?_
    refine pl_read 4 (.int .u32 ((R.getD 0 0).toNat : Int)) (by kernel_rfl) (by kernel_rfl) (fun w' hs => run_load1 29 (.tmp 48) b1_ 0 _ _ _ (.int .u32 ((R.getD 0 0).toNat : Int)) (by kernel_rfl) (by kernel_rfl) (by kernel_rfl) hs.1 (by kernel_rfl)) S53_ ?_
    refine pl_pures 5 (by kernel_rfl) (by kernel_rfl) (fun _ => S53_) ?_
    refine pl_read 6 (.int .u32 ((R.getD 1 0).toNat : Int)) (by kernel_rfl) (by kernel_rfl) (fun w' hs => run_load1 29 (.tmp 50) b1_ 1 _ _ _ (.int .u32 ((R.getD 1 0).toNat : Int)) (by kernel_rfl) (by kernel_rfl) (by kernel_rfl) hs.1 (by kernel_rfl)) S53_ ?_
    refine pl_as 7 (.int .u32 (IntKind.u32.wrap (((BitVec.ofInt 32 ((R.getD 0 0).toNat : Int) &&& BitVec.ofInt 32 ((R.getD 1 0).toNat : Int)).toNat : Int)))) (.int .u32 (((R.getD 0 0) &&& (R.getD 1 0)).toNat : Int)) (by kernel_rfl) (by kernel_rfl) ⟨by kernel_rfl, by kernel_rfl⟩ (congrArg (Value.int .u32) (bv_and (R.getD 0 0) (R.getD 1 0))) (fun _ => S53_) ?_
    refine pl_pures 8 (by kernel_rfl) (by kernel_rfl) (fun _ => S53_) ?_
    refine pl_read 9 (.int .u32 ((R.getD 0 0).toNat : Int)) (by kernel_rfl) (by kernel_rfl) (fun w' hs => run_load1 29 (.tmp 53) b1_ 0 _ _ _ (.int .u32 ((R.getD 0 0).toNat : Int)) (by kernel_rfl) (by kernel_rfl) (by kernel_rfl) hs.1 (by kernel_rfl)) S53_ ?_
    refine pl_pures 10 (by kernel_rfl) (by kernel_rfl) (fun _ => S53_) ?_
    refine pl_read 11 (.int .u32 ((R.getD 2 0).toNat : Int)) (by kernel_rfl) (by kernel_rfl) (fun w' hs => run_load1 29 (.tmp 55) b1_ 2 _ _ _ (.int .u32 ((R.getD 2 0).toNat : Int)) (by kernel_rfl) (by kernel_rfl) (by kernel_rfl) hs.1 (by kernel_rfl)) S53_ ?_
    refine pl_as 12 (.int .u32 (IntKind.u32.wrap (((BitVec.ofInt 32 ((R.getD 0 0).toNat : Int) &&& BitVec.ofInt 32 ((R.getD 2 0).toNat : Int)).toNat : Int)))) (.int .u32 (((R.getD 0 0) &&& (R.getD 2 0)).toNat : Int)) (by kernel_rfl) (by kernel_rfl) ⟨by kernel_rfl, by kernel_rfl⟩ (congrArg (Value.int .u32) (bv_and (R.getD 0 0) (R.getD 2 0))) (fun _ => S53_) ?_
    refine pl_as 13 (.int .u32 (IntKind.u32.wrap (((BitVec.ofInt 32 (((R.getD 0 0) &&& (R.getD 1 0)).toNat : Int) ^^^ BitVec.ofInt 32 (((R.getD 0 0) &&& (R.getD 2 0)).toNat : Int)).toNat : Int)))) (.int .u32 ((((R.getD 0 0) &&& (R.getD 1 0)) ^^^ ((R.getD 0 0) &&& (R.getD 2 0))).toNat : Int)) (by kernel_rfl) (by kernel_rfl) ⟨by kernel_rfl, by kernel_rfl⟩ (congrArg (Value.int .u32) (bv_xor ((R.getD 0 0) &&& (R.getD 1 0)) ((R.getD 0 0) &&& (R.getD 2 0)))) (fun _ => S53_) ?_
    refine pl_pures 14 (by kernel_rfl) (by kernel_rfl) (fun _ => S53_) ?_
    refine pl_read 15 (.int .u32 ((R.getD 1 0).toNat : Int)) (by kernel_rfl) (by kernel_rfl) (fun w' hs => run_load1 29 (.tmp 59) b1_ 1 _ _ _ (.int .u32 ((R.getD 1 0).toNat : Int)) (by kernel_rfl) (by kernel_rfl) (by kernel_rfl) hs.1 (by kernel_rfl)) S53_ ?_
    refine pl_pures 16 (by kernel_rfl) (by kernel_rfl) (fun _ => S53_) ?_
    refine pl_read 17 (.int .u32 ((R.getD 2 0).toNat : Int)) (by kernel_rfl) (by kernel_rfl) (fun w' hs => run_load1 29 (.tmp 61) b1_ 2 _ _ _ (.int .u32 ((R.getD 2 0).toNat : Int)) (by kernel_rfl) (by kernel_rfl) (by kernel_rfl) hs.1 (by kernel_rfl)) S53_ ?_
    refine pl_as 18 (.int .u32 (IntKind.u32.wrap (((BitVec.ofInt 32 ((R.getD 1 0).toNat : Int) &&& BitVec.ofInt 32 ((R.getD 2 0).toNat : Int)).toNat : Int)))) (.int .u32 (((R.getD 1 0) &&& (R.getD 2 0)).toNat : Int)) (by kernel_rfl) (by kernel_rfl) ⟨by kernel_rfl, by kernel_rfl⟩ (congrArg (Value.int .u32) (bv_and (R.getD 1 0) (R.getD 2 0))) (fun _ => S53_) ?_
    refine pl_as 19 (.int .u32 (IntKind.u32.wrap (((BitVec.ofInt 32 ((((R.getD 0 0) &&& (R.getD 1 0)) ^^^ ((R.getD 0 0) &&& (R.getD 2 0))).toNat : Int) ^^^ BitVec.ofInt 32 (((R.getD 1 0) &&& (R.getD 2 0)).toNat : Int)).toNat : Int)))) (.int .u32 (((((R.getD 0 0) &&& (R.getD 1 0)) ^^^ ((R.getD 0 0) &&& (R.getD 2 0))) ^^^ ((R.getD 1 0) &&& (R.getD 2 0))).toNat : Int)) (by kernel_rfl) (by kernel_rfl) ⟨by kernel_rfl, by kernel_rfl⟩ (congrArg (Value.int .u32) (bv_xor (((R.getD 0 0) &&& (R.getD 1 0)) ^^^ ((R.getD 0 0) &&& (R.getD 2 0))) ((R.getD 1 0) &&& (R.getD 2 0)))) (fun _ => S53_) ?_
    have h55_ := Fr.keep F51_ h46_ Dis.n0
    have h56_ := Rd.keep' h47_ F51_ Dis.n0
    refine pl_do 2 (by kernel_rfl) (by kernel_rfl) (op_call 87 #[(.tmp 46), (.const (.int .i64 2)), (.const (.int .i64 13)), (.const (.int .i64 22))] #[(.int .u32 ((R.getD 0 0).toNat : Int)), (.int .i64 2), (.int .i64 13), (.int .i64 22)] (by kernel_rfl) (by kernel_rfl) (by kernel_rfl) ?_)
    have C61_ := turned_c (R.getD 0 0) 2 13 22 w50_   (by first | omega | with_reducible assumption | (simp only [List.length_append, List.length_cons, List.length_nil, putB_length]; omega) | decide) (by first | omega | with_reducible assumption | (simp only [List.length_append, List.length_cons, List.length_nil, putB_length]; omega) | decide) (by first | omega | with_reducible assumption | (simp only [List.length_append, List.length_cons, List.length_nil, putB_length]; omega) | decide)
    refine Calls.mono C61_ ?_
    rintro e60_ w58_ ⟨rfl, F59_⟩
    refine ⟨_, rfl, ?_⟩
    have T62_ := Fr.tr T52_ F59_
    have h63_ := Fr.keep F59_ h55_ Dis.n0
    have h64_ := Rd.keep' h56_ F59_ Dis.n0
    have h65_ := Fr.keep F59_ h54_ Dis.n0
    have S66_ : w58_.heap[b1_]? = some (.cells (hw8 R) 127 (0, 0)) ∧ True := ⟨h65_, trivial⟩
    refine ⟨fun _ => S66_, ?_⟩
    refine pl_as 20 (.int .u32 (IntKind.u32.wrap (((sg (R.getD 0 0) 2 13 22).toNat : Int) + (((((R.getD 0 0) &&& (R.getD 1 0)) ^^^ ((R.getD 0 0) &&& (R.getD 2 0))) ^^^ ((R.getD 1 0) &&& (R.getD 2 0))).toNat : Int)))) (.int .u32 (((sg (R.getD 0 0) 2 13 22) + ((((R.getD 0 0) &&& (R.getD 1 0)) ^^^ ((R.getD 0 0) &&& (R.getD 2 0))) ^^^ ((R.getD 1 0) &&& (R.getD 2 0)))).toNat : Int)) (by kernel_rfl) (by kernel_rfl) ⟨by kernel_rfl, by kernel_rfl⟩ (congrArg (Value.int .u32) (bv_add (sg (R.getD 0 0) 2 13 22) ((((R.getD 0 0) &&& (R.getD 1 0)) ^^^ ((R.getD 0 0) &&& (R.getD 2 0))) ^^^ ((R.getD 1 0) &&& (R.getD 2 0))))) (off (by kernel_rfl)) ?_
    refine pl_pures 22 (by kernel_rfl) (by kernel_rfl) (off (by kernel_rfl)) ?_
    refine pl_done (by kernel_rfl) ?_
    refine then_n ?_
    refine c_seq [1, 0, 1, 0, 0, 1, 1, 0, 0, 1, 1, 1, 1, 0] [1, 0, 1, 0, 0, 1, 1, 0, 0, 1, 1, 1, 1, 1] (by kernel_rfl) ?_
    refine c_plan 7 mix_c_R7 (fun w' => True) mix_c_sk7 mix_c_pl7 (by kernel_rfl) (by kernel_rfl) (by kernel_rfl) (by kernel_rfl) (by kernel_rfl) (fun w67_ F68_ => ?_)
    have T69_ := Fr.tr T62_ F68_
    have S70_ : True := trivial
    refine pl_pures 2 (by kernel_rfl) (by kernel_rfl) (off (by kernel_rfl)) ?_
    have h71_ := Fr.keep F68_ h63_ Dis.n0
    have h72_ := Rd.keep' h64_ F68_ Dis.n0
    have h73_ := Fr.keep F68_ h65_ Dis.n0
    refine pl_do 2 (by kernel_rfl) (by kernel_rfl) (op_copy (.tmp 66) (.tmp 67) 142 142 (by kernel_rfl) (by kernel_rfl) (by kernel_rfl) b1_ 1 7 7 (some ⟨b1_, 0, none⟩) 7 8 (#[(.int .u32 ((R.getD 0 0).toNat : Int)), (.int .u32 ((R.getD 1 0).toNat : Int)), (.int .u32 ((R.getD 2 0).toNat : Int)), (.int .u32 ((R.getD 3 0).toNat : Int)), (.int .u32 ((R.getD 4 0).toNat : Int)), (.int .u32 ((R.getD 5 0).toNat : Int)), (.int .u32 ((R.getD 6 0).toNat : Int))]).toList _ _ #[(.int .u32 ((R.getD 0 0).toNat : Int)), (.int .u32 ((R.getD 0 0).toNat : Int)), (.int .u32 ((R.getD 1 0).toNat : Int)), (.int .u32 ((R.getD 2 0).toNat : Int)), (.int .u32 ((R.getD 3 0).toNat : Int)), (.int .u32 ((R.getD 4 0).toNat : Int)), (.int .u32 ((R.getD 5 0).toNat : Int)), (.int .u32 ((R.getD 6 0).toNat : Int))] (by kernel_rfl) (by kernel_rfl) h73_ (Rd.of_cut h73_ 0 7 (by kernel_rfl)) (by kernel_rfl) (ones (by kernel_rfl)) (Nat.le_of_ble_eq_true (by kernel_rfl)) (by kernel_rfl) (fun w74_ h75_ z76_ F77_ => ?_))
    have T78_ := Fr.then T69_ F77_ N8_
    have h79_ := Fr.keep F77_ h71_ (Dis.sym d6_)
    have h80_ := Rd.keep' h72_ F77_ (Dis.sym d7_)
    refine ⟨off (by kernel_rfl), ?_⟩
    refine pl_done (by kernel_rfl) ?_
    refine then_n ?_
    refine c_seq [1, 0, 1, 0, 0, 1, 1, 0, 0, 1, 1, 1, 1, 1, 0] [1, 0, 1, 0, 0, 1, 1, 0, 0, 1, 1, 1, 1, 1, 1] (by kernel_rfl) ?_
    refine c_reg 8 mix_c_R8 (by kernel_rfl) ?_
    refine at_pures 1 (by kernel_rfl) (by kernel_rfl) ?_
    refine at_load1 29 (.tmp 69) b1_ 4 _ _ _ (.int .u32 ((R.getD 3 0).toNat : Int)) (by kernel_rfl) (by kernel_rfl) (by kernel_rfl) (by kernel_rfl) h75_ (by kernel_rfl) ?_
    refine at_pures 3 (by kernel_rfl) (by kernel_rfl) ?_
    refine at_int (kd := .u32) (IntKind.u32.wrap (((R.getD 3 0).toNat : Int) + ((((((R.getD 7 0) + (sg (R.getD 4 0) 6 11 25)) + (((R.getD 4 0) &&& (R.getD 5 0)) ^^^ ((~~~(R.getD 4 0)) &&& (R.getD 6 0)))) + (KL.getD t 0)) + ((wS q 64).getD t 0)).toNat : Int))) ((((R.getD 3 0) + (((((R.getD 7 0) + (sg (R.getD 4 0) 6 11 25)) + (((R.getD 4 0) &&& (R.getD 5 0)) ^^^ ((~~~(R.getD 4 0)) &&& (R.getD 6 0)))) + (KL.getD t 0)) + ((wS q 64).getD t 0))).toNat : Int)) (by kernel_rfl) (by kernel_rfl) (bv_add (R.getD 3 0) (((((R.getD 7 0) + (sg (R.getD 4 0) 6 11 25)) + (((R.getD 4 0) &&& (R.getD 5 0)) ^^^ ((~~~(R.getD 4 0)) &&& (R.getD 6 0)))) + (KL.getD t 0)) + ((wS q 64).getD t 0))) ?_
    refine at_pures 5 (by kernel_rfl) (by kernel_rfl) ?_
    refine at_do (by kernel_rfl) (op_store 29 (.tmp 73) (.tmp 72) b1_ 4 (.int .u32 (((R.getD 3 0) + (((((R.getD 7 0) + (sg (R.getD 4 0) 6 11 25)) + (((R.getD 4 0) &&& (R.getD 5 0)) ^^^ ((~~~(R.getD 4 0)) &&& (R.getD 6 0)))) + (KL.getD t 0)) + ((wS q 64).getD t 0))).toNat : Int)) _ _ #[(.int .u32 ((R.getD 0 0).toNat : Int)), (.int .u32 ((R.getD 0 0).toNat : Int)), (.int .u32 ((R.getD 1 0).toNat : Int)), (.int .u32 ((R.getD 2 0).toNat : Int)), (.int .u32 (((R.getD 3 0) + (((((R.getD 7 0) + (sg (R.getD 4 0) 6 11 25)) + (((R.getD 4 0) &&& (R.getD 5 0)) ^^^ ((~~~(R.getD 4 0)) &&& (R.getD 6 0)))) + (KL.getD t 0)) + ((wS q 64).getD t 0))).toNat : Int)), (.int .u32 ((R.getD 4 0).toNat : Int)), (.int .u32 ((R.getD 5 0).toNat : Int)), (.int .u32 ((R.getD 6 0).toNat : Int))] (by kernel_rfl) (by kernel_rfl) (by kernel_rfl) h75_ (by kernel_rfl) (by kernel_rfl) (by kernel_rfl) (by kernel_rfl) (fun w81_ h82_ z83_ F84_ => ?_))
    have T85_ := Fr.then T78_ F84_ N8_
    have h86_ := Fr.keep F84_ h79_ (Dis.sym d6_)
    have h87_ := Rd.keep' h80_ F84_ (Dis.sym d7_)
    refine at_done (by kernel_rfl) ?_
    refine then_n ?_
    refine c_reg 9 mix_c_R9 (by kernel_rfl) ?_
    refine at_pures 2 (by kernel_rfl) (by kernel_rfl) ?_
    refine at_int (kd := .u32) (IntKind.u32.wrap (((((((R.getD 7 0) + (sg (R.getD 4 0) 6 11 25)) + (((R.getD 4 0) &&& (R.getD 5 0)) ^^^ ((~~~(R.getD 4 0)) &&& (R.getD 6 0)))) + (KL.getD t 0)) + ((wS q 64).getD t 0)).toNat : Int) + (((sg (R.getD 0 0) 2 13 22) + ((((R.getD 0 0) &&& (R.getD 1 0)) ^^^ ((R.getD 0 0) &&& (R.getD 2 0))) ^^^ ((R.getD 1 0) &&& (R.getD 2 0)))).toNat : Int))) ((((((((R.getD 7 0) + (sg (R.getD 4 0) 6 11 25)) + (((R.getD 4 0) &&& (R.getD 5 0)) ^^^ ((~~~(R.getD 4 0)) &&& (R.getD 6 0)))) + (KL.getD t 0)) + ((wS q 64).getD t 0)) + ((sg (R.getD 0 0) 2 13 22) + ((((R.getD 0 0) &&& (R.getD 1 0)) ^^^ ((R.getD 0 0) &&& (R.getD 2 0))) ^^^ ((R.getD 1 0) &&& (R.getD 2 0))))).toNat : Int)) (by kernel_rfl) (by kernel_rfl) (bv_add (((((R.getD 7 0) + (sg (R.getD 4 0) 6 11 25)) + (((R.getD 4 0) &&& (R.getD 5 0)) ^^^ ((~~~(R.getD 4 0)) &&& (R.getD 6 0)))) + (KL.getD t 0)) + ((wS q 64).getD t 0)) ((sg (R.getD 0 0) 2 13 22) + ((((R.getD 0 0) &&& (R.getD 1 0)) ^^^ ((R.getD 0 0) &&& (R.getD 2 0))) ^^^ ((R.getD 1 0) &&& (R.getD 2 0))))) ?_
    refine at_pures 4 (by kernel_rfl) (by kernel_rfl) ?_
    refine at_do (by kernel_rfl) (op_store 29 (.tmp 77) (.tmp 76) b1_ 0 (.int .u32 (((((((R.getD 7 0) + (sg (R.getD 4 0) 6 11 25)) + (((R.getD 4 0) &&& (R.getD 5 0)) ^^^ ((~~~(R.getD 4 0)) &&& (R.getD 6 0)))) + (KL.getD t 0)) + ((wS q 64).getD t 0)) + ((sg (R.getD 0 0) 2 13 22) + ((((R.getD 0 0) &&& (R.getD 1 0)) ^^^ ((R.getD 0 0) &&& (R.getD 2 0))) ^^^ ((R.getD 1 0) &&& (R.getD 2 0))))).toNat : Int)) _ _ #[(.int .u32 (((((((R.getD 7 0) + (sg (R.getD 4 0) 6 11 25)) + (((R.getD 4 0) &&& (R.getD 5 0)) ^^^ ((~~~(R.getD 4 0)) &&& (R.getD 6 0)))) + (KL.getD t 0)) + ((wS q 64).getD t 0)) + ((sg (R.getD 0 0) 2 13 22) + ((((R.getD 0 0) &&& (R.getD 1 0)) ^^^ ((R.getD 0 0) &&& (R.getD 2 0))) ^^^ ((R.getD 1 0) &&& (R.getD 2 0))))).toNat : Int)), (.int .u32 ((R.getD 0 0).toNat : Int)), (.int .u32 ((R.getD 1 0).toNat : Int)), (.int .u32 ((R.getD 2 0).toNat : Int)), (.int .u32 (((R.getD 3 0) + (((((R.getD 7 0) + (sg (R.getD 4 0) 6 11 25)) + (((R.getD 4 0) &&& (R.getD 5 0)) ^^^ ((~~~(R.getD 4 0)) &&& (R.getD 6 0)))) + (KL.getD t 0)) + ((wS q 64).getD t 0))).toNat : Int)), (.int .u32 ((R.getD 4 0).toNat : Int)), (.int .u32 ((R.getD 5 0).toNat : Int)), (.int .u32 ((R.getD 6 0).toNat : Int))] (by kernel_rfl) (by kernel_rfl) (by kernel_rfl) h82_ (by kernel_rfl) (by kernel_rfl) (by kernel_rfl) (by kernel_rfl) (fun w88_ h89_ z90_ F91_ => ?_))
    have T92_ := Fr.then T85_ F91_ N8_
    have h93_ := Fr.keep F91_ h86_ (Dis.sym d6_)
    have h94_ := Rd.keep' h87_ F91_ (Dis.sym d7_)
    refine at_done (by kernel_rfl) ?_
    refine blk_n ?_
    refine then_n ?_
    refine c_reg 10 mix_c_R10 (by kernel_rfl) ?_
    refine at_int (kd := .i64) (IntKind.i64.wrap ((t : Int) + (1 : Int))) ((t : Int) + (1 : Int)) (by kernel_rfl) (by kernel_rfl) (wrapN_i64 (by omega) (by omega)) ?_
    refine at_pures 2 (by kernel_rfl) (by kernel_rfl) ?_
    refine at_done (by kernel_rfl) ?_
    refine then_n ?_
    exact ⟨⟨t + 1, (rd1 (wS q 64) R t), is_mk (by kernel_rfl) (by kernel_rfl) (by kernel_rfl), ⟨(by omega), (by rw [hR]; rfl), h93_, h94_, (cast (by kernel_rfl) h89_), T92_⟩⟩, cnt_lt (k := (t : Int)) (k' := ((t : Int) + (1 : Int))) (by kernel_rfl) (by kernel_rfl) (by omega) (by omega)⟩
  · -- no
    replace c32_ : ¬ ((t : Int) < (64 : Int)) := of_decide_eq_false c32_
    refine c_exit 0 (by kernel_rfl) ?_
    refine then_e ?_
    refine then_e ?_
    refine blk_hit ?_
    refine then_n ?_
    refine c_seq [1, 1, 0] [1, 1, 1] (by kernel_rfl) ?_
    refine c_reg 11 mix_c_R11 (by kernel_rfl) ?_
    refine at_pures 1 (by kernel_rfl) (by kernel_rfl) ?_
    refine at_done (by kernel_rfl) ?_
    refine then_n ?_
    refine c_block 2 [1, 1, 1, 0] (by kernel_rfl) ?_
    refine c_loop (fun a w' => ∃ (k : Nat), (∃ u, a = mk 96 [(0, (.pointer (some ⟨bh, 0, none⟩))), (2, (.pointer (some ⟨b1_, 0, none⟩))), (9, (.pointer (some ⟨bh, 0, none⟩))), (10, (.pointer (some ⟨bh, 0, none⟩))), (11, (.pointer (some ⟨bh, 0, none⟩))), (12, (.agg (hw8 S))), (13, (.pointer (some ⟨bh, 0, none⟩))), (14, (.agg (hw (wS q 64)))), (15, (.int .i64 (t : Int))), (16, (.bool (decide ((t : Int) < (64 : Int))))), (79, (.int .i64 (k : Int)))] u) ∧ (k ≤ 8) ∧ (w'.heap[bh]? = some (.cells (hsC (addN S R k) q n) 132 (0, 0))) ∧ (Rd w' (some ⟨1, 0, none⟩) ((hw KL).toList)) ∧ (w'.heap[b1_]? = some (.cells (hw8 R) 127 (0, 0))) ∧ (Fr w w' (One bh))) (fun a _ => cnt (8) 79 a) [1, 1, 1, 0, 0] (by kernel_rfl) ⟨0, is_mk (by kernel_rfl) (by kernel_rfl) (by kernel_rfl), ⟨Nat.zero_le _, (cast (by kernel_rfl) q_0L28_), q_1L28_, q_2L28_, hFrL28_⟩⟩ ?_
    rintro a96_ w97_ ⟨k, ⟨u98_, rfl⟩, ⟨hk, q_0L95_, q_1L95_, q_2L95_, hFrL95_⟩⟩
    refine c_seq [1, 1, 1, 0, 0, 0] [1, 1, 1, 0, 0, 1] (by kernel_rfl) ?_
    refine c_reg 12 mix_c_R12 (by kernel_rfl) ?_
    refine at_pures 1 (by kernel_rfl) (by kernel_rfl) ?_
    refine at_done (by kernel_rfl) ?_
    refine then_n ?_
    refine c_seq [1, 1, 1, 0, 0, 1, 0] [1, 1, 1, 0, 0, 1, 1] (by kernel_rfl) ?_
    refine c_if (.tmp 80) (decide ((k : Int) < (8 : Int))) [1, 1, 1, 0, 0, 1, 0, 0] [1, 1, 1, 0, 0, 1, 0, 1] (by kernel_rfl) (by kernel_rfl) (fun c99_ => ?_) (fun c99_ => ?_)
    · -- yes
      replace c99_ : (k : Int) < (8 : Int) := of_decide_eq_true c99_
      refine c_skip (by kernel_rfl) ?_
      refine then_n ?_
      refine c_seq [1, 1, 1, 0, 0, 1, 1, 0] [1, 1, 1, 0, 0, 1, 1, 1] (by kernel_rfl) ?_
      refine c_block 3 [1, 1, 1, 0, 0, 1, 1, 0, 0] (by kernel_rfl) ?_
      refine c_seq [1, 1, 1, 0, 0, 1, 1, 0, 0, 0] [1, 1, 1, 0, 0, 1, 1, 0, 0, 1] (by kernel_rfl) ?_
      refine c_reg 13 mix_c_R13 (by kernel_rfl) ?_
      refine at_pures 2 (by kernel_rfl) (by kernel_rfl) ?_
      refine at_done (by kernel_rfl) ?_
      refine then_n ?_
      refine c_plan 14 mix_c_R14 (fun w' => w'.heap[bh]? = some (.cells (hsC (addN S R k) q n) 132 (0, 0)) ∧ w'.heap[b1_]? = some (.cells (hw8 R) 127 (0, 0)) ∧ True) mix_c_sk14 mix_c_pl14 (by kernel_rfl) (by kernel_rfl) (by kernel_rfl) (by kernel_rfl) (by kernel_rfl) (fun w100_ F101_ => ?_)
      have T102_ := Fr.tr hFrL95_ F101_
      have h104_ := Fr.keep F101_ q_0L95_ Dis.n0
      have h105_ := Fr.keep F101_ q_2L95_ Dis.n0
      have S103_ : w100_.heap[bh]? = some (.cells (hsC (addN S R k) q n) 132 (0, 0)) ∧ w100_.heap[b1_]? = some (.cells (hw8 R) 127 (0, 0)) ∧ True := ⟨h104_, h105_, trivial⟩
      refine pl_pures 4 (by kernel_rfl) (by kernel_rfl) (off (by kernel_rfl)) ?_
      refine pl_quiet 4 (.pointer (some ⟨bh, 0 + k * 1, none⟩)) (by kernel_rfl) (by kernel_rfl) (fun w' => run_idx_arr 127 (.tmp 85) (.tmp 83) 1 bh 0 8 .i64 k (by kernel_rfl) (by kernel_rfl) (by kernel_rfl) (by kernel_rfl) (by kernel_rfl) (by omega)) (off (by kernel_rfl)) ?_
      refine pl_read 5 (.int .u32 (((addN S R k).getD k 0).toNat : Int)) (by kernel_rfl) (by kernel_rfl) (fun w' hs => run_load1 29 (.tmp 86) bh (0 + k * 1) _ _ _ (.int .u32 (((addN S R k).getD k 0).toNat : Int)) (by kernel_rfl) (by kernel_rfl) (by kernel_rfl) hs.1 (hsC_get _ _ _ k (by omega))) S103_ ?_
      refine pl_pures 7 (by kernel_rfl) (by kernel_rfl) (fun _ => S103_) ?_
      refine pl_quiet 7 (.pointer (some ⟨b1_, 0 + k * 1, none⟩)) (by kernel_rfl) (by kernel_rfl) (fun w' => run_idx_arr 127 (.tmp 2) (.tmp 88) 1 b1_ 0 8 .i64 k (by kernel_rfl) (by kernel_rfl) (by kernel_rfl) (by kernel_rfl) (by kernel_rfl) (by omega)) (fun _ => S103_) ?_
      refine pl_read 8 (.int .u32 ((R.getD k 0).toNat : Int)) (by kernel_rfl) (by kernel_rfl) (fun w' hs => run_load1 29 (.tmp 89) b1_ (0 + k * 1) _ _ _ (.int .u32 ((R.getD k 0).toNat : Int)) (by kernel_rfl) (by kernel_rfl) (by kernel_rfl) hs.2.1 (hw8_get R k (by omega))) S103_ ?_
      refine pl_as 9 (.int .u32 (IntKind.u32.wrap ((((addN S R k).getD k 0).toNat : Int) + ((R.getD k 0).toNat : Int)))) (.int .u32 ((((addN S R k).getD k 0) + (R.getD k 0)).toNat : Int)) (by kernel_rfl) (by kernel_rfl) ⟨by kernel_rfl, by kernel_rfl⟩ (congrArg (Value.int .u32) (bv_add ((addN S R k).getD k 0) (R.getD k 0))) (off (by kernel_rfl)) ?_
      refine pl_pures 12 (by kernel_rfl) (by kernel_rfl) (fun _ => S103_) ?_
      refine pl_quiet 12 (.pointer (some ⟨bh, 0 + k * 1, none⟩)) (by kernel_rfl) (by kernel_rfl) (fun w' => run_idx_arr 127 (.tmp 93) (.tmp 83) 1 bh 0 8 .i64 k (by kernel_rfl) (by kernel_rfl) (by kernel_rfl) (by kernel_rfl) (by kernel_rfl) (by omega)) (off (by kernel_rfl)) ?_
      have h106_ := Rd.keep' q_1L95_ F101_ Dis.n0
      refine pl_do 13 (by kernel_rfl) (by kernel_rfl) (op_store1 29 (.tmp 94) (.tmp 91) bh (0 + k * 1) (.int .u32 ((((addN S R k).getD k 0) + (R.getD k 0)).toNat : Int)) _ _ (hsC (addN S R (k + 1)) q n) (by kernel_rfl) (by kernel_rfl) (by kernel_rfl) (by rfl) (by rfl) h104_ (by kernel_rfl) (Nat.ble_eq_true_of_le (by rw [hsC_size]; show 0 + k * 1 + 1 ≤ 73; omega)) (by exact hsC_add (by omega)) (fun w107_ h108_ z109_ F110_ => ?_))
      have T111_ := Fr.then T102_ F110_ (New.refl w (One bh))
      have h112_ := Rd.keep' h106_ F110_ d_ks1_hs
      have h113_ := Fr.keep F110_ h105_ d6_
      refine ⟨off (by kernel_rfl), ?_⟩
      refine pl_done (by kernel_rfl) ?_
      refine blk_n ?_
      refine then_n ?_
      refine c_reg 15 mix_c_R15 (by kernel_rfl) ?_
      refine at_int (kd := .i64) (IntKind.i64.wrap ((k : Int) + (1 : Int))) ((k : Int) + (1 : Int)) (by kernel_rfl) (by kernel_rfl) (wrapN_i64 (by omega) (by omega)) ?_
      refine at_pures 2 (by kernel_rfl) (by kernel_rfl) ?_
      refine at_done (by kernel_rfl) ?_
      refine then_n ?_
      exact ⟨⟨k + 1, is_mk (by kernel_rfl) (by kernel_rfl) (by kernel_rfl), ⟨(by omega), h108_, h112_, h113_, T111_⟩⟩, cnt_lt (k := (k : Int)) (k' := ((k : Int) + (1 : Int))) (by kernel_rfl) (by kernel_rfl) (by omega) (by omega)⟩
    · -- no
      replace c99_ : ¬ ((k : Int) < (8 : Int)) := of_decide_eq_false c99_
      refine c_exit 2 (by kernel_rfl) ?_
      refine then_e ?_
      refine then_e ?_
      refine blk_hit ?_
      refine fin_end (.tuple #[]) (by kernel_rfl) (by kernel_rfl) ?_
      exact ⟨rfl, (by have e : k = 8 := (by omega); have e2 : t = 64 := (by omega); rw [show compress S q = addN S R k from by rw [e, hR, e2]; rfl]; exact q_0L95_), hFrL95_⟩

noncomputable def hnew_c_R0 : Array Oper := rAt Tryd.prog 61 [0]
noncomputable def hnew_c_R1 : Array Oper := rAt Tryd.prog 61 [1, 0]
set_option maxRecDepth 100000 in
theorem hnew_c (w : World) :
    Calls Tryd.prog 61 #[] w fun e w' => ∃ (b' : Nat), ∃ (q_hs' : List Nat), e = .returned (.pointer (some ⟨b', 0, none⟩)) ∧ HsAt 132 w' b' [] q_hs' ∧ Fr w w' N0 ∧ New w N0 (One b') := by
  refine c_enter (mk 4 [] (fun _ => undef)) Tryd.func61 (by kernel_rfl) (by kernel_rfl) ?_
  refine c_seq [0] [1] (by kernel_rfl) ?_
  refine c_reg 0 hnew_c_R0 (by kernel_rfl) ?_
  refine at_pures 1 (by kernel_rfl) (by kernel_rfl) ?_
  refine at_done (by kernel_rfl) ?_
  refine then_n ?_
  refine c_seq [1, 0] [1, 1] (by kernel_rfl) ?_
  refine c_reg 1 hnew_c_R1 (by kernel_rfl) ?_
  refine at_pures 2 (by kernel_rfl) (by kernel_rfl) ?_
  refine at_do (by kernel_rfl) (op_new (.cells #[(.int .u32 1779033703), (.int .u32 3144134277), (.int .u32 1013904242), (.int .u32 2773480762), (.int .u32 1359893119), (.int .u32 2600822924), (.int .u32 528734635), (.int .u32 1541459225), (.int .u8 0), (.int .u8 0), (.int .u8 0), (.int .u8 0), (.int .u8 0), (.int .u8 0), (.int .u8 0), (.int .u8 0), (.int .u8 0), (.int .u8 0), (.int .u8 0), (.int .u8 0), (.int .u8 0), (.int .u8 0), (.int .u8 0), (.int .u8 0), (.int .u8 0), (.int .u8 0), (.int .u8 0), (.int .u8 0), (.int .u8 0), (.int .u8 0), (.int .u8 0), (.int .u8 0), (.int .u8 0), (.int .u8 0), (.int .u8 0), (.int .u8 0), (.int .u8 0), (.int .u8 0), (.int .u8 0), (.int .u8 0), (.int .u8 0), (.int .u8 0), (.int .u8 0), (.int .u8 0), (.int .u8 0), (.int .u8 0), (.int .u8 0), (.int .u8 0), (.int .u8 0), (.int .u8 0), (.int .u8 0), (.int .u8 0), (.int .u8 0), (.int .u8 0), (.int .u8 0), (.int .u8 0), (.int .u8 0), (.int .u8 0), (.int .u8 0), (.int .u8 0), (.int .u8 0), (.int .u8 0), (.int .u8 0), (.int .u8 0), (.int .u8 0), (.int .u8 0), (.int .u8 0), (.int .u8 0), (.int .u8 0), (.int .u8 0), (.int .u8 0), (.int .u8 0), (.int .u64 0)] 132) (fun N => (.pointer (some ⟨N, 0, none⟩))) (fun _ => by kernel_rfl) (fun w2_ b1_ h3_ q4_ F5_ => ?_))
  have N6_ : New w N0 (One b1_) := New.made q4_ (Fr.size (Fr.refl w N0))
  have T7_ := Fr.tr (Fr.refl w N0) F5_
  refine at_pures 4 (by kernel_rfl) (by kernel_rfl) ?_
  refine at_done (by kernel_rfl) ?_
  refine then_n ?_
  refine c_ret (by kernel_rfl) ?_
  refine fin_ret (.pointer (some ⟨b1_, 0, none⟩)) (by kernel_rfl) (by kernel_rfl) ?_
  have h8_ : HsAt 132 w2_ b1_ [] (List.replicate 64 0) := HsAt.made (cast (by kernel_rfl) h3_)
  exact ⟨b1_, (List.replicate 64 0), rfl, h8_, T7_, N6_⟩


noncomputable def hwrite_c_R0 : Array Oper := rAt Tryd.prog 62 [0, 0, 0, 0]
noncomputable def hwrite_c_R1 : Array Oper := rAt Tryd.prog 62 [0, 0, 1, 0, 0]
noncomputable def hwrite_c_R2 : Array Oper := rAt Tryd.prog 62 [0, 0, 1, 0, 1, 0]
noncomputable def hwrite_c_R3 : Array Oper := rAt Tryd.prog 62 [0, 0, 1, 0, 1, 1, 0]
noncomputable def hwrite_c_R4 : Array Oper := rAt Tryd.prog 62 [0, 0, 1, 0, 1, 1, 1, 0]
noncomputable def hwrite_c_R5 : Array Oper := rAt Tryd.prog 62 [0, 0, 1, 0, 1, 1, 1, 1, 0]
noncomputable def hwrite_c_R6 : Array Oper := rAt Tryd.prog 62 [0, 0, 1, 0, 1, 1, 1, 1, 1, 0]
set_option maxRecDepth 100000 in
theorem hwrite_c (bh : Nat) (l : List Nat) (q : List Nat) (bs : Value) (bl : List Nat) (w : World) (h_hs : HsAt 132 w bh l q) (h_b : SlV w bs bl.length (B bl)) (h_ks1 : Rd w (some ⟨1, 0, none⟩) ((hw KL).toList)) (d_b_hs : Dis (SlF bs (B bl)) (One bh)) (d_ks1_hs : Dis (Ar (some ⟨1, 0, none⟩) ((hw KL).toList)) (One bh)) (hl : l.length ≤ 2000000) (hbl : bl.length ≤ 2000000) (hBb : Byt bl) (hcap : capOk bs) :
    Calls Tryd.prog 62 #[(.pointer (some ⟨bh, 0, none⟩)), bs] w fun e w' => ∃ (q_hs' : List Nat), e = .returned (.tuple #[]) ∧ HsAt 132 w' bh (l ++ bl) q_hs' ∧ Fr w w' (One bh) ∧ New w (One bh) (One bh) := by
  obtain ⟨ao_b, cap_b, rfl, h_b⟩ := h_b
  refine c_enter (mk 40 [(0, (.pointer (some ⟨bh, 0, none⟩))), (1, (.slice ao_b bl.length cap_b))] (fun _ => undef)) Tryd.func62 (by kernel_rfl) (by kernel_rfl) ?_
  refine c_block 0 [0] (by kernel_rfl) ?_
  have h1_ := HsAt.blk h_hs; have h2_ := HsAt.len h_hs; have h3_ := HsAt.byt h_hs; have h4_ := HsAt.tail h_hs
  refine c_loop (fun a w' => ∃ (m : List Nat), ∃ (Q : List Nat), ∃ (ao1 : Option Addr), ∃ (cap1 : Nat), ∃ (b1 : List Nat), (∃ u, a = mk 40 [(0, (.pointer (some ⟨bh, 0, none⟩))), (1, (.slice ao1 b1.length cap1))] u) ∧ (m ++ b1 = l ++ bl) ∧ (Q.length = 64) ∧ (Byt Q) ∧ (Q.take (m.length % 64) = tailL m) ∧ (b1.length ≤ cap1) ∧ (Byt b1) ∧ (w'.heap[bh]? = some (.cells (hsC (stL m) Q m.length) 132 (0, 0))) ∧ (Rd w' ao1 (B b1)) ∧ (Rd w' (some ⟨1, 0, none⟩) ((hw KL).toList)) ∧ (Dis (One bh) (Ar ao1 (B b1))) ∧ (Fr w w' (One bh))) (fun a _ => lenA 1 a) [0, 0] (by kernel_rfl) ⟨l, q, _, _, bl, is_mk (by kernel_rfl) (by kernel_rfl) (by kernel_rfl), ⟨rfl, h2_, h3_, h4_, hcap, hBb, h1_, h_b, h_ks1, (Dis.sym d_b_hs), (Fr.refl w (One bh))⟩⟩ ?_
  rintro a6_ w7_ ⟨m, Q, ao1, cap1, b1, ⟨u8_, rfl⟩, ⟨hm, hQl, hQB, hQt, hc1, hBb1, q_0L5_, q_1L5_, q_2L5_, d_0_1L5_, hFrL5_⟩⟩
  have hml : m.length + b1.length = l.length + bl.length := by have h := congrArg List.length hm; rw [List.length_append, List.length_append] at h; exact h
  refine c_seq [0, 0, 0] [0, 0, 1] (by kernel_rfl) ?_
  refine c_seq [0, 0, 0, 0] [0, 0, 0, 1] (by kernel_rfl) ?_
  refine c_reg 0 hwrite_c_R0 (by kernel_rfl) ?_
  refine at_pures 3 (by kernel_rfl) (by kernel_rfl) ?_
  refine at_done (by kernel_rfl) ?_
  refine then_n ?_
  refine c_if (.tmp 8) (decide ((b1.length : Int) > (0 : Int))) [0, 0, 0, 1, 0] [0, 0, 0, 1, 1] (by kernel_rfl) (by kernel_rfl) (fun c9_ => ?_) (fun c9_ => ?_)
  · -- yes
    replace c9_ : (b1.length : Int) > (0 : Int) := of_decide_eq_true c9_
    refine c_skip (by kernel_rfl) ?_
    refine then_n ?_
    refine c_block 1 [0, 0, 1, 0] (by kernel_rfl) ?_
    refine c_seq [0, 0, 1, 0, 0] [0, 0, 1, 0, 1] (by kernel_rfl) ?_
    refine c_reg 1 hwrite_c_R1 (by kernel_rfl) ?_
    refine at_pures 3 (by kernel_rfl) (by kernel_rfl) ?_
    refine at_load1 28 (.tmp 11) bh 72 _ _ _ (.int .u64 (m.length : Int)) (by kernel_rfl) (by kernel_rfl) (by kernel_rfl) (by kernel_rfl) q_0L5_ (by kernel_rfl) ?_
    refine at_int (kd := .u64) ((m.length : Int).tmod (64 : Int)) (((m.length % 64 : Nat) : Int)) (by kernel_rfl) (by kernel_rfl) (rem_nat _ _) ?_
    refine at_int (kd := .i64) (IntKind.i64.wrap (((m.length % 64 : Nat) : Int))) (((m.length % 64 : Nat) : Int)) (by kernel_rfl) (by kernel_rfl) (wrapN_i64 (by omega) (by omega)) ?_
    refine at_pures 7 (by kernel_rfl) (by kernel_rfl) ?_
    refine at_done (by kernel_rfl) ?_
    refine then_n ?_
    refine c_seq [0, 0, 1, 0, 1, 0] [0, 0, 1, 0, 1, 1] (by kernel_rfl) ?_
    refine c_reg 2 hwrite_c_R2 (by kernel_rfl) ?_
    refine at_pures 4 (by kernel_rfl) (by kernel_rfl) ?_
    refine at_run (.slice (some ⟨bh, 8 + (m.length % 64 : Nat) * 1, none⟩) (64 - (m.length % 64 : Nat)) (64 - (m.length % 64 : Nat))) _ (by kernel_rfl) (run_cut_arr 130 (.tmp 17) (some (.tmp 18)) none 1 bh 8 64 (m.length % 64 : Nat) 64 (by kernel_rfl) (by kernel_rfl) (by kernel_rfl) (by kernel_rfl) (by kernel_rfl) (by kernel_rfl) (by omega) (by omega) (by omega)) ?_
    refine at_pures 6 (by kernel_rfl) (by kernel_rfl) ?_
    have hPQl : (putQ Q (m.length % 64) b1).length = 64 := putQ_length hQl (by omega); have hPQB : Byt (putQ Q (m.length % 64) b1) := putQ_byt hQB hBb1
    refine at_do (by kernel_rfl) (op_copy (.tmp 19) (.tmp 20) 64 64 (by kernel_rfl) (by kernel_rfl) (by kernel_rfl) bh (8 + (m.length % 64) * 1) (64 - (m.length % 64 : Nat)) (64 - (m.length % 64 : Nat)) ao1 b1.length cap1 (B b1) _ _ (hsC (stL m) (putQ Q (m.length % 64) b1) m.length) (by kernel_rfl) (by kernel_rfl) q_0L5_ q_1L5_ (by rw [B_length]) B_one (by rw [hsC_size]; omega) (hsC_copy hQl (by omega)) (fun w10_ h11_ z12_ F13_ => ?_))
    have T14_ := Fr.then hFrL5_ F13_ (New.refl w (One bh))
    have h15_ := Rd.keep' q_1L5_ F13_ (Dis.sym d_0_1L5_)
    have h16_ := Rd.keep' q_2L5_ F13_ d_ks1_hs
    refine at_pures 8 (by kernel_rfl) (by kernel_rfl) ?_
    refine at_done (by kernel_rfl) ?_
    refine then_n ?_
    refine c_seq [0, 0, 1, 0, 1, 1, 0] [0, 0, 1, 0, 1, 1, 1] (by kernel_rfl) ?_
    refine c_reg 3 hwrite_c_R3 (by kernel_rfl) ?_
    refine at_pures 3 (by kernel_rfl) (by kernel_rfl) ?_
    refine at_load1 28 (.tmp 24) bh 72 _ _ _ (.int .u64 (m.length : Int)) (by kernel_rfl) (by kernel_rfl) (by kernel_rfl) (by kernel_rfl) h11_ (by kernel_rfl) ?_
    refine at_pures 5 (by kernel_rfl) (by kernel_rfl) ?_
    refine at_int (kd := .u64) (IntKind.u64.wrap (((min b1.length (64 - m.length % 64) : Nat) : Int))) (((min b1.length (64 - m.length % 64) : Nat) : Int)) (by kernel_rfl) (by kernel_rfl) (wrapN_u64 (by omega) (by omega)) ?_
    refine at_int (kd := .u64) (IntKind.u64.wrap ((m.length : Int) + ((min b1.length (64 - m.length % 64) : Nat) : Int))) (((m ++ b1.take (64 - m.length % 64)).length : Int)) (by kernel_rfl) (by kernel_rfl) (by rw [wrapN_u64 (by omega) (by omega), List.length_append, List.length_take]; omega) ?_
    refine at_pures 9 (by kernel_rfl) (by kernel_rfl) ?_
    refine at_do (by kernel_rfl) (op_store 28 (.tmp 30) (.tmp 28) bh 72 (.int .u64 ((m ++ b1.take (64 - m.length % 64)).length : Int)) _ _ ((hw8 (stL m)) ++ (hq (putQ Q (m.length % 64) b1)) ++ #[(.int .u64 ((m ++ b1.take (64 - m.length % 64)).length : Int))]) (by kernel_rfl) (by kernel_rfl) (by kernel_rfl) h11_ (by kernel_rfl) (by kernel_rfl) (by kernel_rfl) (by kernel_rfl) (fun w17_ h18_ z19_ F20_ => ?_))
    have T21_ := Fr.then T14_ F20_ (New.refl w (One bh))
    have h22_ := Rd.keep' h15_ F20_ (Dis.sym d_0_1L5_)
    have h23_ := Rd.keep' h16_ F20_ d_ks1_hs
    have h24_ : w17_.heap[bh]? = some (.cells (hsC (stL m) (putQ Q (m.length % 64) b1) ((m ++ b1.take (64 - m.length % 64)).length)) 132 (0, 0)) := h18_
    refine at_done (by kernel_rfl) ?_
    refine then_n ?_
    refine c_seq [0, 0, 1, 0, 1, 1, 1, 0] [0, 0, 1, 0, 1, 1, 1, 1] (by kernel_rfl) ?_
    refine c_reg 4 hwrite_c_R4 (by kernel_rfl) ?_
    refine at_pures 2 (by kernel_rfl) (by kernel_rfl) ?_
    refine at_run (.slice (cutA ao1 (min b1.length (64 - m.length % 64) : Nat) cap1 1) ((b1.drop (min b1.length (64 - m.length % 64))).length) (cap1 - (min b1.length (64 - m.length % 64) : Nat))) _ (by kernel_rfl) (by rw [List.length_drop]; exact run_cut 64 (.tmp 31) (some (.tmp 32)) none none 1 ao1 b1.length cap1 (min b1.length (64 - m.length % 64) : Nat) b1.length cap1 (by kernel_rfl) (by kernel_rfl) (by kernel_rfl) (by kernel_rfl) (by kernel_rfl) (by kernel_rfl) (by kernel_rfl) (by kernel_rfl) (by omega) (by omega) (by omega)) ?_
    have hdd : (b1.drop (min b1.length (64 - m.length % 64))).take (b1.length - (min b1.length (64 - m.length % 64))) = (b1.drop (min b1.length (64 - m.length % 64))) := List.take_of_length_le (by rw [List.length_drop]; omega)
    have h25_ : Rd w17_ (cutA ao1 (min b1.length (64 - m.length % 64) : Nat) cap1 1) (B (b1.drop (min b1.length (64 - m.length % 64)))) := by have h := Rd.cutB h22_ (min b1.length (64 - m.length % 64)) (b1.length - (min b1.length (64 - m.length % 64))) cap1 (by omega); rw [hdd] at h; exact h
    have hsub : Sub (Ar (cutA ao1 (min b1.length (64 - m.length % 64) : Nat) cap1 1) (B (b1.drop (min b1.length (64 - m.length % 64))))) (Ar ao1 (B b1)) := by rw [← hdd]; exact Sub.cutB
    refine at_pures 4 (by kernel_rfl) (by kernel_rfl) ?_
    refine at_done (by kernel_rfl) ?_
    refine then_n ?_
    refine c_seq [0, 0, 1, 0, 1, 1, 1, 1, 0] [0, 0, 1, 0, 1, 1, 1, 1, 1] (by kernel_rfl) ?_
    refine c_reg 5 hwrite_c_R5 (by kernel_rfl) ?_
    refine at_pures 2 (by kernel_rfl) (by kernel_rfl) ?_
    refine at_int (kd := .i64) (IntKind.i64.wrap (((m.length % 64 : Nat) : Int) + ((min b1.length (64 - m.length % 64) : Nat) : Int))) (((m.length % 64 : Nat) : Int) + ((min b1.length (64 - m.length % 64) : Nat) : Int)) (by kernel_rfl) (by kernel_rfl) (wrapN_i64 (by omega) (by omega)) ?_
    refine at_pures 4 (by kernel_rfl) (by kernel_rfl) ?_
    refine at_done (by kernel_rfl) ?_
    refine then_n ?_
    refine c_if (.tmp 37) ((((m.length % 64 : Nat) : Int) + ((min b1.length (64 - m.length % 64) : Nat) : Int)) == (64 : Int)) [0, 0, 1, 0, 1, 1, 1, 1, 1, 0] [0, 0, 1, 0, 1, 1, 1, 1, 1, 1] (by kernel_rfl) (by kernel_rfl) (fun c26_ => ?_) (fun c26_ => ?_)
    · -- yes
      replace c26_ : (((m.length % 64 : Nat) : Int) + ((min b1.length (64 - m.length % 64) : Nat) : Int)) = (64 : Int) := by simpa using c26_
      refine c_reg 6 hwrite_c_R6 (by kernel_rfl) ?_
      refine at_pures 1 (by kernel_rfl) (by kernel_rfl) ?_
      refine at_do (by kernel_rfl) (op_call 78 #[(.tmp 38)] #[(.pointer (some ⟨bh, 0, none⟩))] (by kernel_rfl) (by kernel_rfl) (by kernel_rfl) ?_)
      have C32_ := mix_c bh (stL m) (putQ Q (m.length % 64) b1) ((m ++ b1.take (64 - m.length % 64)).length) w17_ h24_ h23_ d_ks1_hs (by first | omega | with_reducible assumption | (simp only [List.length_append, List.length_cons, List.length_nil, putB_length]; omega) | decide) (by first | omega | with_reducible assumption | (simp only [List.length_append, List.length_cons, List.length_nil, putB_length]; omega) | decide)
      refine Calls.mono C32_ ?_
      rintro e31_ w29_ ⟨rfl, h27_, F30_⟩
      refine ⟨_, rfl, ?_⟩
      have T33_ := Fr.then T21_ F30_ (New.refl w (One bh))
      have h34_ := Rd.keep' h25_ F30_ (Sub.dis hsub (Dis.sym d_0_1L5_))
      have h35_ := Rd.keep' h23_ F30_ d_ks1_hs
      refine at_done (by kernel_rfl) ?_
      refine blk_n ?_
      refine then_n ?_
      have hst := write_mix (b := b1) hQl hQt (by omega)
      exact ⟨⟨(m ++ b1.take (64 - m.length % 64)), (putQ Q (m.length % 64) b1), (cutA ao1 (min b1.length (64 - m.length % 64) : Nat) cap1 1), (cap1 - (min b1.length (64 - m.length % 64) : Nat)), (b1.drop (min b1.length (64 - m.length % 64))), is_mk (by kernel_rfl) (by kernel_rfl) (by kernel_rfl), ⟨(by rw [List.append_assoc, take_drop_min]; exact hm), hPQl, hPQB, hst.2, (by rw [List.length_drop]; omega), hBb1.drop _, (by have h := h27_; first | (rw [hst.1] at h; exact h) | exact h), h34_, h35_, (Dis.sym (Sub.dis hsub (Dis.sym d_0_1L5_))), T33_⟩⟩, lenA_lt (x := ao1) (n := b1.length) (c := cap1) (x' := (cutA ao1 (min b1.length (64 - m.length % 64) : Nat) cap1 1)) (n' := (b1.drop (min b1.length (64 - m.length % 64))).length) (c' := (cap1 - (min b1.length (64 - m.length % 64) : Nat))) (by kernel_rfl) (by kernel_rfl) (by rw [List.length_drop]; omega)⟩
    · -- no
      replace c26_ : (((m.length % 64 : Nat) : Int) + ((min b1.length (64 - m.length % 64) : Nat) : Int)) ≠ (64 : Int) := by simpa using c26_
      refine c_skip (by kernel_rfl) ?_
      refine blk_n ?_
      refine then_n ?_
      have hst := write_more (b := b1) hQl hQt (by omega)
      exact ⟨⟨(m ++ b1.take (64 - m.length % 64)), (putQ Q (m.length % 64) b1), (cutA ao1 (min b1.length (64 - m.length % 64) : Nat) cap1 1), (cap1 - (min b1.length (64 - m.length % 64) : Nat)), (b1.drop (min b1.length (64 - m.length % 64))), is_mk (by kernel_rfl) (by kernel_rfl) (by kernel_rfl), ⟨(by rw [List.append_assoc, take_drop_min]; exact hm), hPQl, hPQB, hst.2, (by rw [List.length_drop]; omega), hBb1.drop _, (by have h := h24_; first | (rw [hst.1] at h; exact h) | exact h), h25_, h23_, (Dis.sym (Sub.dis hsub (Dis.sym d_0_1L5_))), T21_⟩⟩, lenA_lt (x := ao1) (n := b1.length) (c := cap1) (x' := (cutA ao1 (min b1.length (64 - m.length % 64) : Nat) cap1 1)) (n' := (b1.drop (min b1.length (64 - m.length % 64))).length) (c' := (cap1 - (min b1.length (64 - m.length % 64) : Nat))) (by kernel_rfl) (by kernel_rfl) (by rw [List.length_drop]; omega)⟩
  · -- no
    replace c9_ : ¬ ((b1.length : Int) > (0 : Int)) := of_decide_eq_false c9_
    refine c_exit 0 (by kernel_rfl) ?_
    refine then_e ?_
    refine then_e ?_
    refine blk_hit ?_
    refine fin_end (.tuple #[]) (by kernel_rfl) (by kernel_rfl) ?_
    have hb0 : b1 = [] := List.eq_nil_of_length_eq_zero (by omega)
    have hm2 : m = l ++ bl := by rw [hb0, List.append_nil] at hm; exact hm
    have h36_ : HsAt 132 w7_ bh (l ++ bl) Q := by rw [← hm2]; exact ⟨q_0L5_, hQl, hQB, hQt⟩
    exact ⟨Q, rfl, h36_, hFrL5_, (New.refl w (One bh))⟩

noncomputable def hsum_c_R0 : Array Oper := rAt Tryd.prog 63 [0]
noncomputable def hsum_c_R1 : Array Oper := rAt Tryd.prog 63 [1, 0]
noncomputable def hsum_c_R2 : Array Oper := rAt Tryd.prog 63 [1, 1, 0]
noncomputable def hsum_c_R3 : Array Oper := rAt Tryd.prog 63 [1, 1, 1, 0]
noncomputable def hsum_c_R4 : Array Oper := rAt Tryd.prog 63 [1, 1, 1, 1, 0, 0, 0, 0, 0]
noncomputable def hsum_c_R5 : Array Oper := rAt Tryd.prog 63 [1, 1, 1, 1, 0, 0, 0, 1, 0]
noncomputable def hsum_c_R6 : Array Oper := rAt Tryd.prog 63 [1, 1, 1, 1, 1, 0]
noncomputable def hsum_c_R7 : Array Oper := rAt Tryd.prog 63 [1, 1, 1, 1, 1, 1, 0, 0]
noncomputable def hsum_c_R8 : Array Oper := rAt Tryd.prog 63 [1, 1, 1, 1, 1, 1, 0, 1, 0, 0, 0]
noncomputable def hsum_c_R9 : Array Oper := rAt Tryd.prog 63 [1, 1, 1, 1, 1, 1, 0, 1, 0, 0, 1, 1, 0, 0, 0]
noncomputable def hsum_c_R10 : Array Oper := rAt Tryd.prog 63 [1, 1, 1, 1, 1, 1, 0, 1, 0, 0, 1, 1, 0, 0, 1]
noncomputable def hsum_c_R11 : Array Oper := rAt Tryd.prog 63 [1, 1, 1, 1, 1, 1, 0, 1, 0, 0, 1, 1, 1]
noncomputable def hsum_c_R12 : Array Oper := rAt Tryd.prog 63 [1, 1, 1, 1, 1, 1, 1, 0]
noncomputable def hsum_c_R13 : Array Oper := rAt Tryd.prog 63 [1, 1, 1, 1, 1, 1, 1, 1, 0]
noncomputable def hsum_c_R14 : Array Oper := rAt Tryd.prog 63 [1, 1, 1, 1, 1, 1, 1, 1, 1, 0, 0]
noncomputable def hsum_c_R15 : Array Oper := rAt Tryd.prog 63 [1, 1, 1, 1, 1, 1, 1, 1, 1, 0, 1, 0, 0, 0]
noncomputable def hsum_c_R16 : Array Oper := rAt Tryd.prog 63 [1, 1, 1, 1, 1, 1, 1, 1, 1, 0, 1, 0, 0, 1, 1, 0, 0, 0]
noncomputable def hsum_c_R17 : Array Oper := rAt Tryd.prog 63 [1, 1, 1, 1, 1, 1, 1, 1, 1, 0, 1, 0, 0, 1, 1, 0, 0, 1]
noncomputable def hsum_c_R18 : Array Oper := rAt Tryd.prog 63 [1, 1, 1, 1, 1, 1, 1, 1, 1, 0, 1, 0, 0, 1, 1, 1]
noncomputable def hsum_c_R19 : Array Oper := rAt Tryd.prog 63 [1, 1, 1, 1, 1, 1, 1, 1, 1, 1, 0]
set_option maxRecDepth 100000 in
theorem hsum_c (bh : Nat) (l : List Nat) (q : List Nat) (w : World) (h_hs : HsAt 132 w bh l q) (h_ks1 : Rd w (some ⟨1, 0, none⟩) ((hw KL).toList)) (hl : l.length ≤ 1000000) :
    Calls Tryd.prog 63 #[(.pointer (some ⟨bh, 0, none⟩))] w fun e w' => e = .returned (.agg (hv (shaL l))) ∧ Fr w w' N0 := by
  have hsl := HsAt.len h_hs; have hsy := HsAt.byt h_hs; have hst := HsAt.tail h_hs
  refine c_enter (mk 66 [(0, (.pointer (some ⟨bh, 0, none⟩)))] (fun _ => undef)) Tryd.func63 (by kernel_rfl) (by kernel_rfl) ?_
  refine c_seq [0] [1] (by kernel_rfl) ?_
  refine c_reg 0 hsum_c_R0 (by kernel_rfl) ?_
  refine at_do (by kernel_rfl) (op_new (.cells #[(.int .u8 0), (.int .u8 0), (.int .u8 0), (.int .u8 0), (.int .u8 0), (.int .u8 0), (.int .u8 0), (.int .u8 0), (.int .u8 0), (.int .u8 0), (.int .u8 0), (.int .u8 0), (.int .u8 0), (.int .u8 0), (.int .u8 0), (.int .u8 0), (.int .u8 0), (.int .u8 0), (.int .u8 0), (.int .u8 0), (.int .u8 0), (.int .u8 0), (.int .u8 0), (.int .u8 0), (.int .u8 0), (.int .u8 0), (.int .u8 0), (.int .u8 0), (.int .u8 0), (.int .u8 0), (.int .u8 0), (.int .u8 0)] 50) (fun N => (.pointer (some ⟨N, 0, none⟩))) (fun _ => by kernel_rfl) (fun w2_ b1_ h3_ q4_ F5_ => ?_))
  have d6_ : Dis (One b1_) (One bh) := Dis.fresh (New.one q4_) (HsAt.in h_hs)
  have d7_ : Dis (One b1_) (Ar (some ⟨1, 0, none⟩) ((hw KL).toList)) := Dis.fresh (New.one q4_) (Rd.in h_ks1)
  have N8_ : New w N0 (One b1_) := New.made q4_ (Fr.size (Fr.refl w N0))
  have T9_ := Fr.tr (Fr.refl w N0) F5_
  refine at_done (by kernel_rfl) ?_
  refine then_n ?_
  refine c_seq [1, 0] [1, 1] (by kernel_rfl) ?_
  refine c_reg 1 hsum_c_R1 (by kernel_rfl) ?_
  refine at_pures 2 (by kernel_rfl) (by kernel_rfl) ?_
  have h10_ := HsAt.keep h_hs F5_ Dis.n0
  refine at_loadN 132 (.tmp 10) bh 0 73 _ _ _ (hsC (stL l) q l.length) (by kernel_rfl) (by kernel_rfl) (by kernel_rfl) (by kernel_rfl) (by kernel_rfl) (HsAt.blk h10_) (by kernel_rfl) (by kernel_rfl) ?_
  refine at_do (by kernel_rfl) (op_new (.cells #[(.int .u32 0), (.int .u32 0), (.int .u32 0), (.int .u32 0), (.int .u32 0), (.int .u32 0), (.int .u32 0), (.int .u32 0), (.int .u8 0), (.int .u8 0), (.int .u8 0), (.int .u8 0), (.int .u8 0), (.int .u8 0), (.int .u8 0), (.int .u8 0), (.int .u8 0), (.int .u8 0), (.int .u8 0), (.int .u8 0), (.int .u8 0), (.int .u8 0), (.int .u8 0), (.int .u8 0), (.int .u8 0), (.int .u8 0), (.int .u8 0), (.int .u8 0), (.int .u8 0), (.int .u8 0), (.int .u8 0), (.int .u8 0), (.int .u8 0), (.int .u8 0), (.int .u8 0), (.int .u8 0), (.int .u8 0), (.int .u8 0), (.int .u8 0), (.int .u8 0), (.int .u8 0), (.int .u8 0), (.int .u8 0), (.int .u8 0), (.int .u8 0), (.int .u8 0), (.int .u8 0), (.int .u8 0), (.int .u8 0), (.int .u8 0), (.int .u8 0), (.int .u8 0), (.int .u8 0), (.int .u8 0), (.int .u8 0), (.int .u8 0), (.int .u8 0), (.int .u8 0), (.int .u8 0), (.int .u8 0), (.int .u8 0), (.int .u8 0), (.int .u8 0), (.int .u8 0), (.int .u8 0), (.int .u8 0), (.int .u8 0), (.int .u8 0), (.int .u8 0), (.int .u8 0), (.int .u8 0), (.int .u8 0), (.int .u64 0)] 132) (fun N => (.pointer (some ⟨N, 0, none⟩))) (fun _ => by kernel_rfl) (fun w12_ b11_ h13_ q14_ F15_ => ?_))
  have d16_ : Dis (One b11_) (One bh) := Dis.fresh (New.one q14_) (HsAt.in h10_)
  have h17_ := Rd.keep' h_ks1 F5_ Dis.n0
  have d18_ : Dis (One b11_) (Ar (some ⟨1, 0, none⟩) ((hw KL).toList)) := Dis.fresh (New.one q14_) (Rd.in h17_)
  have d19_ : Dis (One b11_) (One b1_) := Dis.fresh (New.one q14_) (In.one h3_)
  have N20_ : New w N0 (One b11_) := New.made q14_ (Fr.size T9_)
  have T21_ := Fr.tr T9_ F15_
  have h22_ := HsAt.keep h10_ F15_ Dis.n0
  have h23_ := Rd.keep' h17_ F15_ Dis.n0
  have h24_ := Fr.keep F15_ h3_ Dis.n0
  refine at_do (by kernel_rfl) (op_store 132 (.tmp 3) (.tmp 11) b11_ 0 (.agg (hsC (stL l) q l.length)) _ _ (hsC (stL l) q l.length) (by kernel_rfl) (by kernel_rfl) (by kernel_rfl) h13_ (by kernel_rfl) (by kernel_rfl) (by kernel_rfl) (by kernel_rfl) (fun w25_ h26_ z27_ F28_ => ?_))
  have T29_ := Fr.then T21_ F28_ N20_
  have h30_ := HsAt.keep h22_ F28_ (Dis.sym d16_)
  have h31_ := Rd.keep' h23_ F28_ (Dis.sym d18_)
  have h32_ := Fr.keep F28_ h24_ (Dis.sym d19_)
  refine at_done (by kernel_rfl) ?_
  refine then_n ?_
  refine c_seq [1, 1, 0] [1, 1, 1] (by kernel_rfl) ?_
  refine c_reg 2 hsum_c_R2 (by kernel_rfl) ?_
  refine at_do (by kernel_rfl) (op_new (.cells #[(.int .u8 0), (.int .u8 0), (.int .u8 0), (.int .u8 0), (.int .u8 0), (.int .u8 0), (.int .u8 0), (.int .u8 0), (.int .u8 0), (.int .u8 0), (.int .u8 0), (.int .u8 0), (.int .u8 0), (.int .u8 0), (.int .u8 0), (.int .u8 0), (.int .u8 0), (.int .u8 0), (.int .u8 0), (.int .u8 0), (.int .u8 0), (.int .u8 0), (.int .u8 0), (.int .u8 0), (.int .u8 0), (.int .u8 0), (.int .u8 0), (.int .u8 0), (.int .u8 0), (.int .u8 0), (.int .u8 0), (.int .u8 0), (.int .u8 0), (.int .u8 0), (.int .u8 0), (.int .u8 0), (.int .u8 0), (.int .u8 0), (.int .u8 0), (.int .u8 0), (.int .u8 0), (.int .u8 0), (.int .u8 0), (.int .u8 0), (.int .u8 0), (.int .u8 0), (.int .u8 0), (.int .u8 0), (.int .u8 0), (.int .u8 0), (.int .u8 0), (.int .u8 0), (.int .u8 0), (.int .u8 0), (.int .u8 0), (.int .u8 0), (.int .u8 0), (.int .u8 0), (.int .u8 0), (.int .u8 0), (.int .u8 0), (.int .u8 0), (.int .u8 0), (.int .u8 0), (.int .u8 0), (.int .u8 0), (.int .u8 0), (.int .u8 0), (.int .u8 0), (.int .u8 0), (.int .u8 0), (.int .u8 0), (.int .u8 0)] 5) (fun N => (.slice (some ⟨N, 0, none⟩) 1 73)) (fun _ => by kernel_rfl) (fun w34_ b33_ h35_ q36_ F37_ => ?_))
  have d38_ : Dis (One b33_) (One bh) := Dis.fresh (New.one q36_) (HsAt.in h30_)
  have d39_ : Dis (One b33_) (Ar (some ⟨1, 0, none⟩) ((hw KL).toList)) := Dis.fresh (New.one q36_) (Rd.in h31_)
  have d40_ : Dis (One b33_) (One b1_) := Dis.fresh (New.one q36_) (In.one h32_)
  have d41_ : Dis (One b33_) (One b11_) := Dis.fresh (New.one q36_) (In.one h26_)
  have N42_ : New w N0 (One b33_) := New.made q36_ (Fr.size T29_)
  have T43_ := Fr.tr T29_ F37_
  refine at_pures 2 (by kernel_rfl) (by kernel_rfl) ?_
  refine at_done (by kernel_rfl) ?_
  refine then_n ?_
  refine c_seq [1, 1, 1, 0] [1, 1, 1, 1] (by kernel_rfl) ?_
  refine c_reg 3 hsum_c_R3 (by kernel_rfl) ?_
  refine at_pures 2 (by kernel_rfl) (by kernel_rfl) ?_
  have h44_ := HsAt.keep h30_ F37_ Dis.n0
  have h45_ := Rd.keep' h31_ F37_ Dis.n0
  have h46_ := Fr.keep F37_ h32_ Dis.n0
  have h47_ := Fr.keep F37_ h26_ Dis.n0
  refine at_do (by kernel_rfl) (op_store 5 (.tmp 14) (.const (.int .u8 128)) b33_ 0 (.int .u8 128) _ _ #[(.int .u8 128), (.int .u8 0), (.int .u8 0), (.int .u8 0), (.int .u8 0), (.int .u8 0), (.int .u8 0), (.int .u8 0), (.int .u8 0), (.int .u8 0), (.int .u8 0), (.int .u8 0), (.int .u8 0), (.int .u8 0), (.int .u8 0), (.int .u8 0), (.int .u8 0), (.int .u8 0), (.int .u8 0), (.int .u8 0), (.int .u8 0), (.int .u8 0), (.int .u8 0), (.int .u8 0), (.int .u8 0), (.int .u8 0), (.int .u8 0), (.int .u8 0), (.int .u8 0), (.int .u8 0), (.int .u8 0), (.int .u8 0), (.int .u8 0), (.int .u8 0), (.int .u8 0), (.int .u8 0), (.int .u8 0), (.int .u8 0), (.int .u8 0), (.int .u8 0), (.int .u8 0), (.int .u8 0), (.int .u8 0), (.int .u8 0), (.int .u8 0), (.int .u8 0), (.int .u8 0), (.int .u8 0), (.int .u8 0), (.int .u8 0), (.int .u8 0), (.int .u8 0), (.int .u8 0), (.int .u8 0), (.int .u8 0), (.int .u8 0), (.int .u8 0), (.int .u8 0), (.int .u8 0), (.int .u8 0), (.int .u8 0), (.int .u8 0), (.int .u8 0), (.int .u8 0), (.int .u8 0), (.int .u8 0), (.int .u8 0), (.int .u8 0), (.int .u8 0), (.int .u8 0), (.int .u8 0), (.int .u8 0), (.int .u8 0)] (by kernel_rfl) (by kernel_rfl) (by kernel_rfl) h35_ (by kernel_rfl) (by kernel_rfl) (by kernel_rfl) (by kernel_rfl) (fun w48_ h49_ z50_ F51_ => ?_))
  have T52_ := Fr.then T43_ F51_ N42_
  have h53_ := HsAt.keep h44_ F51_ (Dis.sym d38_)
  have h54_ := Rd.keep' h45_ F51_ (Dis.sym d39_)
  have h55_ := Fr.keep F51_ h46_ (Dis.sym d40_)
  have h56_ := Fr.keep F51_ h47_ (Dis.sym d41_)
  refine at_done (by kernel_rfl) ?_
  refine then_n ?_
  refine c_seq [1, 1, 1, 1, 0] [1, 1, 1, 1, 1] (by kernel_rfl) ?_
  refine c_block 0 [1, 1, 1, 1, 0, 0] (by kernel_rfl) ?_
  have h57_ : Row w48_ 5 1 (.slice (some ⟨b33_, 0, none⟩) 1 73) 1 ((#[(.int .u8 128)]).toList) := Row.made' h49_ (by rfl) (by decide) (by decide) (by rfl)
  refine c_loop (fun a w' => ∃ (z : Nat), ∃ (vp : Value), (∃ u, a = mk 66 [(0, (.pointer (some ⟨bh, 0, none⟩))), (2, (.pointer (some ⟨b1_, 0, none⟩))), (3, (.pointer (some ⟨b11_, 0, none⟩))), (4, vp), (9, (.pointer (some ⟨bh, 0, none⟩))), (10, (.pointer (some ⟨bh, 0, none⟩))), (11, (.agg (hsC (stL l) q l.length))), (12, (.slice (some ⟨b33_, 0, none⟩) 1 73)), (13, (.slice (some ⟨b33_, 0, none⟩) 1 73)), (14, (.pointer (some ⟨b33_, 0, none⟩)))] u) ∧ (z ≤ (119 - l.length % 64) % 64) ∧ (HsAt 132 w' bh l q) ∧ (Rd w' (some ⟨1, 0, none⟩) ((hw KL).toList)) ∧ (w'.heap[b1_]? = some (.cells #[(.int .u8 0), (.int .u8 0), (.int .u8 0), (.int .u8 0), (.int .u8 0), (.int .u8 0), (.int .u8 0), (.int .u8 0), (.int .u8 0), (.int .u8 0), (.int .u8 0), (.int .u8 0), (.int .u8 0), (.int .u8 0), (.int .u8 0), (.int .u8 0), (.int .u8 0), (.int .u8 0), (.int .u8 0), (.int .u8 0), (.int .u8 0), (.int .u8 0), (.int .u8 0), (.int .u8 0), (.int .u8 0), (.int .u8 0), (.int .u8 0), (.int .u8 0), (.int .u8 0), (.int .u8 0), (.int .u8 0), (.int .u8 0)] 50 (0, 0))) ∧ (w'.heap[b11_]? = some (.cells (hsC (stL l) q l.length) 132 (0, 0))) ∧ (Row w' 5 1 vp ((z + 1)) (B (128 :: List.replicate z 0))) ∧ (Dis (One bh) (Own vp)) ∧ (Dis (Ar (some ⟨1, 0, none⟩) ((hw KL).toList)) (Own vp)) ∧ (Dis (One b1_) (Own vp)) ∧ (Dis (One b11_) (Own vp)) ∧ (New w N0 (Own vp)) ∧ (Fr w w' N0)) (fun a _ => lenZ ((119 - l.length % 64) % 64 + 1) 4 a) [1, 1, 1, 1, 0, 0, 0] (by kernel_rfl) ⟨0, _, is_mk (by kernel_rfl) (by kernel_rfl) (by kernel_rfl), ⟨Nat.zero_le _, h53_, h54_, h55_, h56_, (by exact h57_), (Dis.sym (Dis.own d38_)), (Dis.sym (Dis.own d39_)), (Dis.sym (Dis.own d40_)), (Dis.sym (Dis.own d41_)), (New.own N42_), T52_⟩⟩ ?_
  rintro a59_ w60_ ⟨z, vp, ⟨u61_, rfl⟩, ⟨hz, q_0L58_, q_1L58_, q_2L58_, q_3L58_, q_4L58_, d_0_4L58_, d_1_4L58_, d_2_4L58_, d_3_4L58_, n_4L58_, hFrL58_⟩⟩
  obtain ⟨ao62_, cap63_, rfl, hc64_, hm65_, hR66_, ho67_⟩ := Row.read q_4L58_
  refine c_seq [1, 1, 1, 1, 0, 0, 0, 0] [1, 1, 1, 1, 0, 0, 0, 1] (by kernel_rfl) ?_
  refine c_seq [1, 1, 1, 1, 0, 0, 0, 0, 0] [1, 1, 1, 1, 0, 0, 0, 0, 1] (by kernel_rfl) ?_
  refine c_reg 4 hsum_c_R4 (by kernel_rfl) ?_
  refine at_pures 3 (by kernel_rfl) (by kernel_rfl) ?_
  refine at_load1 28 (.tmp 17) bh 72 _ _ _ (.int .u64 (l.length : Int)) (by kernel_rfl) (by kernel_rfl) (by kernel_rfl) (by kernel_rfl) (HsAt.blk q_0L58_) (by kernel_rfl) ?_
  refine at_pures 6 (by kernel_rfl) (by kernel_rfl) ?_
  refine at_int (kd := .u64) (IntKind.u64.wrap (((z + 1) : Int))) (((z + 1) : Int)) (by kernel_rfl) (by kernel_rfl) (wrapN_u64 (by omega) (by omega)) ?_
  refine at_int (kd := .u64) (IntKind.u64.wrap ((l.length : Int) + ((z + 1) : Int))) ((l.length : Int) + ((z + 1) : Int)) (by kernel_rfl) (by kernel_rfl) (wrapN_u64 (by omega) (by omega)) ?_
  refine at_int (kd := .u64) (((l.length : Int) + ((z + 1) : Int)).tmod (64 : Int)) ((((l.length + (z + 1 : Nat)) % 64 : Nat) : Int)) (by kernel_rfl) (by kernel_rfl) (rem_nat2 (n := l.length + (z + 1 : Nat)) (by omega)) ?_
  refine at_pures 10 (by kernel_rfl) (by kernel_rfl) ?_
  refine at_done (by kernel_rfl) ?_
  refine then_n ?_
  refine c_if (.tmp 24) ((((l.length + (z + 1 : Nat)) % 64 : Nat) : Int) != (56 : Int)) [1, 1, 1, 1, 0, 0, 0, 0, 1, 0] [1, 1, 1, 1, 0, 0, 0, 0, 1, 1] (by kernel_rfl) (by kernel_rfl) (fun c68_ => ?_) (fun c68_ => ?_)
  · -- yes
    replace c68_ : (((l.length + (z + 1 : Nat)) % 64 : Nat) : Int) ≠ (56 : Int) := by simpa using c68_
    refine c_skip (by kernel_rfl) ?_
    refine then_n ?_
    refine c_block 1 [1, 1, 1, 1, 0, 0, 0, 1, 0] (by kernel_rfl) ?_
    refine c_reg 5 hsum_c_R5 (by kernel_rfl) ?_
    refine at_pures 1 (by kernel_rfl) (by kernel_rfl) ?_
    refine at_do (by kernel_rfl) (op_new (.cells #[(.int .u8 0)] 5) (fun N => (.slice (some ⟨N, 0, none⟩) 1 1)) (fun _ => by kernel_rfl) (fun w70_ b69_ h71_ q72_ F73_ => ?_))
    have d74_ : Dis (One b69_) (One bh) := Dis.fresh (New.one q72_) (HsAt.in q_0L58_)
    have d75_ : Dis (One b69_) (Ar (some ⟨1, 0, none⟩) ((hw KL).toList)) := Dis.fresh (New.one q72_) (Rd.in q_1L58_)
    have d76_ : Dis (One b69_) (One b1_) := Dis.fresh (New.one q72_) (In.one q_2L58_)
    have d77_ : Dis (One b69_) (One b11_) := Dis.fresh (New.one q72_) (In.one q_3L58_)
    have d78_ : Dis (One b69_) (Own (.slice ao62_ (z + 1) cap63_)) := Dis.fresh (New.one q72_) (Row.in q_4L58_)
    have N79_ : New w N0 (One b69_) := New.made q72_ (Fr.size hFrL58_)
    have T80_ := Fr.tr hFrL58_ F73_
    have h81_ := HsAt.keep q_0L58_ F73_ Dis.n0
    have h82_ := Rd.keep' q_1L58_ F73_ Dis.n0
    have h83_ := Fr.keep F73_ q_2L58_ Dis.n0
    have h84_ := Fr.keep F73_ q_3L58_ Dis.n0
    have h85_ := Row.keep q_4L58_ F73_ Dis.n0
    refine at_do (by kernel_rfl) (op_append (.tmp 25) (.tmp 26) 64 64 5 1 1 (.int .u8 0) (by kernel_rfl) (by kernel_rfl) (by rfl) (v := (.slice ao62_ (z + 1) cap63_)) (by kernel_rfl) h85_ (xv := (.slice (some ⟨b69_, 0, none⟩) 1 1)) (m := 1) (news := (#[(.int .u8 0)]).toList) (by kernel_rfl) (Rd.src (xs := (#[(.int .u8 0)]).toList) (size := 1) (e := 5) (by kernel_rfl) (Rd.of_cut h71_ 0 1 (by kernel_rfl)) (by kernel_rfl) (by decide) (ones (by kernel_rfl))) (by first | (simp only [maxLen]; omega) | (simp only [maxLen, List.length_append, List.length_cons, List.length_nil, putB_length]; omega)) (by first | omega | (simp only [List.length_append, List.length_cons, List.length_nil, putB_length]; omega)) (fun v86_ w87_ h88_ F89_ s90_ => ?_))
    have T91_ := Fr.then T80_ F89_ n_4L58_
    have d92_ : Dis (Own v86_) (One bh) := Dis.step (Dis.sym d_0_4L58_) s90_ (HsAt.in h81_)
    have h93_ := HsAt.keep h81_ F89_ d_0_4L58_
    have d94_ : Dis (Own v86_) (Ar (some ⟨1, 0, none⟩) ((hw KL).toList)) := Dis.step (Dis.sym d_1_4L58_) s90_ (Rd.in h82_)
    have h95_ := Rd.keep' h82_ F89_ d_1_4L58_
    have d96_ : Dis (Own v86_) (One b1_) := Dis.step (Dis.sym d_2_4L58_) s90_ (In.one h83_)
    have h97_ := Fr.keep F89_ h83_ d_2_4L58_
    have d98_ : Dis (Own v86_) (One b11_) := Dis.step (Dis.sym d_3_4L58_) s90_ (In.one h84_)
    have h99_ := Fr.keep F89_ h84_ d_3_4L58_
    have N100_ : New w N0 (Own v86_) := New.trans n_4L58_ s90_ (Fr.size T80_)
    obtain ⟨ao101_, cap102_, rfl, hc103_, hm104_, hR105_, ho106_⟩ := Row.read h88_
    refine at_pures 4 (by kernel_rfl) (by kernel_rfl) ?_
    refine at_done (by kernel_rfl) ?_
    refine blk_n ?_
    refine then_n ?_
    exact ⟨⟨z + 1, (.slice ao101_ ((z + 1) + 1) cap102_), is_mk (by kernel_rfl) (by kernel_rfl) (by kernel_rfl), ⟨(by omega), h93_, h95_, h97_, h99_, (by rw [padz]; exact h88_), (Dis.sym d92_), (Dis.sym d94_), (Dis.sym d96_), (Dis.sym d98_), N100_, T91_⟩⟩, lenZ_lt (x := ao62_) (n := z + 1) (c := cap63_) (x' := ao101_) (n' := z + 1 + 1) (c' := cap102_) (by kernel_rfl) (by kernel_rfl) (by omega) (by omega)⟩
  · -- no
    replace c68_ : (((l.length + (z + 1 : Nat)) % 64 : Nat) : Int) = (56 : Int) := by simpa using c68_
    refine c_exit 0 (by kernel_rfl) ?_
    refine then_e ?_
    refine then_e ?_
    refine blk_hit ?_
    refine then_n ?_
    refine c_seq [1, 1, 1, 1, 1, 0] [1, 1, 1, 1, 1, 1] (by kernel_rfl) ?_
    refine c_reg 6 hsum_c_R6 (by kernel_rfl) ?_
    refine at_pures 3 (by kernel_rfl) (by kernel_rfl) ?_
    refine at_load1 28 (.tmp 30) bh 72 _ _ _ (.int .u64 (l.length : Int)) (by kernel_rfl) (by kernel_rfl) (by kernel_rfl) (by kernel_rfl) (HsAt.blk q_0L58_) (by kernel_rfl) ?_
    refine at_int (kd := .u64) (IntKind.u64.wrap ((l.length : Int) * (8 : Int))) ((l.length : Int) * (8 : Int)) (by kernel_rfl) (by kernel_rfl) (wrapN_u64 (by omega) (by omega)) ?_
    refine at_pures 6 (by kernel_rfl) (by kernel_rfl) ?_
    refine at_done (by kernel_rfl) ?_
    refine then_n ?_
    refine c_seq [1, 1, 1, 1, 1, 1, 0] [1, 1, 1, 1, 1, 1, 1] (by kernel_rfl) ?_
    refine c_seq [1, 1, 1, 1, 1, 1, 0, 0] [1, 1, 1, 1, 1, 1, 0, 1] (by kernel_rfl) ?_
    refine c_reg 7 hsum_c_R7 (by kernel_rfl) ?_
    refine at_pures 1 (by kernel_rfl) (by kernel_rfl) ?_
    refine at_done (by kernel_rfl) ?_
    refine then_n ?_
    refine c_block 2 [1, 1, 1, 1, 1, 1, 0, 1, 0] (by kernel_rfl) ?_
    have hzz : z = (119 - l.length % 64) % 64 := by omega
    refine c_loop (fun a w' => ∃ (k : Nat), ∃ (vq : Value), (∃ u, a = mk 66 [(0, (.pointer (some ⟨bh, 0, none⟩))), (2, (.pointer (some ⟨b1_, 0, none⟩))), (3, (.pointer (some ⟨b11_, 0, none⟩))), (4, vq), (5, (.int .u64 ((l.length : Int) * (8 : Int)))), (9, (.pointer (some ⟨bh, 0, none⟩))), (10, (.pointer (some ⟨bh, 0, none⟩))), (11, (.agg (hsC (stL l) q l.length))), (12, (.slice (some ⟨b33_, 0, none⟩) 1 73)), (13, (.slice (some ⟨b33_, 0, none⟩) 1 73)), (14, (.pointer (some ⟨b33_, 0, none⟩))), (15, (.pointer (some ⟨bh, 0, none⟩))), (16, (.pointer (some ⟨bh, 0, none⟩))), (17, (.pointer (some ⟨bh, 72, none⟩))), (18, (.int .u64 (l.length : Int))), (19, (.slice ao62_ (z + 1) cap63_)), (20, (.int .i64 ((z + 1) : Int))), (21, (.int .u64 ((z + 1) : Int))), (22, (.int .u64 ((l.length : Int) + ((z + 1) : Int)))), (23, (.int .u64 (((l.length + (z + 1 : Nat)) % 64 : Nat) : Int))), (24, (.bool ((((l.length + (z + 1 : Nat)) % 64 : Nat) : Int) != (56 : Int)))), (28, (.pointer (some ⟨bh, 0, none⟩))), (29, (.pointer (some ⟨bh, 0, none⟩))), (30, (.pointer (some ⟨bh, 72, none⟩))), (31, (.int .u64 (l.length : Int))), (32, (.int .u64 ((l.length : Int) * (8 : Int)))), (33, (.int .i64 (k : Int)))] u) ∧ (k ≤ 8) ∧ (HsAt 132 w' bh l q) ∧ (Rd w' (some ⟨1, 0, none⟩) ((hw KL).toList)) ∧ (w'.heap[b1_]? = some (.cells #[(.int .u8 0), (.int .u8 0), (.int .u8 0), (.int .u8 0), (.int .u8 0), (.int .u8 0), (.int .u8 0), (.int .u8 0), (.int .u8 0), (.int .u8 0), (.int .u8 0), (.int .u8 0), (.int .u8 0), (.int .u8 0), (.int .u8 0), (.int .u8 0), (.int .u8 0), (.int .u8 0), (.int .u8 0), (.int .u8 0), (.int .u8 0), (.int .u8 0), (.int .u8 0), (.int .u8 0), (.int .u8 0), (.int .u8 0), (.int .u8 0), (.int .u8 0), (.int .u8 0), (.int .u8 0), (.int .u8 0), (.int .u8 0)] 50 (0, 0))) ∧ (w'.heap[b11_]? = some (.cells (hsC (stL l) q l.length) 132 (0, 0))) ∧ (Row w' 5 1 vq ((z + 1 + k)) (B ((128 :: List.replicate z 0) ++ putB (8 * l.length) 8 k))) ∧ (Dis (One bh) (Own vq)) ∧ (Dis (Ar (some ⟨1, 0, none⟩) ((hw KL).toList)) (Own vq)) ∧ (Dis (One b1_) (Own vq)) ∧ (Dis (One b11_) (Own vq)) ∧ (New w N0 (Own vq)) ∧ (Fr w w' N0)) (fun a _ => cnt (8) 33 a) [1, 1, 1, 1, 1, 1, 0, 1, 0, 0] (by kernel_rfl) ⟨0, _, is_mk (by kernel_rfl) (by kernel_rfl) (by kernel_rfl), ⟨Nat.zero_le _, q_0L58_, q_1L58_, q_2L58_, q_3L58_, (by rw [show putB (8 * l.length) 8 0 = [] from rfl, List.append_nil]; exact q_4L58_), d_0_4L58_, d_1_4L58_, d_2_4L58_, d_3_4L58_, n_4L58_, hFrL58_⟩⟩ ?_
    rintro a108_ w109_ ⟨k, vq, ⟨u110_, rfl⟩, ⟨hk, q_0L107_, q_1L107_, q_2L107_, q_3L107_, q_4L107_, d_0_4L107_, d_1_4L107_, d_2_4L107_, d_3_4L107_, n_4L107_, hFrL107_⟩⟩
    obtain ⟨ao111_, cap112_, rfl, hc113_, hm114_, hR115_, ho116_⟩ := Row.read q_4L107_
    refine c_seq [1, 1, 1, 1, 1, 1, 0, 1, 0, 0, 0] [1, 1, 1, 1, 1, 1, 0, 1, 0, 0, 1] (by kernel_rfl) ?_
    refine c_reg 8 hsum_c_R8 (by kernel_rfl) ?_
    refine at_pures 1 (by kernel_rfl) (by kernel_rfl) ?_
    refine at_done (by kernel_rfl) ?_
    refine then_n ?_
    refine c_seq [1, 1, 1, 1, 1, 1, 0, 1, 0, 0, 1, 0] [1, 1, 1, 1, 1, 1, 0, 1, 0, 0, 1, 1] (by kernel_rfl) ?_
    refine c_if (.tmp 34) (decide ((k : Int) < (8 : Int))) [1, 1, 1, 1, 1, 1, 0, 1, 0, 0, 1, 0, 0] [1, 1, 1, 1, 1, 1, 0, 1, 0, 0, 1, 0, 1] (by kernel_rfl) (by kernel_rfl) (fun c117_ => ?_) (fun c117_ => ?_)
    · -- yes
      replace c117_ : (k : Int) < (8 : Int) := of_decide_eq_true c117_
      refine c_skip (by kernel_rfl) ?_
      refine then_n ?_
      refine c_seq [1, 1, 1, 1, 1, 1, 0, 1, 0, 0, 1, 1, 0] [1, 1, 1, 1, 1, 1, 0, 1, 0, 0, 1, 1, 1] (by kernel_rfl) ?_
      refine c_block 3 [1, 1, 1, 1, 1, 1, 0, 1, 0, 0, 1, 1, 0, 0] (by kernel_rfl) ?_
      refine c_seq [1, 1, 1, 1, 1, 1, 0, 1, 0, 0, 1, 1, 0, 0, 0] [1, 1, 1, 1, 1, 1, 0, 1, 0, 0, 1, 1, 0, 0, 1] (by kernel_rfl) ?_
      refine c_reg 9 hsum_c_R9 (by kernel_rfl) ?_
      refine at_pures 2 (by kernel_rfl) (by kernel_rfl) ?_
      refine at_done (by kernel_rfl) ?_
      refine then_n ?_
      refine c_reg 10 hsum_c_R10 (by kernel_rfl) ?_
      refine at_pures 3 (by kernel_rfl) (by kernel_rfl) ?_
      refine at_int (kd := .i64) (IntKind.i64.wrap ((7 : Int) - (k : Int))) (((7 - k : Nat) : Int)) (by kernel_rfl) (by kernel_rfl) (by rw [wrapN_i64 (by omega) (by omega)]; omega) ?_
      refine at_int (kd := .i64) (IntKind.i64.wrap ((8 : Int) * ((7 - k : Nat) : Int))) ((8 : Int) * ((7 - k : Nat) : Int)) (by kernel_rfl) (by kernel_rfl) (wrapN_i64 (by omega) (by omega)) ?_
      refine at_run (.int .u64 (Int.fdiv ((l.length : Int) * (8 : Int)) (2 ^ (min ((8 : Int) * ((7 - k : Nat) : Int)).toNat 64)))) _ (by kernel_rfl) (run_shr (k' := .i64) (.tmp 37) (.tmp 40) ((l.length : Int) * (8 : Int)) ((8 : Int) * ((7 - k : Nat) : Int)) (by kernel_rfl) (by kernel_rfl) (by kernel_rfl) (by omega)) ?_
      refine at_int (kd := .u8) (IntKind.u8.wrap (Int.fdiv ((l.length : Int) * (8 : Int)) (2 ^ (min ((8 : Int) * ((7 - k : Nat) : Int)).toNat 64)))) (((8 * l.length / 2 ^ (8 * (8 - 1 - k)) % 256 : Nat) : Int)) (by kernel_rfl) (by kernel_rfl) (put_step8 (by omega)) ?_
      refine at_do (by kernel_rfl) (op_new (.cells #[(.int .u8 ((8 * l.length / 2 ^ (8 * (8 - 1 - k)) % 256 : Nat) : Int))] 5) (fun N => (.slice (some ⟨N, 0, none⟩) 1 1)) (fun _ => by kernel_rfl) (fun w119_ b118_ h120_ q121_ F122_ => ?_))
      have d123_ : Dis (One b118_) (One bh) := Dis.fresh (New.one q121_) (HsAt.in q_0L107_)
      have d124_ : Dis (One b118_) (Ar (some ⟨1, 0, none⟩) ((hw KL).toList)) := Dis.fresh (New.one q121_) (Rd.in q_1L107_)
      have d125_ : Dis (One b118_) (One b1_) := Dis.fresh (New.one q121_) (In.one q_2L107_)
      have d126_ : Dis (One b118_) (One b11_) := Dis.fresh (New.one q121_) (In.one q_3L107_)
      have d127_ : Dis (One b118_) (Own (.slice ao111_ (z + 1 + k) cap112_)) := Dis.fresh (New.one q121_) (Row.in q_4L107_)
      have N128_ : New w N0 (One b118_) := New.made q121_ (Fr.size hFrL107_)
      have T129_ := Fr.tr hFrL107_ F122_
      have h130_ := HsAt.keep q_0L107_ F122_ Dis.n0
      have h131_ := Rd.keep' q_1L107_ F122_ Dis.n0
      have h132_ := Fr.keep F122_ q_2L107_ Dis.n0
      have h133_ := Fr.keep F122_ q_3L107_ Dis.n0
      have h134_ := Row.keep q_4L107_ F122_ Dis.n0
      refine at_do (by kernel_rfl) (op_append (.tmp 36) (.tmp 43) 64 64 5 1 1 (.int .u8 0) (by kernel_rfl) (by kernel_rfl) (by rfl) (v := (.slice ao111_ (z + 1 + k) cap112_)) (by kernel_rfl) h134_ (xv := (.slice (some ⟨b118_, 0, none⟩) 1 1)) (m := 1) (news := (#[(.int .u8 ((8 * l.length / 2 ^ (8 * (8 - 1 - k)) % 256 : Nat) : Int))]).toList) (by kernel_rfl) (Rd.src (xs := (#[(.int .u8 ((8 * l.length / 2 ^ (8 * (8 - 1 - k)) % 256 : Nat) : Int))]).toList) (size := 1) (e := 5) (by kernel_rfl) (Rd.of_cut h120_ 0 1 (by kernel_rfl)) (by kernel_rfl) (by decide) (ones (by kernel_rfl))) (by first | (simp only [maxLen]; omega) | (simp only [maxLen, List.length_append, List.length_cons, List.length_nil, putB_length]; omega)) (by first | omega | (simp only [List.length_append, List.length_cons, List.length_nil, putB_length]; omega)) (fun v135_ w136_ h137_ F138_ s139_ => ?_))
      have T140_ := Fr.then T129_ F138_ n_4L107_
      have d141_ : Dis (Own v135_) (One bh) := Dis.step (Dis.sym d_0_4L107_) s139_ (HsAt.in h130_)
      have h142_ := HsAt.keep h130_ F138_ d_0_4L107_
      have d143_ : Dis (Own v135_) (Ar (some ⟨1, 0, none⟩) ((hw KL).toList)) := Dis.step (Dis.sym d_1_4L107_) s139_ (Rd.in h131_)
      have h144_ := Rd.keep' h131_ F138_ d_1_4L107_
      have d145_ : Dis (Own v135_) (One b1_) := Dis.step (Dis.sym d_2_4L107_) s139_ (In.one h132_)
      have h146_ := Fr.keep F138_ h132_ d_2_4L107_
      have d147_ : Dis (Own v135_) (One b11_) := Dis.step (Dis.sym d_3_4L107_) s139_ (In.one h133_)
      have h148_ := Fr.keep F138_ h133_ d_3_4L107_
      have N149_ : New w N0 (Own v135_) := New.trans n_4L107_ s139_ (Fr.size T129_)
      refine at_pures 10 (by kernel_rfl) (by kernel_rfl) ?_
      refine at_done (by kernel_rfl) ?_
      refine blk_n ?_
      refine then_n ?_
      refine c_reg 11 hsum_c_R11 (by kernel_rfl) ?_
      refine at_int (kd := .i64) (IntKind.i64.wrap ((k : Int) + (1 : Int))) ((k : Int) + (1 : Int)) (by kernel_rfl) (by kernel_rfl) (wrapN_i64 (by omega) (by omega)) ?_
      refine at_pures 2 (by kernel_rfl) (by kernel_rfl) ?_
      refine at_done (by kernel_rfl) ?_
      refine then_n ?_
      exact ⟨⟨k + 1, v135_, is_mk (by kernel_rfl) (by kernel_rfl) (by kernel_rfl), ⟨(by omega), h142_, h144_, h146_, h148_, (by rw [putB_succ, ← List.append_assoc, B_append]; exact h137_), (Dis.sym d141_), (Dis.sym d143_), (Dis.sym d145_), (Dis.sym d147_), N149_, T140_⟩⟩, cnt_lt (k := (k : Int)) (k' := ((k : Int) + (1 : Int))) (by kernel_rfl) (by kernel_rfl) (by omega) (by omega)⟩
    · -- no
      replace c117_ : ¬ ((k : Int) < (8 : Int)) := of_decide_eq_false c117_
      refine c_exit 2 (by kernel_rfl) ?_
      refine then_e ?_
      refine then_e ?_
      refine blk_hit ?_
      refine then_n ?_
      refine c_seq [1, 1, 1, 1, 1, 1, 1, 0] [1, 1, 1, 1, 1, 1, 1, 1] (by kernel_rfl) ?_
      refine c_reg 12 hsum_c_R12 (by kernel_rfl) ?_
      refine at_pures 1 (by kernel_rfl) (by kernel_rfl) ?_
      have hP : ((128 :: List.replicate z 0) ++ putB (8 * l.length) 8 k) = (padL l.length) := padL_eq hzz (by omega); have hpl := padL_length l.length
      have hpn : z + 1 + k = (padL l.length).length := by rw [← hP]; simp [putB_length]; omega
      have h150_ : Row w109_ 5 1 (.slice ao111_ (z + 1 + k) cap112_) (padL l.length).length (B (padL l.length)) := by rw [← hpn, ← hP]; exact q_4L107_
      have h151_ : HsAt 132 w109_ b11_ l q := ⟨q_3L107_, hsl, hsy, hst⟩
      refine at_do (by kernel_rfl) (op_call 62 #[(.tmp 3), (.tmp 46)] #[(.pointer (some ⟨b11_, 0, none⟩)), (.slice ao111_ (z + 1 + k) cap112_)] (by kernel_rfl) (by kernel_rfl) (by kernel_rfl) ?_)
      have C159_ := hwrite_c b11_ l q (.slice ao111_ (z + 1 + k) cap112_) (padL l.length) w109_ h151_ (Row.sl h150_) q_1L107_ (Row.slDis h150_ (Dis.sym d_3_4L107_)) (Dis.sym d18_) (by first | omega | with_reducible assumption | (simp only [List.length_append, List.length_cons, List.length_nil, putB_length]; omega) | decide) (by first | omega | with_reducible assumption | (simp only [List.length_append, List.length_cons, List.length_nil, putB_length]; omega) | decide) (by first | assumption | exact Byt.nil | exact shaL_byt _ | exact padL_byt _ | exact Byt.all (by kernel_rfl)) (by first | exact Nat.le_refl _ | (show _ ≤ _; first | omega | assumption | decide))
      refine Calls.mono C159_ ?_
      rintro e158_ w156_ ⟨qhs152_, rfl, h153_, F157_, h155_⟩
      refine ⟨_, rfl, ?_⟩
      have T160_ := Fr.then hFrL107_ F157_ N20_
      have d161_ : Dis (One b11_) (One bh) := Dis.step d16_ h155_ (HsAt.in q_0L107_)
      have h162_ := HsAt.keep q_0L107_ F157_ (Dis.sym d16_)
      have d163_ : Dis (One b11_) (Ar (some ⟨1, 0, none⟩) ((hw KL).toList)) := Dis.step d18_ h155_ (Rd.in q_1L107_)
      have h164_ := Rd.keep' q_1L107_ F157_ (Dis.sym d18_)
      have d165_ : Dis (One b11_) (One b1_) := Dis.step d19_ h155_ (In.one q_2L107_)
      have h166_ := Fr.keep F157_ q_2L107_ (Dis.sym d19_)
      have d167_ : Dis (One b11_) (Own (.slice ao111_ (z + 1 + k) cap112_)) := Dis.step d_3_4L107_ h155_ (Row.in h150_)
      have h168_ := Row.keep h150_ F157_ (Dis.sym d_3_4L107_)
      have N169_ : New w N0 (One b11_) := New.trans N20_ h155_ (Fr.size hFrL107_)
      refine at_done (by kernel_rfl) ?_
      refine then_n ?_
      refine c_seq [1, 1, 1, 1, 1, 1, 1, 1, 0] [1, 1, 1, 1, 1, 1, 1, 1, 1] (by kernel_rfl) ?_
      refine c_reg 13 hsum_c_R13 (by kernel_rfl) ?_
      refine at_do (by kernel_rfl) (op_new (.cells #[(.int .u8 0), (.int .u8 0), (.int .u8 0), (.int .u8 0), (.int .u8 0), (.int .u8 0), (.int .u8 0), (.int .u8 0), (.int .u8 0), (.int .u8 0), (.int .u8 0), (.int .u8 0), (.int .u8 0), (.int .u8 0), (.int .u8 0), (.int .u8 0), (.int .u8 0), (.int .u8 0), (.int .u8 0), (.int .u8 0), (.int .u8 0), (.int .u8 0), (.int .u8 0), (.int .u8 0), (.int .u8 0), (.int .u8 0), (.int .u8 0), (.int .u8 0), (.int .u8 0), (.int .u8 0), (.int .u8 0), (.int .u8 0)] 50) (fun N => (.pointer (some ⟨N, 0, none⟩))) (fun _ => by kernel_rfl) (fun w171_ b170_ h172_ q173_ F174_ => ?_))
      have d175_ : Dis (One b170_) (One bh) := Dis.fresh (New.one q173_) (HsAt.in h162_)
      have d176_ : Dis (One b170_) (Ar (some ⟨1, 0, none⟩) ((hw KL).toList)) := Dis.fresh (New.one q173_) (Rd.in h164_)
      have d177_ : Dis (One b170_) (One b1_) := Dis.fresh (New.one q173_) (In.one h166_)
      have d178_ : Dis (One b170_) (One b11_) := Dis.fresh (New.one q173_) (HsAt.in h153_)
      have d179_ : Dis (One b170_) (Own (.slice ao111_ (z + 1 + k) cap112_)) := Dis.fresh (New.one q173_) (Row.in h168_)
      have N180_ : New w N0 (One b170_) := New.made q173_ (Fr.size T160_)
      have T181_ := Fr.tr T160_ F174_
      refine at_done (by kernel_rfl) ?_
      refine then_n ?_
      refine c_seq [1, 1, 1, 1, 1, 1, 1, 1, 1, 0] [1, 1, 1, 1, 1, 1, 1, 1, 1, 1] (by kernel_rfl) ?_
      refine c_seq [1, 1, 1, 1, 1, 1, 1, 1, 1, 0, 0] [1, 1, 1, 1, 1, 1, 1, 1, 1, 0, 1] (by kernel_rfl) ?_
      refine c_reg 14 hsum_c_R14 (by kernel_rfl) ?_
      refine at_pures 1 (by kernel_rfl) (by kernel_rfl) ?_
      refine at_done (by kernel_rfl) ?_
      refine then_n ?_
      refine c_block 4 [1, 1, 1, 1, 1, 1, 1, 1, 1, 0, 1, 0] (by kernel_rfl) ?_
      have h182_ := HsAt.keep h162_ F174_ Dis.n0
      have h183_ := Rd.keep' h164_ F174_ Dis.n0
      have h184_ := Fr.keep F174_ h166_ Dis.n0
      have h185_ := HsAt.keep h153_ F174_ Dis.n0
      refine c_loop (fun a w' => ∃ (i : Nat), (∃ u, a = mk 66 [(0, (.pointer (some ⟨bh, 0, none⟩))), (2, (.pointer (some ⟨b1_, 0, none⟩))), (3, (.pointer (some ⟨b11_, 0, none⟩))), (4, (.slice ao111_ (z + 1 + k) cap112_)), (5, (.int .u64 ((l.length : Int) * (8 : Int)))), (7, (.pointer (some ⟨b170_, 0, none⟩))), (9, (.pointer (some ⟨bh, 0, none⟩))), (10, (.pointer (some ⟨bh, 0, none⟩))), (11, (.agg (hsC (stL l) q l.length))), (12, (.slice (some ⟨b33_, 0, none⟩) 1 73)), (13, (.slice (some ⟨b33_, 0, none⟩) 1 73)), (14, (.pointer (some ⟨b33_, 0, none⟩))), (15, (.pointer (some ⟨bh, 0, none⟩))), (16, (.pointer (some ⟨bh, 0, none⟩))), (17, (.pointer (some ⟨bh, 72, none⟩))), (18, (.int .u64 (l.length : Int))), (19, (.slice ao62_ (z + 1) cap63_)), (20, (.int .i64 ((z + 1) : Int))), (21, (.int .u64 ((z + 1) : Int))), (22, (.int .u64 ((l.length : Int) + ((z + 1) : Int)))), (23, (.int .u64 (((l.length + (z + 1 : Nat)) % 64 : Nat) : Int))), (24, (.bool ((((l.length + (z + 1 : Nat)) % 64 : Nat) : Int) != (56 : Int)))), (28, (.pointer (some ⟨bh, 0, none⟩))), (29, (.pointer (some ⟨bh, 0, none⟩))), (30, (.pointer (some ⟨bh, 72, none⟩))), (31, (.int .u64 (l.length : Int))), (32, (.int .u64 ((l.length : Int) * (8 : Int)))), (33, (.int .i64 (k : Int))), (34, (.bool (decide ((k : Int) < (8 : Int))))), (46, (.slice ao111_ (z + 1 + k) cap112_)), (47, (.tuple #[])), (48, (.int .i64 (i : Int)))] u) ∧ (i ≤ 32) ∧ (HsAt 132 w' bh l q) ∧ (Rd w' (some ⟨1, 0, none⟩) ((hw KL).toList)) ∧ (w'.heap[b1_]? = some (.cells #[(.int .u8 0), (.int .u8 0), (.int .u8 0), (.int .u8 0), (.int .u8 0), (.int .u8 0), (.int .u8 0), (.int .u8 0), (.int .u8 0), (.int .u8 0), (.int .u8 0), (.int .u8 0), (.int .u8 0), (.int .u8 0), (.int .u8 0), (.int .u8 0), (.int .u8 0), (.int .u8 0), (.int .u8 0), (.int .u8 0), (.int .u8 0), (.int .u8 0), (.int .u8 0), (.int .u8 0), (.int .u8 0), (.int .u8 0), (.int .u8 0), (.int .u8 0), (.int .u8 0), (.int .u8 0), (.int .u8 0), (.int .u8 0)] 50 (0, 0))) ∧ (HsAt 132 w' b11_ (l ++ (padL l.length)) qhs152_) ∧ (w'.heap[b170_]? = some (.cells (hv (fillB (outB (stL (l ++ (padL l.length)))) i)) 50 (0, 0))) ∧ (Fr w w' N0)) (fun a _ => cnt (32) 48 a) [1, 1, 1, 1, 1, 1, 1, 1, 1, 0, 1, 0, 0] (by kernel_rfl) ⟨0, is_mk (by kernel_rfl) (by kernel_rfl) (by kernel_rfl), ⟨Nat.zero_le _, h182_, h183_, h184_, h185_, (cast (by kernel_rfl) h172_), T181_⟩⟩ ?_
      rintro a187_ w188_ ⟨i, ⟨u189_, rfl⟩, ⟨hi, q_0L186_, q_1L186_, q_2L186_, q_3L186_, q_4L186_, hFrL186_⟩⟩
      refine c_seq [1, 1, 1, 1, 1, 1, 1, 1, 1, 0, 1, 0, 0, 0] [1, 1, 1, 1, 1, 1, 1, 1, 1, 0, 1, 0, 0, 1] (by kernel_rfl) ?_
      refine c_reg 15 hsum_c_R15 (by kernel_rfl) ?_
      refine at_pures 1 (by kernel_rfl) (by kernel_rfl) ?_
      refine at_done (by kernel_rfl) ?_
      refine then_n ?_
      refine c_seq [1, 1, 1, 1, 1, 1, 1, 1, 1, 0, 1, 0, 0, 1, 0] [1, 1, 1, 1, 1, 1, 1, 1, 1, 0, 1, 0, 0, 1, 1] (by kernel_rfl) ?_
      refine c_if (.tmp 49) (decide ((i : Int) < (32 : Int))) [1, 1, 1, 1, 1, 1, 1, 1, 1, 0, 1, 0, 0, 1, 0, 0] [1, 1, 1, 1, 1, 1, 1, 1, 1, 0, 1, 0, 0, 1, 0, 1] (by kernel_rfl) (by kernel_rfl) (fun c190_ => ?_) (fun c190_ => ?_)
      · -- yes
        replace c190_ : (i : Int) < (32 : Int) := of_decide_eq_true c190_
        refine c_skip (by kernel_rfl) ?_
        refine then_n ?_
        refine c_seq [1, 1, 1, 1, 1, 1, 1, 1, 1, 0, 1, 0, 0, 1, 1, 0] [1, 1, 1, 1, 1, 1, 1, 1, 1, 0, 1, 0, 0, 1, 1, 1] (by kernel_rfl) ?_
        refine c_block 5 [1, 1, 1, 1, 1, 1, 1, 1, 1, 0, 1, 0, 0, 1, 1, 0, 0] (by kernel_rfl) ?_
        refine c_seq [1, 1, 1, 1, 1, 1, 1, 1, 1, 0, 1, 0, 0, 1, 1, 0, 0, 0] [1, 1, 1, 1, 1, 1, 1, 1, 1, 0, 1, 0, 0, 1, 1, 0, 0, 1] (by kernel_rfl) ?_
        refine c_reg 16 hsum_c_R16 (by kernel_rfl) ?_
        refine at_pures 2 (by kernel_rfl) (by kernel_rfl) ?_
        refine at_done (by kernel_rfl) ?_
        refine then_n ?_
        refine c_reg 17 hsum_c_R17 (by kernel_rfl) ?_
        refine at_pures 2 (by kernel_rfl) (by kernel_rfl) ?_
        refine at_int (kd := .i64) (IntKind.i64.wrap ((i : Int).tdiv (4 : Int))) (((i / 4 : Nat) : Int)) (by kernel_rfl) (by kernel_rfl) (quo_i64 (by omega)) ?_
        refine at_pures 4 (by kernel_rfl) (by kernel_rfl) ?_
        refine at_run (.pointer (some ⟨b11_, 0 + (i / 4 : Nat) * 1, none⟩)) _ (by kernel_rfl) (run_idx_arr 127 (.tmp 54) (.tmp 53) 1 b11_ 0 8 .i64 (i / 4 : Nat) (by kernel_rfl) (by kernel_rfl) (by kernel_rfl) (by kernel_rfl) (by kernel_rfl) (by omega)) ?_
        refine at_run (.int .u32 (((stL (l ++ (padL l.length))).getD (i / 4 : Nat) 0).toNat : Int)) _ (by kernel_rfl) (run_load1 29 (.tmp 55) b11_ (0 + (i / 4 : Nat) * 1) _ _ _ (.int .u32 (((stL (l ++ (padL l.length))).getD (i / 4 : Nat) 0).toNat : Int)) (by kernel_rfl) (by kernel_rfl) (by kernel_rfl) (HsAt.blk q_3L186_) (hsC_get _ _ _ (i / 4 : Nat) (by omega))) ?_
        refine at_pures 7 (by kernel_rfl) (by kernel_rfl) ?_
        refine at_int (kd := .i64) ((i : Int).tmod (4 : Int)) (((i % 4 : Nat) : Int)) (by kernel_rfl) (by kernel_rfl) (rem_nat _ _) ?_
        refine at_int (kd := .i64) (IntKind.i64.wrap ((3 : Int) - ((i % 4 : Nat) : Int))) (((3 - (i % 4 : Nat) : Nat) : Int)) (by kernel_rfl) (by kernel_rfl) (by rw [wrapN_i64 (by omega) (by omega)]; omega) ?_
        refine at_int (kd := .i64) (IntKind.i64.wrap ((8 : Int) * ((3 - (i % 4 : Nat) : Nat) : Int))) (((8 * (3 - i % 4) : Nat) : Int)) (by kernel_rfl) (by kernel_rfl) (by rw [wrapN_i64 (by omega) (by omega)]; omega) ?_
        refine at_run (.int .u32 ((((stL (l ++ (padL l.length))).getD (i / 4 : Nat) 0) >>> (8 * (3 - i % 4))).toNat : Int)) _ (by kernel_rfl) (by rw [← shr_turn ((stL (l ++ (padL l.length))).getD (i / 4 : Nat) 0) (k := 8 * (3 - i % 4)) (by omega)]; exact run_shr (k' := .i64) (.tmp 56) (.tmp 60) (((stL (l ++ (padL l.length))).getD (i / 4 : Nat) 0).toNat : Int) ((8 * (3 - i % 4) : Nat) : Int) (by kernel_rfl) (by kernel_rfl) (by kernel_rfl) (by omega)) ?_
        refine at_int (kd := .u8) (IntKind.u8.wrap (((((stL (l ++ (padL l.length))).getD (i / 4 : Nat) 0) >>> (8 * (3 - i % 4))).toNat : Int))) ((((((stL (l ++ (padL l.length))).getD (i / 4 : Nat) 0) >>> (8 * (3 - i % 4))).toNat % 256 : Nat) : Int)) (by kernel_rfl) (by kernel_rfl) (by rw [wrap_u8]; rfl) ?_
        refine at_run (.pointer (some ⟨b170_, 0 + i * 1, none⟩)) _ (by kernel_rfl) (run_idx_arr 50 (.tmp 7) (.tmp 51) 1 b170_ 0 32 .i64 i (by kernel_rfl) (by kernel_rfl) (by kernel_rfl) (by kernel_rfl) (by kernel_rfl) (by omega)) ?_
        refine at_do (by kernel_rfl) (op_store1 5 (.tmp 63) (.tmp 62) b170_ (0 + i * 1) (.int .u8 (((((stL (l ++ (padL l.length))).getD (i / 4 : Nat) 0) >>> (8 * (3 - i % 4))).toNat % 256 : Nat) : Int)) _ _ (hv (fillB (outB (stL (l ++ (padL l.length)))) (i + 1))) (by kernel_rfl) (by kernel_rfl) (by kernel_rfl) (by rfl) (by rfl) q_4L186_ (by kernel_rfl) (Nat.ble_eq_true_of_le (by show 0 + i * 1 + 1 ≤ 32; omega)) (by rw [← outB_get _ (by omega), hv_set (fillB_length (by rw [outB_length]; omega) (by omega)) (by omega), fillB_step (by rw [outB_length]; omega) (by omega)]) (fun w191_ h192_ z193_ F194_ => ?_))
        have T195_ := Fr.then hFrL186_ F194_ N180_
        have h196_ := HsAt.keep q_0L186_ F194_ (Dis.sym d175_)
        have h197_ := Rd.keep' q_1L186_ F194_ (Dis.sym d176_)
        have h198_ := Fr.keep F194_ q_2L186_ (Dis.sym d177_)
        have h199_ := HsAt.keep q_3L186_ F194_ (Dis.sym d178_)
        refine at_done (by kernel_rfl) ?_
        refine blk_n ?_
        refine then_n ?_
        refine c_reg 18 hsum_c_R18 (by kernel_rfl) ?_
        refine at_int (kd := .i64) (IntKind.i64.wrap ((i : Int) + (1 : Int))) ((i : Int) + (1 : Int)) (by kernel_rfl) (by kernel_rfl) (wrapN_i64 (by omega) (by omega)) ?_
        refine at_pures 2 (by kernel_rfl) (by kernel_rfl) ?_
        refine at_done (by kernel_rfl) ?_
        refine then_n ?_
        exact ⟨⟨i + 1, is_mk (by kernel_rfl) (by kernel_rfl) (by kernel_rfl), ⟨(by omega), h196_, h197_, h198_, h199_, h192_, T195_⟩⟩, cnt_lt (k := (i : Int)) (k' := ((i : Int) + (1 : Int))) (by kernel_rfl) (by kernel_rfl) (by omega) (by omega)⟩
      · -- no
        replace c190_ : ¬ ((i : Int) < (32 : Int)) := of_decide_eq_false c190_
        refine c_exit 4 (by kernel_rfl) ?_
        refine then_e ?_
        refine then_e ?_
        refine blk_hit ?_
        refine then_n ?_
        refine c_seq [1, 1, 1, 1, 1, 1, 1, 1, 1, 1, 0] [1, 1, 1, 1, 1, 1, 1, 1, 1, 1, 1] (by kernel_rfl) ?_
        refine c_reg 19 hsum_c_R19 (by kernel_rfl) ?_
        refine at_loadN 50 (.tmp 7) b170_ 0 32 _ _ _ (hv (fillB (outB (stL (l ++ (padL l.length)))) i)) (by kernel_rfl) (by kernel_rfl) (by kernel_rfl) (by kernel_rfl) (by kernel_rfl) q_4L186_ (by kernel_rfl) (by kernel_rfl) ?_
        refine at_do (by kernel_rfl) (op_store 50 (.tmp 2) (.tmp 65) b1_ 0 (.agg (hv (fillB (outB (stL (l ++ (padL l.length)))) i))) _ _ (hv (fillB (outB (stL (l ++ (padL l.length)))) i)) (by kernel_rfl) (by kernel_rfl) (by kernel_rfl) q_2L186_ (by kernel_rfl) (by kernel_rfl) (by kernel_rfl) (by kernel_rfl) (fun w200_ h201_ z202_ F203_ => ?_))
        have T204_ := Fr.then hFrL186_ F203_ N8_
        have h205_ := HsAt.keep q_0L186_ F203_ (Dis.sym d6_)
        have h206_ := Rd.keep' q_1L186_ F203_ (Dis.sym d7_)
        have h207_ := HsAt.keep q_3L186_ F203_ d165_
        have h208_ := Fr.keep F203_ q_4L186_ d177_
        refine at_done (by kernel_rfl) ?_
        refine then_n ?_
        refine c_ret (by kernel_rfl) ?_
        refine fin_retL [.cell 2 50] [(.agg (hv (fillB (outB (stL (l ++ (padL l.length)))) i)))] (.agg (hv (fillB (outB (stL (l ++ (padL l.length)))) i))) (by kernel_rfl) (by rfl) ⟨ResOne.cellN (off := 0) (n := 32) (vs := (hv (fillB (outB (stL (l ++ (padL l.length)))) i))) (by kernel_rfl) (by kernel_rfl) (by kernel_rfl) h201_ (by kernel_rfl) (by kernel_rfl), trivial⟩ (by rfl) ?_
        exact ⟨(by rw [show i = 32 from by omega, fillB_all (outB_length _)]; rfl), T204_⟩

noncomputable def shaof_c_R0 : Array Oper := rAt Tryd.prog 42 [0]
noncomputable def shaof_c_R1 : Array Oper := rAt Tryd.prog 42 [1, 0]
noncomputable def shaof_c_R2 : Array Oper := rAt Tryd.prog 42 [1, 1, 0]
noncomputable def shaof_c_R3 : Array Oper := rAt Tryd.prog 42 [1, 1, 1, 0]
set_option maxRecDepth 100000 in
theorem shaof_c (bs : Value) (bl : List Nat) (w : World) (h_b : SlV w bs bl.length (B bl)) (h_ks1 : Rd w (some ⟨1, 0, none⟩) ((hw KL).toList)) (hbl : bl.length ≤ 900000) (hBb : Byt bl) (hcap : capOk bs) :
    Calls Tryd.prog 42 #[bs] w fun e w' => e = .returned (.agg (hv (shaL bl))) ∧ Fr w w' N0 := by
  obtain ⟨ao_b, cap_b, rfl, h_b⟩ := h_b
  refine c_enter (mk 10 [(0, (.slice ao_b bl.length cap_b))] (fun _ => undef)) Tryd.func42 (by kernel_rfl) (by kernel_rfl) ?_
  refine c_seq [0] [1] (by kernel_rfl) ?_
  refine c_reg 0 shaof_c_R0 (by kernel_rfl) ?_
  refine at_do (by kernel_rfl) (op_new (.cells #[(.int .u8 0), (.int .u8 0), (.int .u8 0), (.int .u8 0), (.int .u8 0), (.int .u8 0), (.int .u8 0), (.int .u8 0), (.int .u8 0), (.int .u8 0), (.int .u8 0), (.int .u8 0), (.int .u8 0), (.int .u8 0), (.int .u8 0), (.int .u8 0), (.int .u8 0), (.int .u8 0), (.int .u8 0), (.int .u8 0), (.int .u8 0), (.int .u8 0), (.int .u8 0), (.int .u8 0), (.int .u8 0), (.int .u8 0), (.int .u8 0), (.int .u8 0), (.int .u8 0), (.int .u8 0), (.int .u8 0), (.int .u8 0)] 50) (fun N => (.pointer (some ⟨N, 0, none⟩))) (fun _ => by kernel_rfl) (fun w2_ b1_ h3_ q4_ F5_ => ?_))
  have d6_ : Dis (One b1_) (Ar ao_b (B bl)) := Dis.fresh (New.one q4_) (Rd.in h_b)
  have d7_ : Dis (One b1_) (Ar (some ⟨1, 0, none⟩) ((hw KL).toList)) := Dis.fresh (New.one q4_) (Rd.in h_ks1)
  have N8_ : New w N0 (One b1_) := New.made q4_ (Fr.size (Fr.refl w N0))
  have T9_ := Fr.tr (Fr.refl w N0) F5_
  refine at_done (by kernel_rfl) ?_
  refine then_n ?_
  refine c_seq [1, 0] [1, 1] (by kernel_rfl) ?_
  refine c_reg 1 shaof_c_R1 (by kernel_rfl) ?_
  have h10_ := Rd.keep' h_b F5_ Dis.n0
  have h11_ := Rd.keep' h_ks1 F5_ Dis.n0
  refine at_do (by kernel_rfl) (op_call 61 #[] #[] (by kernel_rfl) (by kernel_rfl) (by kernel_rfl) ?_)
  have C20_ := hnew_c  w2_   
  refine Calls.mono C20_ ?_
  rintro e19_ w17_ ⟨b12_, qhs13_, rfl, h14_, F18_, h16_⟩
  refine ⟨_, rfl, ?_⟩
  have d21_ : Dis (One b12_) (Ar ao_b (B bl)) := Dis.fresh h16_ (Rd.in h10_)
  have d22_ : Dis (One b12_) (Ar (some ⟨1, 0, none⟩) ((hw KL).toList)) := Dis.fresh h16_ (Rd.in h11_)
  have d23_ : Dis (One b12_) (One b1_) := Dis.fresh h16_ (In.one h3_)
  have T24_ := Fr.tr T9_ F18_
  have h25_ := Rd.keep' h10_ F18_ Dis.n0
  have h26_ := Rd.keep' h11_ F18_ Dis.n0
  have h27_ := Fr.keep F18_ h3_ Dis.n0
  have N29_ : New w N0 (One b12_) := New.later' h16_ (Fr.size T9_)
  refine at_pures 2 (by kernel_rfl) (by kernel_rfl) ?_
  refine at_done (by kernel_rfl) ?_
  refine then_n ?_
  refine c_seq [1, 1, 0] [1, 1, 1] (by kernel_rfl) ?_
  refine c_reg 2 shaof_c_R2 (by kernel_rfl) ?_
  refine at_pures 2 (by kernel_rfl) (by kernel_rfl) ?_
  refine at_do (by kernel_rfl) (op_call 62 #[(.tmp 5), (.tmp 6)] #[(.pointer (some ⟨b12_, 0, none⟩)), (.slice ao_b bl.length cap_b)] (by kernel_rfl) (by kernel_rfl) (by kernel_rfl) ?_)
  have C37_ := hwrite_c b12_ [] qhs13_ (.slice ao_b bl.length cap_b) bl w17_ h14_ ⟨_, _, rfl, h25_⟩ h26_ (Dis.sym d21_) (Dis.sym d22_) (by first | omega | with_reducible assumption | (simp only [List.length_nil]; omega) | decide) (by first | omega | with_reducible assumption | (simp only [List.length_append, List.length_cons, List.length_nil, putB_length]; omega) | decide) (by first | assumption | exact Byt.nil | exact shaL_byt _ | exact padL_byt _ | exact Byt.all (by kernel_rfl)) (by first | exact Nat.le_refl _ | (show _ ≤ _; first | omega | assumption | decide))
  refine Calls.mono C37_ ?_
  rintro e36_ w34_ ⟨qhs30_, rfl, h31_, F35_, h33_⟩
  refine ⟨_, rfl, ?_⟩
  have T38_ := Fr.then T24_ F35_ N29_
  have d39_ : Dis (One b12_) (Ar ao_b (B bl)) := Dis.step d21_ h33_ (Rd.in h25_)
  have h40_ := Rd.keep' h25_ F35_ (Dis.sym d21_)
  have d41_ : Dis (One b12_) (Ar (some ⟨1, 0, none⟩) ((hw KL).toList)) := Dis.step d22_ h33_ (Rd.in h26_)
  have h42_ := Rd.keep' h26_ F35_ (Dis.sym d22_)
  have d43_ : Dis (One b12_) (One b1_) := Dis.step d23_ h33_ (In.one h27_)
  have h44_ := Fr.keep F35_ h27_ (Dis.sym d23_)
  have N45_ : New w N0 (One b12_) := New.trans N29_ h33_ (Fr.size T24_)
  refine at_done (by kernel_rfl) ?_
  refine then_n ?_
  refine c_seq [1, 1, 1, 0] [1, 1, 1, 1] (by kernel_rfl) ?_
  refine c_reg 3 shaof_c_R3 (by kernel_rfl) ?_
  refine at_pures 1 (by kernel_rfl) (by kernel_rfl) ?_
  refine at_do (by kernel_rfl) (op_call 63 #[(.tmp 8)] #[(.pointer (some ⟨b12_, 0, none⟩))] (by kernel_rfl) (by kernel_rfl) (by kernel_rfl) ?_)
  have C50_ := hsum_c b12_ ([] ++ bl) qhs30_ w34_ h31_ h42_  (by first | omega | with_reducible assumption | (simp only [List.length_append, List.length_nil]; omega) | decide)
  refine Calls.mono C50_ ?_
  rintro e49_ w47_ ⟨rfl, F48_⟩
  refine ⟨_, rfl, ?_⟩
  have T51_ := Fr.tr T38_ F48_
  have h52_ := Rd.keep' h40_ F48_ Dis.n0
  have h53_ := Rd.keep' h42_ F48_ Dis.n0
  have h54_ := Fr.keep F48_ h44_ Dis.n0
  have h55_ := HsAt.keep h31_ F48_ Dis.n0
  refine at_do (by kernel_rfl) (op_store 50 (.tmp 2) (.tmp 9) b1_ 0 (.agg (hv (shaL ([] ++ bl)))) _ _ (hv (shaL ([] ++ bl))) (by kernel_rfl) (by kernel_rfl) (by kernel_rfl) h54_ (by kernel_rfl) (by kernel_rfl) (by kernel_rfl) (by kernel_rfl) (fun w56_ h57_ z58_ F59_ => ?_))
  have T60_ := Fr.then T51_ F59_ N8_
  have h61_ := Rd.keep' h52_ F59_ (Dis.sym d6_)
  have h62_ := Rd.keep' h53_ F59_ (Dis.sym d7_)
  have h63_ := HsAt.keep h55_ F59_ d43_
  refine at_done (by kernel_rfl) ?_
  refine then_n ?_
  refine c_ret (by kernel_rfl) ?_
  refine fin_retL [.cell 2 50] [(.agg (hv (shaL ([] ++ bl))))] (.agg (hv (shaL ([] ++ bl)))) (by kernel_rfl) (by rfl) ⟨ResOne.cellN (off := 0) (n := 32) (vs := (hv (shaL ([] ++ bl)))) (by kernel_rfl) (by kernel_rfl) (by kernel_rfl) h57_ (by kernel_rfl) (by kernel_rfl), trivial⟩ (by rfl) ?_
  exact ⟨rfl, T60_⟩
end Go.Proofs.YtokdfjelilhekaaDoor
