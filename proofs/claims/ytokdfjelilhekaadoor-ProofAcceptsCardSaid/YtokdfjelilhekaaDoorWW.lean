/- The walks of the wire's writer. -/
import Derived.Test.YtokdfjelilhekaaDoorLib2
import Derived.Test.YtokdfjelilhekaaDoorProg
namespace Go.Proofs.YtokdfjelilhekaaDoor
open Go Go.RowKit Go.Alm
noncomputable def put_c_R0 : Array Oper := rAt Tryd.prog 80 [0]
noncomputable def put_c_R1 : Array Oper := rAt Tryd.prog 80 [1, 0, 0, 0]
noncomputable def put_c_R2 : Array Oper := rAt Tryd.prog 80 [1, 0, 0, 1, 1, 0, 0, 0]
noncomputable def put_c_R3 : Array Oper := rAt Tryd.prog 80 [1, 0, 0, 1, 1, 0, 0, 1]
def put_c_sk3 : Nat → Bool := fun i => decide (i ∈ [5, 6, 7, 8, 9, 10, 11, 12, 13])
def put_c_pl3 : List (Nat × PK) := [(0, .q false), (1, .q false), (2, .q false), (3, .q false), (4, .q true), (5, .q false), (6, .q false), (7, .q false), (8, .q false), (9, .q false), (10, .q false), (11, .q false), (12, .q false), (13, .e), (14, .e), (15, .q false), (16, .q false), (17, .e)]
noncomputable def put_c_R4 : Array Oper := rAt Tryd.prog 80 [1, 0, 0, 1, 1, 1]
set_option maxRecDepth 100000 in
theorem put_c (bw : Nat) (v : Value) (l : List Nat) (n size : Nat) (w : World) (hW : WrAt 5 118 w bw v l) (hl : l.length ≤ 1000000) (hs : size ≤ 8) :
    Calls Tryd.prog 80 #[(.pointer (some ⟨bw, 0, none⟩)), (.int .u64 (n : Int)), (.int .i64 (size : Int))] w fun e w' => e = .returned (.tuple #[]) ∧ ∃ v', WrAt 5 118 w' bw v' (l ++ putB n size size) ∧ Fr w w' (wrS bw v) ∧ New w (wrS bw v) (wrS bw v') := by
  have hb := hW.blk; have hr := hW.row; have hd := hW.dis
  refine c_enter (mk 29 [(0, (.pointer (some ⟨bw, 0, none⟩))), (1, (.int .u64 (n : Int))), (2, (.int .i64 (size : Int)))] (fun _ => undef)) Tryd.func80 (by kernel_rfl) (by kernel_rfl) ?_
  refine c_seq [0] [1] (by kernel_rfl) ?_
  refine c_reg 0 put_c_R0 (by kernel_rfl) ?_
  refine at_pures 2 (by kernel_rfl) (by kernel_rfl) ?_
  refine at_done (by kernel_rfl) ?_
  refine then_n ?_
  refine c_block 0 [1, 0] (by kernel_rfl) ?_
  refine c_loop (fun a w' => ∃ (k : Nat), ∃ (v' : Value), (∃ u, a = mk 29 [(0, (.pointer (some ⟨bw, 0, none⟩))), (1, (.int .u64 (n : Int))), (2, (.int .i64 (size : Int))), (7, (.int .i64 (size : Int))), (8, (.int .i64 (k : Int)))] u) ∧ k ≤ size ∧ WrAt 5 118 w' bw v' (l ++ putB n size k) ∧ Fr w w' (wrS bw v) ∧ New w (wrS bw v) (wrS bw v')) (fun a _ => cnt (size) 8 a) [1, 0, 0] (by kernel_rfl) ⟨0, v, is_mk (by kernel_rfl) (by kernel_rfl) (by kernel_rfl), ⟨Nat.zero_le _, by simpa [putB] using hW, Fr.refl _ _, New.refl _ _⟩⟩ ?_
  rintro a1_ w2_ ⟨k, v', ⟨u3_, rfl⟩, ⟨hk, hW', hFr, hNw⟩⟩
  have hb' := hW'.blk; have hr' := hW'.row; have hd' := hW'.dis
  refine c_seq [1, 0, 0, 0] [1, 0, 0, 1] (by kernel_rfl) ?_
  refine c_reg 1 put_c_R1 (by kernel_rfl) ?_
  refine at_pures 1 (by kernel_rfl) (by kernel_rfl) ?_
  refine at_done (by kernel_rfl) ?_
  refine then_n ?_
  refine c_seq [1, 0, 0, 1, 0] [1, 0, 0, 1, 1] (by kernel_rfl) ?_
  refine c_if (.tmp 9) (decide ((k : Int) < (size : Int))) [1, 0, 0, 1, 0, 0] [1, 0, 0, 1, 0, 1] (by kernel_rfl) (by kernel_rfl) (fun c4_ => ?_) (fun c4_ => ?_)
  · -- yes
    replace c4_ : (k : Int) < (size : Int) := of_decide_eq_true c4_
    refine c_skip (by kernel_rfl) ?_
    refine then_n ?_
    refine c_seq [1, 0, 0, 1, 1, 0] [1, 0, 0, 1, 1, 1] (by kernel_rfl) ?_
    refine c_block 1 [1, 0, 0, 1, 1, 0, 0] (by kernel_rfl) ?_
    refine c_seq [1, 0, 0, 1, 1, 0, 0, 0] [1, 0, 0, 1, 1, 0, 0, 1] (by kernel_rfl) ?_
    refine c_reg 2 put_c_R2 (by kernel_rfl) ?_
    refine at_pures 2 (by kernel_rfl) (by kernel_rfl) ?_
    refine at_done (by kernel_rfl) ?_
    refine then_n ?_
    refine c_plan 3 put_c_R3 (fun w' => w'.heap[bw]? = some (.cells #[v'] 118 (0, 0)) ∧ True) put_c_sk3 put_c_pl3 (by kernel_rfl) (by kernel_rfl) (by kernel_rfl) (by kernel_rfl) (by kernel_rfl) (fun w5_ F6_ => ?_)
    have T7_ := Fr.tr hFr F6_
    have h9_ := Fr.keep F6_ hb' Dis.n0
    have S8_ : w5_.heap[bw]? = some (.cells #[v'] 118 (0, 0)) ∧ True := ⟨h9_, trivial⟩
    refine pl_pures 4 (by kernel_rfl) (by kernel_rfl) (off (by kernel_rfl)) ?_
    refine pl_read 4 v' (by kernel_rfl) (by kernel_rfl) (fun w' hs => run_load1 64 (.tmp 14) bw 0 _ _ _ v' (by kernel_rfl) (by kernel_rfl) (by kernel_rfl) hs.1 (by kernel_rfl)) S8_ ?_
    refine pl_pures 7 (by kernel_rfl) (by kernel_rfl) (fun _ => S8_) ?_
    refine pl_as 7 (.int .i64 (IntKind.i64.wrap ((size : Int) - (1 : Int)))) (.int .i64 ((size : Int) - (1 : Int))) (by kernel_rfl) (by kernel_rfl) ⟨by kernel_rfl, by kernel_rfl⟩ (congrArg (Value.int .i64) (wrapN_i64 (by omega) (by omega))) (fun _ => S8_) ?_
    refine pl_pures 9 (by kernel_rfl) (by kernel_rfl) (fun _ => S8_) ?_
    refine pl_as 9 (.int .i64 (IntKind.i64.wrap (((size : Int) - (1 : Int)) - (k : Int)))) (.int .i64 (((size : Int) - (1 : Int)) - (k : Int))) (by kernel_rfl) (by kernel_rfl) ⟨by kernel_rfl, by kernel_rfl⟩ (congrArg (Value.int .i64) (wrapN_i64 (by omega) (by omega))) (fun _ => S8_) ?_
    refine pl_as 10 (.int .i64 (IntKind.i64.wrap ((8 : Int) * (((size : Int) - (1 : Int)) - (k : Int))))) (.int .i64 ((8 : Int) * (((size : Int) - (1 : Int)) - (k : Int)))) (by kernel_rfl) (by kernel_rfl) ⟨by kernel_rfl, by kernel_rfl⟩ (congrArg (Value.int .i64) (wrapN_i64 (by omega) (by omega))) (fun _ => S8_) ?_
    refine pl_quiet 11 (.int .u64 (Int.fdiv (n : Int) (2 ^ (min ((8 : Int) * (((size : Int) - (1 : Int)) - (k : Int))).toNat 64)))) (by kernel_rfl) (by kernel_rfl) (fun w' => run_shr (k' := .i64) (.tmp 16) (.tmp 21) (n : Int) ((8 : Int) * (((size : Int) - (1 : Int)) - (k : Int))) (by kernel_rfl) (by kernel_rfl) (by kernel_rfl) (by omega)) (fun _ => S8_) ?_
    refine pl_pures 13 (by kernel_rfl) (by kernel_rfl) (fun _ => S8_) ?_
    refine pl_do 13 (by kernel_rfl) (by kernel_rfl) (op_new (.cells #[(.int .u8 (IntKind.u8.wrap (Int.fdiv (n : Int) (2 ^ (min ((8 : Int) * (((size : Int) - (1 : Int)) - (k : Int))).toNat 64)))))] 5) (fun N => (.slice (some ⟨N, 0, none⟩) 1 1)) (fun _ => by kernel_rfl) (fun w11_ b10_ h12_ q13_ F14_ => ?_))
    have d15_ : Dis (One b10_) (One bw) := Dis.fresh (New.one q13_) (In.one h9_)
    have h16_ := Row.keep hr' F6_ Dis.n0
    have d17_ : Dis (One b10_) (Own v') := Dis.fresh (New.one q13_) (Row.in h16_)
    have N18_ : New w (wrS bw v) (One b10_) := New.made q13_ (Fr.size T7_)
    have T19_ := Fr.tr T7_ F14_
    have h20_ := Fr.keep F14_ h9_ Dis.n0
    have S21_ : w11_.heap[bw]? = some (.cells #[v'] 118 (0, 0)) ∧ True := ⟨h20_, trivial⟩
    refine ⟨fun _ => S21_, ?_⟩
    have h22_ := Row.keep h16_ F14_ Dis.n0
    refine pl_do 14 (by kernel_rfl) (by kernel_rfl) (op_append (.tmp 15) (.tmp 24) 64 64 5 1 1 (.int .u8 0) (by kernel_rfl) (by kernel_rfl) (by rfl) (v := v') (by kernel_rfl) h22_ (xv := (.slice (some ⟨b10_, 0, none⟩) 1 1)) (m := 1) (news := (#[(.int .u8 (IntKind.u8.wrap (Int.fdiv (n : Int) (2 ^ (min ((8 : Int) * (((size : Int) - (1 : Int)) - (k : Int))).toNat 64)))))]).toList) (by kernel_rfl) (Rd.src (xs := (#[(.int .u8 (IntKind.u8.wrap (Int.fdiv (n : Int) (2 ^ (min ((8 : Int) * (((size : Int) - (1 : Int)) - (k : Int))).toNat 64)))))]).toList) (size := 1) (e := 5) (by kernel_rfl) (Rd.of_cut h12_ 0 1 (by kernel_rfl)) (by kernel_rfl) (by decide) (ones (by kernel_rfl))) (by simp only [maxLen, List.length_append, putB_length]; omega) (by simp only [List.length_append, putB_length]; omega) (fun v23_ w24_ h25_ F26_ s27_ => ?_))
    have T28_ := Fr.then T19_ F26_ (New.right hNw)
    have d29_ : Dis (Own v23_) (One bw) := Dis.step hd' s27_ (In.one h20_)
    have h30_ := Fr.keep F26_ h20_ (Dis.sym hd')
    have N31_ : New w (wrS bw v) (Own v23_) := New.trans (New.right hNw) s27_ (Fr.size T19_)
    refine ⟨off (by kernel_rfl), ?_⟩
    refine pl_pures 17 (by kernel_rfl) (by kernel_rfl) (off (by kernel_rfl)) ?_
    refine pl_do 17 (by kernel_rfl) (by kernel_rfl) (op_store1 64 (.tmp 27) (.tmp 25) bw 0 v23_ _ _ #[v23_] (by kernel_rfl) (by kernel_rfl) (by kernel_rfl) (Row.cells h25_).1 (Row.cells h25_).2 h30_ (by kernel_rfl) (by kernel_rfl) (by kernel_rfl) (fun w32_ h33_ z34_ F35_ => ?_))
    have T36_ := Fr.then T28_ F35_ (New.left hNw)
    have h37_ := Row.keep h25_ F35_ d29_
    refine ⟨off (by kernel_rfl), ?_⟩
    refine pl_done (by kernel_rfl) ?_
    refine blk_n ?_
    refine then_n ?_
    refine c_reg 4 put_c_R4 (by kernel_rfl) ?_
    refine at_int (kd := .i64) (IntKind.i64.wrap ((k : Int) + (1 : Int))) ((k : Int) + (1 : Int)) (by kernel_rfl) (by kernel_rfl) (wrapN_i64 (by omega) (by omega)) ?_
    refine at_pures 2 (by kernel_rfl) (by kernel_rfl) ?_
    refine at_done (by kernel_rfl) ?_
    refine then_n ?_
    have hx : B (l ++ putB n size k) ++ (#[(.int .u8 (IntKind.u8.wrap (Int.fdiv (n : Int) (2 ^ (min ((8 : Int) * (((size : Int) - (1 : Int)) - (k : Int))).toNat 64)))))]).toList = B (l ++ putB n size (k + 1)) := by rw [putB_succ, ← List.append_assoc, B_append (l ++ putB n size k), put_step (n := n) (size := size) (k := k) (by omega) hs]; rfl
    have hlen : (l ++ putB n size k).length + 1 = (l ++ putB n size (k + 1)).length := by simp [putB_length]; omega
    have hr2 : Row w32_ 5 1 v23_ (l ++ putB n size (k + 1)).length (B (l ++ putB n size (k + 1))) := by rw [← hx, ← hlen]; exact h37_
    exact ⟨⟨k + 1, v23_, is_mk (by kernel_rfl) (by kernel_rfl) (by kernel_rfl), by omega, ⟨h33_, hr2, d29_⟩, T36_, New.two (New.left hNw) N31_⟩, cnt_lt (k := (k : Int)) (k' := (k : Int) + 1) (by kernel_rfl) (by kernel_rfl) (by omega) (by omega)⟩
  · -- no
    replace c4_ : ¬ ((k : Int) < (size : Int)) := of_decide_eq_false c4_
    refine c_exit 0 (by kernel_rfl) ?_
    refine then_e ?_
    refine then_e ?_
    refine blk_hit ?_
    refine fin_end (.tuple #[]) (by kernel_rfl) (by kernel_rfl) ?_
    exact ⟨rfl, v', by rw [show k = size from by omega] at hW'; exact hW', hFr, hNw⟩

noncomputable def byte_c_R0 : Array Oper := rAt Tryd.prog 79 []
set_option maxRecDepth 100000 in
theorem byte_c (bw : Nat) (v : Value) (l : List Nat) (n : Nat) (w : World) (hW : WrAt 5 118 w bw v l) (hl : l.length ≤ 1000000) (hn : n < 256) :
    Calls Tryd.prog 79 #[(.pointer (some ⟨bw, 0, none⟩)), (.int .u8 (n : Int))] w fun e w' => e = .returned (.tuple #[]) ∧ ∃ v', WrAt 5 118 w' bw v' (l ++ putB n 1 1) ∧ Fr w w' (wrS bw v) ∧ New w (wrS bw v) (wrS bw v') := by
  refine c_enter (mk 8 [(0, (.pointer (some ⟨bw, 0, none⟩))), (1, (.int .u8 (n : Int)))] (fun _ => undef)) Tryd.func79 (by kernel_rfl) (by kernel_rfl) ?_
  refine c_reg 0 byte_c_R0 (by kernel_rfl) ?_
  refine at_pures 2 (by kernel_rfl) (by kernel_rfl) ?_
  refine at_int (kd := .u64) (IntKind.u64.wrap ((n : Int))) ((n : Int)) (by kernel_rfl) (by kernel_rfl) (wrapN_u64 (by omega) (by omega)) ?_
  refine at_do (by kernel_rfl) (op_call 80 #[(.tmp 4), (.tmp 6), (.const (.int .i64 1))] #[(.pointer (some ⟨bw, 0, none⟩)), (.int .u64 (n : Int)), (.int .i64 1)] (by kernel_rfl) (by kernel_rfl) (by kernel_rfl) ?_)
  have C7_ := put_c bw v l n 1 w hW (by omega) (by omega)
  refine Calls.mono C7_ ?_
  rintro e6_ w4_ ⟨rfl, v1_, h2_, F5_, N3_⟩
  refine ⟨_, rfl, ?_⟩
  have T8_ := Fr.then (Fr.refl w (wrS bw v)) F5_ (New.refl w (wrS bw v))
  have N9_ : New w (wrS bw v) (wrS bw v1_) := New.trans (New.refl w (wrS bw v)) N3_ (Fr.size (Fr.refl w (wrS bw v)))
  refine at_done (by kernel_rfl) ?_
  refine fin_end (.tuple #[]) (by kernel_rfl) (by kernel_rfl) ?_
  exact ⟨rfl, v1_, h2_, T8_, N9_⟩

noncomputable def num_c_R0 : Array Oper := rAt Tryd.prog 69 []
set_option maxRecDepth 100000 in
theorem num_c (bw : Nat) (v : Value) (l : List Nat) (n : Nat) (w : World) (hW : WrAt 5 118 w bw v l) (hl : l.length ≤ 1000000) (hn : n < 4294967296) :
    Calls Tryd.prog 69 #[(.pointer (some ⟨bw, 0, none⟩)), (.int .u32 (n : Int))] w fun e w' => e = .returned (.tuple #[]) ∧ ∃ v', WrAt 5 118 w' bw v' (l ++ putB n 4 4) ∧ Fr w w' (wrS bw v) ∧ New w (wrS bw v) (wrS bw v') := by
  refine c_enter (mk 8 [(0, (.pointer (some ⟨bw, 0, none⟩))), (1, (.int .u32 (n : Int)))] (fun _ => undef)) Tryd.func69 (by kernel_rfl) (by kernel_rfl) ?_
  refine c_reg 0 num_c_R0 (by kernel_rfl) ?_
  refine at_pures 2 (by kernel_rfl) (by kernel_rfl) ?_
  refine at_int (kd := .u64) (IntKind.u64.wrap ((n : Int))) ((n : Int)) (by kernel_rfl) (by kernel_rfl) (wrapN_u64 (by omega) (by omega)) ?_
  refine at_do (by kernel_rfl) (op_call 80 #[(.tmp 4), (.tmp 6), (.const (.int .i64 4))] #[(.pointer (some ⟨bw, 0, none⟩)), (.int .u64 (n : Int)), (.int .i64 4)] (by kernel_rfl) (by kernel_rfl) (by kernel_rfl) ?_)
  have C7_ := put_c bw v l n 4 w hW (by omega) (by omega)
  refine Calls.mono C7_ ?_
  rintro e6_ w4_ ⟨rfl, v1_, h2_, F5_, N3_⟩
  refine ⟨_, rfl, ?_⟩
  have T8_ := Fr.then (Fr.refl w (wrS bw v)) F5_ (New.refl w (wrS bw v))
  have N9_ : New w (wrS bw v) (wrS bw v1_) := New.trans (New.refl w (wrS bw v)) N3_ (Fr.size (Fr.refl w (wrS bw v)))
  refine at_done (by kernel_rfl) ?_
  refine fin_end (.tuple #[]) (by kernel_rfl) (by kernel_rfl) ?_
  exact ⟨rfl, v1_, h2_, T8_, N9_⟩

noncomputable def long_c_R0 : Array Oper := rAt Tryd.prog 68 []
set_option maxRecDepth 100000 in
theorem long_c (bw : Nat) (v : Value) (l : List Nat) (n : Nat) (w : World) (hW : WrAt 5 118 w bw v l) (hl : l.length ≤ 1000000) (_ : n < 18446744073709551616) :
    Calls Tryd.prog 68 #[(.pointer (some ⟨bw, 0, none⟩)), (.int .u64 (n : Int))] w fun e w' => e = .returned (.tuple #[]) ∧ ∃ v', WrAt 5 118 w' bw v' (l ++ putB n 8 8) ∧ Fr w w' (wrS bw v) ∧ New w (wrS bw v) (wrS bw v') := by
  refine c_enter (mk 7 [(0, (.pointer (some ⟨bw, 0, none⟩))), (1, (.int .u64 (n : Int)))] (fun _ => undef)) Tryd.func68 (by kernel_rfl) (by kernel_rfl) ?_
  refine c_reg 0 long_c_R0 (by kernel_rfl) ?_
  refine at_pures 2 (by kernel_rfl) (by kernel_rfl) ?_
  refine at_do (by kernel_rfl) (op_call 80 #[(.tmp 4), (.tmp 5), (.const (.int .i64 8))] #[(.pointer (some ⟨bw, 0, none⟩)), (.int .u64 (n : Int)), (.int .i64 8)] (by kernel_rfl) (by kernel_rfl) (by kernel_rfl) ?_)
  have C7_ := put_c bw v l n 8 w hW (by omega) (by omega)
  refine Calls.mono C7_ ?_
  rintro e6_ w4_ ⟨rfl, v1_, h2_, F5_, N3_⟩
  refine ⟨_, rfl, ?_⟩
  have T8_ := Fr.then (Fr.refl w (wrS bw v)) F5_ (New.refl w (wrS bw v))
  have N9_ : New w (wrS bw v) (wrS bw v1_) := New.trans (New.refl w (wrS bw v)) N3_ (Fr.size (Fr.refl w (wrS bw v)))
  refine at_done (by kernel_rfl) ?_
  refine fin_end (.tuple #[]) (by kernel_rfl) (by kernel_rfl) ?_
  exact ⟨rfl, v1_, h2_, T8_, N9_⟩


noncomputable def text_c_R0 : Array Oper := rAt Tryd.prog 67 [0]
noncomputable def text_c_R1 : Array Oper := rAt Tryd.prog 67 [1, 0, 0]
noncomputable def text_c_R2 : Array Oper := rAt Tryd.prog 67 [1, 0, 1, 0, 0]
noncomputable def text_c_R3 : Array Oper := rAt Tryd.prog 67 [1, 1, 0]
noncomputable def text_c_R4 : Array Oper := rAt Tryd.prog 67 [1, 1, 1, 0]
noncomputable def text_c_R5 : Array Oper := rAt Tryd.prog 67 [1, 1, 1, 1, 0]
set_option maxRecDepth 100000 in
theorem text_c (bw : Nat) (v : Value) (l : List Nat) (s : Value) (bs : List Nat) (w : World) (hW : WrAt 5 118 w bw v l) (hl : l.length ≤ 1000000) (hbs : bs.length ≤ 1000000) (hS : SlV w s bs.length (B bs)) (hD : Dis (SlF s (B bs)) (wrS bw v)) :
    Calls Tryd.prog 67 #[(.pointer (some ⟨bw, 0, none⟩)), s] w fun e w' => e = .returned (.bool (decide (bs.length ≤ 255))) ∧ ∃ v', WrAt 5 118 w' bw v' (l ++ textW bs) ∧ Fr w w' (wrS bw v) ∧ New w (wrS bw v) (wrS bw v') := by
  obtain ⟨ao, cap, rfl, hR⟩ := hS
  refine c_enter (mk 22 [(0, (.pointer (some ⟨bw, 0, none⟩))), (1, (.slice ao bs.length cap))] (fun _ => undef)) Tryd.func67 (by kernel_rfl) (by kernel_rfl) ?_
  refine c_seq [0] [1] (by kernel_rfl) ?_
  refine c_reg 0 text_c_R0 (by kernel_rfl) ?_
  refine at_pures 1 (by kernel_rfl) (by kernel_rfl) ?_
  refine at_done (by kernel_rfl) ?_
  refine then_n ?_
  refine c_seq [1, 0] [1, 1] (by kernel_rfl) ?_
  refine c_seq [1, 0, 0] [1, 0, 1] (by kernel_rfl) ?_
  refine c_reg 1 text_c_R1 (by kernel_rfl) ?_
  refine at_pures 3 (by kernel_rfl) (by kernel_rfl) ?_
  refine at_done (by kernel_rfl) ?_
  refine then_n ?_
  refine c_if (.tmp 7) (decide ((bs.length : Int) > (255 : Int))) [1, 0, 1, 0] [1, 0, 1, 1] (by kernel_rfl) (by kernel_rfl) (fun c1_ => ?_) (fun c1_ => ?_)
  · -- yes
    replace c1_ : (bs.length : Int) > (255 : Int) := of_decide_eq_true c1_
    refine c_seq [1, 0, 1, 0, 0] [1, 0, 1, 0, 1] (by kernel_rfl) ?_
    refine c_reg 2 text_c_R2 (by kernel_rfl) ?_
    refine at_pures 1 (by kernel_rfl) (by kernel_rfl) ?_
    refine at_done (by kernel_rfl) ?_
    refine then_n ?_
    refine c_ret (by kernel_rfl) ?_
    refine then_r ?_
    refine fin_ret (.bool false) (by kernel_rfl) (by kernel_rfl) ?_
    exact ⟨by rw [decide_eq_false (by omega)], v, by rw [show textW bs = [] from if_neg (by omega), List.append_nil]; exact hW, (Fr.refl w (wrS bw v)), (New.refl w (wrS bw v))⟩
  · -- no
    replace c1_ : ¬ ((bs.length : Int) > (255 : Int)) := of_decide_eq_false c1_
    refine c_skip (by kernel_rfl) ?_
    refine then_n ?_
    refine c_seq [1, 1, 0] [1, 1, 1] (by kernel_rfl) ?_
    refine c_reg 3 text_c_R3 (by kernel_rfl) ?_
    refine at_pures 3 (by kernel_rfl) (by kernel_rfl) ?_
    refine at_int (kd := .u8) (IntKind.u8.wrap ((bs.length : Int))) ((bs.length : Int)) (by kernel_rfl) (by kernel_rfl) (wrapN_u8 (by omega) (by omega)) ?_
    refine at_do (by kernel_rfl) (op_call 79 #[(.tmp 8), (.tmp 11)] #[(.pointer (some ⟨bw, 0, none⟩)), (.int .u8 (bs.length : Int))] (by kernel_rfl) (by kernel_rfl) (by kernel_rfl) ?_)
    have C8_ := byte_c bw v l bs.length w hW (by omega) (by omega)
    refine Calls.mono C8_ ?_
    rintro e7_ w5_ ⟨rfl, v2_, h3_, F6_, N4_⟩
    refine ⟨_, rfl, ?_⟩
    have T9_ := Fr.then (Fr.refl w (wrS bw v)) F6_ (New.refl w (wrS bw v))
    have d10_ : Dis (wrS bw v2_) (Ar ao (B bs)) := Dis.step (Dis.sym hD) N4_ (Rd.in hR)
    have h11_ := Rd.keep' hR F6_ hD
    have N12_ : New w (wrS bw v) (wrS bw v2_) := New.trans (New.refl w (wrS bw v)) N4_ (Fr.size (Fr.refl w (wrS bw v)))
    refine at_done (by kernel_rfl) ?_
    refine then_n ?_
    refine c_seq [1, 1, 1, 0] [1, 1, 1, 1] (by kernel_rfl) ?_
    refine c_reg 4 text_c_R4 (by kernel_rfl) ?_
    refine at_pures 4 (by kernel_rfl) (by kernel_rfl) ?_
    have h13_ := WrAt.blk h3_; have h14_ := WrAt.row h3_; have d15_ := WrAt.dis h3_
    refine at_load1 64 (.tmp 16) bw 0 _ _ _ v2_ (by kernel_rfl) (by kernel_rfl) (by kernel_rfl) (by kernel_rfl) h13_ (by kernel_rfl) ?_
    refine at_pures 6 (by kernel_rfl) (by kernel_rfl) ?_
    refine at_do (by kernel_rfl) (op_append (.tmp 17) (.tmp 18) 64 64 5 1 1 (.int .u8 0) (by kernel_rfl) (by kernel_rfl) (by rfl) (v := v2_) (by kernel_rfl) h14_ (xv := (.slice ao bs.length cap)) (m := bs.length) (news := B bs) (by kernel_rfl) (Rd.src (size := 1) (e := 5) (by kernel_rfl) h11_ (by simp [B_length]) (by decide) B_one) (by simp only [maxLen, List.length_append, putB_length]; omega) (by simp only [List.length_append, putB_length]; omega) (fun v16_ w17_ h18_ F19_ s20_ => ?_))
    have T21_ := Fr.then T9_ F19_ (New.right N12_)
    have d22_ : Dis (Own v16_) (Ar ao (B bs)) := Dis.step (Dis.right d10_) s20_ (Rd.in h11_)
    have h23_ := Rd.keep' h11_ F19_ (Dis.sym (Dis.right d10_))
    have d24_ : Dis (Own v16_) (One bw) := Dis.step d15_ s20_ (In.one h13_)
    have h25_ := Fr.keep F19_ h13_ (Dis.sym d15_)
    have N26_ : New w (wrS bw v) (Own v16_) := New.trans (New.right N12_) s20_ (Fr.size T9_)
    refine at_pures 9 (by kernel_rfl) (by kernel_rfl) ?_
    refine at_do (by kernel_rfl) (op_store1 64 (.tmp 21) (.tmp 19) bw 0 v16_ _ _ #[v16_] (by kernel_rfl) (by kernel_rfl) (by kernel_rfl) (Row.cells h18_).1 (Row.cells h18_).2 h25_ (by kernel_rfl) (by kernel_rfl) (by kernel_rfl) (fun w27_ h28_ z29_ F30_ => ?_))
    have T31_ := Fr.then T21_ F30_ (New.left N12_)
    have h32_ := Rd.keep' h23_ F30_ (Dis.sym (Dis.left d10_))
    have h33_ := Row.keep h18_ F30_ d24_
    refine at_done (by kernel_rfl) ?_
    refine then_n ?_
    refine c_seq [1, 1, 1, 1, 0] [1, 1, 1, 1, 1] (by kernel_rfl) ?_
    refine c_reg 5 text_c_R5 (by kernel_rfl) ?_
    refine at_pures 1 (by kernel_rfl) (by kernel_rfl) ?_
    refine at_done (by kernel_rfl) ?_
    refine then_n ?_
    refine c_ret (by kernel_rfl) ?_
    refine fin_ret (.bool true) (by kernel_rfl) (by kernel_rfl) ?_
    have h34_ : WrAt 5 118 w27_ bw v16_ (l ++ textW bs) := ⟨h28_, (by rw [show textW bs = putB bs.length 1 1 ++ bs from if_pos (by omega), ← List.append_assoc, List.length_append, B_append]; exact h33_), d24_⟩
    exact ⟨by rw [decide_eq_true (by omega)], v16_, h34_, T31_, (New.two (New.left N12_) N26_)⟩

noncomputable def clone_c_R0 : Array Oper := rAt Tryd.prog 81 [0]
noncomputable def clone_c_R1 : Array Oper := rAt Tryd.prog 81 [1, 0, 0]
noncomputable def clone_c_R2 : Array Oper := rAt Tryd.prog 81 [1, 0, 1, 0, 0]
noncomputable def clone_c_R3 : Array Oper := rAt Tryd.prog 81 [1, 1, 0]
set_option maxRecDepth 100000 in
theorem clone_c (s : Value) (l : List Nat) (w : World) (hl : l.length ≤ 2000000) (hS : SlV w s l.length (B l)) :
    Calls Tryd.prog 81 #[s] w fun e w' => ∃ v, e = .returned v ∧ Row w' 5 1 v l.length (B l) ∧ Fr w w' N0 ∧ New w N0 (Own v) := by
  obtain ⟨ao, cap, rfl, hR⟩ := hS; rcases ao with _ | ad
  · -- a case
    refine c_enter (mk 8 [(0, (.slice none l.length cap))] (fun _ => undef)) Tryd.func81 (by kernel_rfl) (by kernel_rfl) ?_
    refine c_seq [0] [1] (by kernel_rfl) ?_
    refine c_reg 0 clone_c_R0 (by kernel_rfl) ?_
    refine at_pures 1 (by kernel_rfl) (by kernel_rfl) ?_
    refine at_done (by kernel_rfl) ?_
    refine then_n ?_
    refine c_seq [1, 0] [1, 1] (by kernel_rfl) ?_
    refine c_seq [1, 0, 0] [1, 0, 1] (by kernel_rfl) ?_
    refine c_reg 1 clone_c_R1 (by kernel_rfl) ?_
    refine at_pures 2 (by kernel_rfl) (by kernel_rfl) ?_
    refine at_done (by kernel_rfl) ?_
    refine then_n ?_
    refine c_then (.tmp 4) [1, 0, 1, 0] [1, 0, 1, 1] (by kernel_rfl) (by kernel_rfl) ?_
    refine c_seq [1, 0, 1, 0, 0] [1, 0, 1, 0, 1] (by kernel_rfl) ?_
    refine c_reg 2 clone_c_R2 (by kernel_rfl) ?_
    refine at_pures 1 (by kernel_rfl) (by kernel_rfl) ?_
    refine at_done (by kernel_rfl) ?_
    refine then_n ?_
    refine c_ret (by kernel_rfl) ?_
    refine then_r ?_
    refine fin_ret (.slice none 0 0) (by kernel_rfl) (by kernel_rfl) ?_
    have hl0 : l = [] := by cases l with | nil => rfl | cons x r => (obtain ⟨_, he, _⟩ := hR 0 _ rfl; cases he)
    subst hl0
    exact ⟨_, rfl, Row.nil _ _ _, (Fr.refl w N0), by rw [Own_nil]; exact fun _ h => .inl h⟩
  · -- a case
    refine c_enter (mk 8 [(0, (.slice (some ad) l.length cap))] (fun _ => undef)) Tryd.func81 (by kernel_rfl) (by kernel_rfl) ?_
    refine c_seq [0] [1] (by kernel_rfl) ?_
    refine c_reg 0 clone_c_R0 (by kernel_rfl) ?_
    refine at_pures 1 (by kernel_rfl) (by kernel_rfl) ?_
    refine at_done (by kernel_rfl) ?_
    refine then_n ?_
    refine c_seq [1, 0] [1, 1] (by kernel_rfl) ?_
    refine c_seq [1, 0, 0] [1, 0, 1] (by kernel_rfl) ?_
    refine c_reg 1 clone_c_R1 (by kernel_rfl) ?_
    refine at_pures 2 (by kernel_rfl) (by kernel_rfl) ?_
    refine at_done (by kernel_rfl) ?_
    refine then_n ?_
    refine c_else (.tmp 4) [1, 0, 1, 0] [1, 0, 1, 1] (by kernel_rfl) (by kernel_rfl) ?_
    refine c_skip (by kernel_rfl) ?_
    refine then_n ?_
    refine c_seq [1, 1, 0] [1, 1, 1] (by kernel_rfl) ?_
    refine c_reg 3 clone_c_R3 (by kernel_rfl) ?_
    refine at_do (by kernel_rfl) (op_new (.cells #[] 5) (fun N => (.slice (some ⟨N, 0, none⟩) 0 0)) (fun _ => by kernel_rfl) (fun w2_ b1_ h3_ q4_ F5_ => ?_))
    have d6_ : Dis (One b1_) (Ar (some ad) (B l)) := Dis.fresh (New.one q4_) (Rd.in hR)
    have N7_ : New w N0 (One b1_) := New.made q4_ (Fr.size (Fr.refl w N0))
    have T8_ := Fr.tr (Fr.refl w N0) F5_
    refine at_pures 2 (by kernel_rfl) (by kernel_rfl) ?_
    have h9_ := Rd.keep' hR F5_ Dis.n0
    have h10_ : Row w2_ 5 1 (.slice (some ⟨b1_, 0, none⟩) 0 0) 0 [] := Row.made' h3_ (by rfl) (by decide) (by decide) (by rfl)
    refine at_do (by kernel_rfl) (op_append (.tmp 5) (.tmp 6) 64 64 5 1 1 (.int .u8 0) (by kernel_rfl) (by kernel_rfl) (by rfl) (v := (.slice (some ⟨b1_, 0, none⟩) 0 0)) (by kernel_rfl) h10_ (xv := (.slice (some ad) l.length cap)) (m := l.length) (news := B l) (by kernel_rfl) (Rd.src (size := 1) (e := 5) (by kernel_rfl) h9_ (by simp [B_length]) (by decide) B_one) (by simp only [maxLen]; omega) (by omega) (fun v11_ w12_ h13_ F14_ s15_ => ?_))
    have T16_ := Fr.then T8_ F14_ (New.own N7_)
    have d17_ : Dis (Own v11_) (Ar (some ad) (B l)) := Dis.step (Dis.own d6_) s15_ (Rd.in h9_)
    have h18_ := Rd.keep' h9_ F14_ (Dis.sym (Dis.own d6_))
    have N19_ : New w N0 (Own v11_) := New.trans (New.own N7_) s15_ (Fr.size T8_)
    refine at_pures 4 (by kernel_rfl) (by kernel_rfl) ?_
    refine at_done (by kernel_rfl) ?_
    refine then_n ?_
    refine c_ret (by kernel_rfl) ?_
    refine fin_ret v11_ (by kernel_rfl) (by kernel_rfl) ?_
    exact ⟨_, rfl, by simpa using h13_, T16_, N19_⟩

noncomputable def bytes_c_R0 : Array Oper := rAt Tryd.prog 70 [0]
noncomputable def bytes_c_R1 : Array Oper := rAt Tryd.prog 70 [1, 0]
set_option maxRecDepth 100000 in
theorem bytes_c (bw : Nat) (v : Value) (l : List Nat) (w : World) (hW : WrAt 5 118 w bw v l) (hl : l.length ≤ 2000000) :
    Calls Tryd.prog 70 #[(.pointer (some ⟨bw, 0, none⟩))] w fun e w' => ∃ v', e = .returned v' ∧ Row w' 5 1 v' l.length (B l) ∧ Fr w w' N0 ∧ New w N0 (Own v') := by
  refine c_enter (mk 8 [(0, (.pointer (some ⟨bw, 0, none⟩)))] (fun _ => undef)) Tryd.func70 (by kernel_rfl) (by kernel_rfl) ?_
  refine c_seq [0] [1] (by kernel_rfl) ?_
  refine c_reg 0 bytes_c_R0 (by kernel_rfl) ?_
  refine at_pures 1 (by kernel_rfl) (by kernel_rfl) ?_
  refine at_done (by kernel_rfl) ?_
  refine then_n ?_
  refine c_seq [1, 0] [1, 1] (by kernel_rfl) ?_
  refine c_reg 1 bytes_c_R1 (by kernel_rfl) ?_
  refine at_pures 3 (by kernel_rfl) (by kernel_rfl) ?_
  have h1_ := WrAt.blk hW; have h2_ := WrAt.row hW; have d3_ := WrAt.dis hW
  refine at_load1 64 (.tmp 5) bw 0 _ _ _ v (by kernel_rfl) (by kernel_rfl) (by kernel_rfl) (by kernel_rfl) h1_ (by kernel_rfl) ?_
  refine at_do (by kernel_rfl) (op_call 81 #[(.tmp 6)] #[v] (by kernel_rfl) (by kernel_rfl) (by kernel_rfl) ?_)
  have C10_ := clone_c v l w (by omega) (Row.sl h2_)
  refine Calls.mono C10_ ?_
  rintro e9_ w7_ ⟨v4_, rfl, h5_, F8_, N6_⟩
  refine ⟨_, rfl, ?_⟩
  have d11_ : Dis (Own v4_) (One bw) := Dis.fresh N6_ (In.one h1_)
  have d12_ : Dis (Own v4_) (Own v) := Dis.fresh N6_ (Row.in h2_)
  have N13_ : New w N0 (Own v4_) := New.later' N6_ (Fr.size (Fr.refl w N0))
  have T14_ := Fr.tr (Fr.refl w N0) F8_
  obtain ⟨ao15_, cap16_, rfl, hc17_, hm18_, hR19_, ho20_⟩ := Row.read h5_
  refine at_pures 6 (by kernel_rfl) (by kernel_rfl) ?_
  refine at_done (by kernel_rfl) ?_
  refine then_n ?_
  refine c_ret (by kernel_rfl) ?_
  refine fin_ret (.slice ao15_ l.length cap16_) (by kernel_rfl) (by kernel_rfl) ?_
  have h21_ := Fr.keep F8_ h1_ Dis.n0
  have h22_ := Row.keep h2_ F8_ Dis.n0
  exact ⟨_, rfl, h5_, T14_, N13_⟩
end Go.Proofs.YtokdfjelilhekaaDoor
