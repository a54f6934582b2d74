/- Layer 15's laws. -/
import Derived.Test.YtokdfjelilhekaaDoorL15s
import Derived.Test.YtokdfjelilhekaaDoorLib7
namespace Go.Proofs.YtokdfjelilhekaaDoor
open Go Go.RowKit Go.Alm
set_option maxRecDepth 100000 in
theorem treeLeads_j (ao : Option Addr) (cap : Nat) (l : List AAct) (hl : AllA l) (hn : l.length ≤ 9223372036854775807) :
    Does Tryd.prog 4 #[(.slice ao l.length cap)] [(.rd ao (RL AAct.cells l)), (.rd (some ⟨1, 0, none⟩) ((hw KL).toList))] [] (fun v H => v = (.bool true) ∧ H = []) := by
  refine m_fn fun F => ?_
  refine m_call 8 [] (awake15_j) (.cons 2 (.refl) .nil) ?_
  rintro _ _ ⟨rfl, rfl⟩
  refine m_call 10 [] (large_j ao cap l (by first | with_reducible assumption | omega | decide) (by first | with_reducible assumption | omega | decide)) (.cons 1 (.refl) .nil) ?_
  rintro _ _ ⟨y1, rfl, rfl, p2⟩
  refine m_ifb 2 (y1) (fun c3 => ?_) (fun c3 => ?_)
  · -- yes
    exact m_ret 7 (.bool true) [] ⟨(rfl), by kernel_rfl⟩
  · -- no
    refine m_call 4 [] (tnew_j) (.cons 2 (.refl) .nil) ?_
    rintro _ _ ⟨tb4, mb5, rfl, rfl⟩
    refine m_loop (X := Nat × TM) 12 [3, 20, 21] (fun (x : Nat × TM) => [(22, (.int .i64 ((x.1 : Nat) : Int)))]) [1] (fun (x : Nat × TM) => [(.gen (mapRe intK (fun _ => True) accV mb5 x.2))]) (fun (x : Nat × TM) => (x.1 ≤ l.length) ∧ (TrOk x.2)) (fun (x : Nat × TM) => l.length - x.1) (0, []) (⟨Nat.zero_le _, TrOk.nil⟩) (fun x u6 hx => ?_)
    obtain ⟨i, m⟩ := x; dsimp only at hx
    obtain ⟨hi, hm⟩ := hx
    refine m_if 6 (((i : Nat) : Int) < ((l.length : Nat) : Int)) (fun c7 => ?_) (fun c7 => ?_)
    · -- yes
      refine m_ix 6 1 5 l.length i (RL AAct.cells l) .i64 (by omega) (by rw [RL_length AAct.size]; omega) ?_
      refine m_lxN 0 1 (i * 5) 5 (RL AAct.cells l) ((l.getD i default).cells) (RL_whole (f := AAct.cells) (sz := 5) (l := l) (k := i) AAct.size default (by omega)) (AAct.size _) ?_
      refine m_new 0 fun b8 => ?_
      refine m_st 0 0 ?_
      refine m_ld 4 3 ?_
      refine m_call 0 [1] (do15_j tb4 mb5 m (l.getD i default) (AllA.get hl (by omega))) (.cons 4 (.refl) .nil) ?_
      rintro _ _ ⟨rfl, rfl⟩
      refine m_i64 4 (((i : Nat) : Int) + (1 : Int)) (i + 1) (by omega) ?_
      exact m_back 2 (i + 1, actM m (l.getD i default)) [0, 1] ⟨⟨(by omega), actM_ok hm (hl.get (by omega))⟩, (by omega)⟩
    · -- no
      refine m_call 8 [] (root_j tb4 mb5 m (by first | with_reducible assumption | omega | decide)) (.cons 4 (.refl) (.cons 3 (.refl) (.cons 2 (.refl) .nil))) ?_
      rintro _ _ ⟨rfl, rfl⟩
      refine m_new 0 fun b9 => ?_
      refine m_st 0 0 ?_
      refine m_trim 9 ?_
      refine m_loop (X := Nat) 0 [3, 6] (fun (x : Nat) => [(32, (.int .i64 ((x : Nat) : Int)))]) [] (fun (x : Nat) => []) (fun (x : Nat) => (x ≤ 16)) (fun (x : Nat) => 16 - x) 0 (by omega) (fun x u10 hx => ?_)
      obtain ⟨q, rfl⟩ : ∃ y, y = x := ⟨x, rfl⟩
      have hq := hx
      refine m_if 6 (((q : Nat) : Int) < (16 : Int)) (fun c11 => ?_) (fun c11 => ?_)
      · -- yes
        refine m_call 12 [] (anone_j) (.cons 2 (.refl) .nil) ?_
        rintro _ _ ⟨rfl, rfl⟩
        refine m_new 0 fun b12 => ?_
        refine m_st 0 0 ?_
        refine m_call 7 [] (tget_j tb4 mb5 m ((q : Nat) : Int)) (.cons 6 (.refl) (.cons 5 (.refl) .nil)) ?_
        rintro _ _ ⟨rfl, rfl⟩
        refine m_new 3 fun b13 => ?_
        refine m_st 0 0 ?_
        refine m_ifb 8 (hasAt m ((q : Nat) : Int)) (fun c14 => ?_) (fun c14 => ?_)
        · -- yes
          refine m_ld 1 3 ?_
          refine m_call 0 [] (ahash_j (acctAt m ((q : Nat) : Int)) (acctAt_ok hm _)) (.cons 2 (.refl) .nil) ?_
          rintro _ _ ⟨hv15, rfl⟩
          rw [show ((.tuple #[(.agg (hv (accHa (acctAt m ((q : Nat) : Int))))), (.int .i64 ((accE (acctAt m ((q : Nat) : Int)).s : Nat) : Int))]) : Value) = (.tuple #[(.agg (hv (nodeL (getM m) 0 q))), (.int .i64 0)]) from by rw [nodeL_ref c14, accE_at hm c14]; rfl] at hv15; subst hv15
          refine m_st 3 1 ?_
          refine m_call 6 [] (path_j tb4 mb5 m ((q : Nat) : Int) (by first | with_reducible assumption | omega | decide)) (.cons 7 (.refl) (.cons 6 (.refl) (.cons 2 (.refl) .nil))) ?_
          rintro _ _ ⟨hv16, rfl⟩
          rw [show ((.tuple #[(.agg ((pathP (getM m) ((q : Nat) : Int)).cells)), (.int .i64 ((pathE ((q : Nat) : Int) : Nat) : Int))]) : Value) = (.tuple #[(.agg ((aj (aj (aj (hv (pathL (getM m) q 0)) (hv (pathL (getM m) q 1))) (hv (pathL (getM m) q 2))) (hv (pathL (getM m) q 3))))), (.int .i64 0)]) from by rw [pathP_yes (q := q) rfl (by omega), pathE_yes (placeOk_nat (by omega))]; rfl] at hv16; subst hv16
          refine m_new 3 fun b17 => ?_
          refine m_st 0 0 ?_
          refine m_ld 16 3 ?_
          refine m_new 20 fun b18 => ?_
          refine m_st 1 0 ?_
          refine m_shr 6 .i64 (q) 0 ?_
          refine m_i 0 .i64 (IntKind.i64.wrap (((BitVec.ofInt 64 ((q / 1 : Nat) : Int) &&& BitVec.ofInt 64 (1 : Int)).toNat : Nat) : Int)) (((q / 1) % 2 : Nat) : Int) (and1 (by omega)) ?_
          refine m_if 3 ((((q / 1) % 2 : Nat) : Int) = (0 : Int)) (fun c19 => ?_) (fun c19 => ?_)
          · -- yes
            refine m_ld 3 6 ?_
            refine m_ld 0 3 ?_
            refine m_call 0 [] (join_j 1 (nodeL (getM m) 0 q) (pathL (getM m) q 0) (by first | with_reducible assumption | omega | decide) (nodeL_ok _ _ _) (pathL_ok _ _ _)) (.cons 2 (.refl) .nil) ?_
            rintro _ _ ⟨hv20, rfl⟩
            rw [show ((.agg (hv (joinL 1 (nodeL (getM m) 0 q) (pathL (getM m) q 0)))) : Value) = (.agg (hv (nodeL (getM m) 1 (q / 2)))) from by exact congrArg (fun l => Value.agg (hv l)) (join_l (g := getM m) (q := q) (h := 0) (n := q) (n2 := q / 2) rfl (by simp) (by omega) (by omega))] at hv20; subst hv20
            refine m_st 0 3 ?_
            refine m_new 23 fun b21 => ?_
            refine m_st 1 0 ?_
            refine m_shr 6 .i64 (q) 1 ?_
            refine m_i 0 .i64 (IntKind.i64.wrap (((BitVec.ofInt 64 ((q / 2 : Nat) : Int) &&& BitVec.ofInt 64 (1 : Int)).toNat : Nat) : Int)) (((q / 2) % 2 : Nat) : Int) (and1 (by omega)) ?_
            refine m_if 3 ((((q / 2) % 2 : Nat) : Int) = (0 : Int)) (fun c22 => ?_) (fun c22 => ?_)
            · -- yes
              refine m_ld 3 7 ?_
              refine m_ld 0 3 ?_
              refine m_call 0 [] (join_j 2 (nodeL (getM m) 1 (q / 2)) (pathL (getM m) q 1) (by first | with_reducible assumption | omega | decide) (nodeL_ok _ _ _) (pathL_ok _ _ _)) (.cons 2 (.refl) .nil) ?_
              rintro _ _ ⟨hv23, rfl⟩
              rw [show ((.agg (hv (joinL 2 (nodeL (getM m) 1 (q / 2)) (pathL (getM m) q 1)))) : Value) = (.agg (hv (nodeL (getM m) 2 (q / 4)))) from by exact congrArg (fun l => Value.agg (hv l)) (join_l (g := getM m) (q := q) (h := 1) (n := q / 2) (n2 := q / 4) rfl rfl (by omega) (by omega))] at hv23; subst hv23
              refine m_st 0 4 ?_
              refine m_new 23 fun b24 => ?_
              refine m_st 1 0 ?_
              refine m_shr 6 .i64 (q) 2 ?_
              refine m_i 0 .i64 (IntKind.i64.wrap (((BitVec.ofInt 64 ((q / 4 : Nat) : Int) &&& BitVec.ofInt 64 (1 : Int)).toNat : Nat) : Int)) (((q / 4) % 2 : Nat) : Int) (and1 (by omega)) ?_
              refine m_if 3 ((((q / 4) % 2 : Nat) : Int) = (0 : Int)) (fun c25 => ?_) (fun c25 => ?_)
              · -- yes
                refine m_ld 3 8 ?_
                refine m_ld 0 3 ?_
                refine m_call 0 [] (join_j 3 (nodeL (getM m) 2 (q / 4)) (pathL (getM m) q 2) (by first | with_reducible assumption | omega | decide) (nodeL_ok _ _ _) (pathL_ok _ _ _)) (.cons 2 (.refl) .nil) ?_
                rintro _ _ ⟨hv26, rfl⟩
                rw [show ((.agg (hv (joinL 3 (nodeL (getM m) 2 (q / 4)) (pathL (getM m) q 2)))) : Value) = (.agg (hv (nodeL (getM m) 3 (q / 8)))) from by exact congrArg (fun l => Value.agg (hv l)) (join_l (g := getM m) (q := q) (h := 2) (n := q / 4) (n2 := q / 8) rfl rfl (by omega) (by omega))] at hv26; subst hv26
                refine m_st 0 5 ?_
                refine m_new 23 fun b27 => ?_
                refine m_st 1 0 ?_
                refine m_shr 6 .i64 (q) 3 ?_
                refine m_i 0 .i64 (IntKind.i64.wrap (((BitVec.ofInt 64 ((q / 8 : Nat) : Int) &&& BitVec.ofInt 64 (1 : Int)).toNat : Nat) : Int)) (((q / 8) % 2 : Nat) : Int) (and1 (by omega)) ?_
                refine m_if 3 ((((q / 8) % 2 : Nat) : Int) = (0 : Int)) (fun c28 => ?_) (fun c28 => ?_)
                · -- yes
                  refine m_ld 3 9 ?_
                  refine m_ld 0 3 ?_
                  refine m_call 0 [] (join_j 4 (nodeL (getM m) 3 (q / 8)) (pathL (getM m) q 3) (by first | with_reducible assumption | omega | decide) (nodeL_ok _ _ _) (pathL_ok _ _ _)) (.cons 2 (.refl) .nil) ?_
                  rintro _ _ ⟨hv29, rfl⟩
                  rw [show ((.agg (hv (joinL 4 (nodeL (getM m) 3 (q / 8)) (pathL (getM m) q 3)))) : Value) = (.agg (hv (nodeL (getM m) 4 (q / 16)))) from by exact congrArg (fun l => Value.agg (hv l)) (join_l (g := getM m) (q := q) (h := 3) (n := q / 8) (n2 := q / 16) rfl rfl (by omega) (by omega))] at hv29; subst hv29
                  refine m_st 0 6 ?_
                  refine m_ld 22 9 ?_
                  refine m_ld 0 10 ?_
                  refine m_eqs 0 false (hv (nodeL (getM m) 4 (q / 16))) (hv (nodeL (getM m) 4 0)) (nodeL (getM m) 4 (q / 16) = nodeL (getM m) 4 0) (hv_iff (nodeL_ok _ _ _).len (nodeL_ok _ _ _).len) (H32.wf (nodeL_ok _ _ _)) (H32.wf (nodeL_ok _ _ _)) (fun _ => ?_) (fun c30 => absurd (by rw [show q / 16 = 0 from by omega]) c30)
                  refine m_i64 7 (((q : Nat) : Int) + (1 : Int)) (q + 1) (by omega) ?_
                  exact m_back 2 (q + 1) [7, 7, 7] ⟨(by omega), (by omega)⟩
                · -- no
                  refine m_ld 3 3 ?_
                  refine m_ld 0 9 ?_
                  refine m_call 0 [] (join_j 4 (pathL (getM m) q 3) (nodeL (getM m) 3 (q / 8)) (by first | with_reducible assumption | omega | decide) (pathL_ok _ _ _) (nodeL_ok _ _ _)) (.cons 2 (.refl) .nil) ?_
                  rintro _ _ ⟨hv31, rfl⟩
                  rw [show ((.agg (hv (joinL 4 (pathL (getM m) q 3) (nodeL (getM m) 3 (q / 8))))) : Value) = (.agg (hv (nodeL (getM m) 4 (q / 16)))) from by exact congrArg (fun l => Value.agg (hv l)) (join_r (g := getM m) (q := q) (h := 3) (n := q / 8) (n2 := q / 16) rfl rfl (by omega) (by omega))] at hv31; subst hv31
                  refine m_st 0 6 ?_
                  refine m_ld 22 9 ?_
                  refine m_ld 0 10 ?_
                  refine m_eqs 0 false (hv (nodeL (getM m) 4 (q / 16))) (hv (nodeL (getM m) 4 0)) (nodeL (getM m) 4 (q / 16) = nodeL (getM m) 4 0) (hv_iff (nodeL_ok _ _ _).len (nodeL_ok _ _ _).len) (H32.wf (nodeL_ok _ _ _)) (H32.wf (nodeL_ok _ _ _)) (fun _ => ?_) (fun c32 => absurd (by rw [show q / 16 = 0 from by omega]) c32)
                  refine m_i64 7 (((q : Nat) : Int) + (1 : Int)) (q + 1) (by omega) ?_
                  exact m_back 2 (q + 1) [7, 7, 7] ⟨(by omega), (by omega)⟩
              · -- no
                refine m_ld 3 3 ?_
                refine m_ld 0 8 ?_
                refine m_call 0 [] (join_j 3 (pathL (getM m) q 2) (nodeL (getM m) 2 (q / 4)) (by first | with_reducible assumption | omega | decide) (pathL_ok _ _ _) (nodeL_ok _ _ _)) (.cons 2 (.refl) .nil) ?_
                rintro _ _ ⟨hv33, rfl⟩
                rw [show ((.agg (hv (joinL 3 (pathL (getM m) q 2) (nodeL (getM m) 2 (q / 4))))) : Value) = (.agg (hv (nodeL (getM m) 3 (q / 8)))) from by exact congrArg (fun l => Value.agg (hv l)) (join_r (g := getM m) (q := q) (h := 2) (n := q / 4) (n2 := q / 8) rfl rfl (by omega) (by omega))] at hv33; subst hv33
                refine m_st 0 5 ?_
                refine m_new 23 fun b34 => ?_
                refine m_st 1 0 ?_
                refine m_shr 6 .i64 (q) 3 ?_
                refine m_i 0 .i64 (IntKind.i64.wrap (((BitVec.ofInt 64 ((q / 8 : Nat) : Int) &&& BitVec.ofInt 64 (1 : Int)).toNat : Nat) : Int)) (((q / 8) % 2 : Nat) : Int) (and1 (by omega)) ?_
                refine m_if 3 ((((q / 8) % 2 : Nat) : Int) = (0 : Int)) (fun c35 => ?_) (fun c35 => ?_)
                · -- yes
                  refine m_ld 3 9 ?_
                  refine m_ld 0 3 ?_
                  refine m_call 0 [] (join_j 4 (nodeL (getM m) 3 (q / 8)) (pathL (getM m) q 3) (by first | with_reducible assumption | omega | decide) (nodeL_ok _ _ _) (pathL_ok _ _ _)) (.cons 2 (.refl) .nil) ?_
                  rintro _ _ ⟨hv36, rfl⟩
                  rw [show ((.agg (hv (joinL 4 (nodeL (getM m) 3 (q / 8)) (pathL (getM m) q 3)))) : Value) = (.agg (hv (nodeL (getM m) 4 (q / 16)))) from by exact congrArg (fun l => Value.agg (hv l)) (join_l (g := getM m) (q := q) (h := 3) (n := q / 8) (n2 := q / 16) rfl rfl (by omega) (by omega))] at hv36; subst hv36
                  refine m_st 0 6 ?_
                  refine m_ld 22 9 ?_
                  refine m_ld 0 10 ?_
                  refine m_eqs 0 false (hv (nodeL (getM m) 4 (q / 16))) (hv (nodeL (getM m) 4 0)) (nodeL (getM m) 4 (q / 16) = nodeL (getM m) 4 0) (hv_iff (nodeL_ok _ _ _).len (nodeL_ok _ _ _).len) (H32.wf (nodeL_ok _ _ _)) (H32.wf (nodeL_ok _ _ _)) (fun _ => ?_) (fun c37 => absurd (by rw [show q / 16 = 0 from by omega]) c37)
                  refine m_i64 7 (((q : Nat) : Int) + (1 : Int)) (q + 1) (by omega) ?_
                  exact m_back 2 (q + 1) [7, 7, 7] ⟨(by omega), (by omega)⟩
                · -- no
                  refine m_ld 3 3 ?_
                  refine m_ld 0 9 ?_
                  refine m_call 0 [] (join_j 4 (pathL (getM m) q 3) (nodeL (getM m) 3 (q / 8)) (by first | with_reducible assumption | omega | decide) (pathL_ok _ _ _) (nodeL_ok _ _ _)) (.cons 2 (.refl) .nil) ?_
                  rintro _ _ ⟨hv38, rfl⟩
                  rw [show ((.agg (hv (joinL 4 (pathL (getM m) q 3) (nodeL (getM m) 3 (q / 8))))) : Value) = (.agg (hv (nodeL (getM m) 4 (q / 16)))) from by exact congrArg (fun l => Value.agg (hv l)) (join_r (g := getM m) (q := q) (h := 3) (n := q / 8) (n2 := q / 16) rfl rfl (by omega) (by omega))] at hv38; subst hv38
                  refine m_st 0 6 ?_
                  refine m_ld 22 9 ?_
                  refine m_ld 0 10 ?_
                  refine m_eqs 0 false (hv (nodeL (getM m) 4 (q / 16))) (hv (nodeL (getM m) 4 0)) (nodeL (getM m) 4 (q / 16) = nodeL (getM m) 4 0) (hv_iff (nodeL_ok _ _ _).len (nodeL_ok _ _ _).len) (H32.wf (nodeL_ok _ _ _)) (H32.wf (nodeL_ok _ _ _)) (fun _ => ?_) (fun c39 => absurd (by rw [show q / 16 = 0 from by omega]) c39)
                  refine m_i64 7 (((q : Nat) : Int) + (1 : Int)) (q + 1) (by omega) ?_
                  exact m_back 2 (q + 1) [7, 7, 7] ⟨(by omega), (by omega)⟩
            · -- no
              refine m_ld 3 3 ?_
              refine m_ld 0 7 ?_
              refine m_call 0 [] (join_j 2 (pathL (getM m) q 1) (nodeL (getM m) 1 (q / 2)) (by first | with_reducible assumption | omega | decide) (pathL_ok _ _ _) (nodeL_ok _ _ _)) (.cons 2 (.refl) .nil) ?_
              rintro _ _ ⟨hv40, rfl⟩
              rw [show ((.agg (hv (joinL 2 (pathL (getM m) q 1) (nodeL (getM m) 1 (q / 2))))) : Value) = (.agg (hv (nodeL (getM m) 2 (q / 4)))) from by exact congrArg (fun l => Value.agg (hv l)) (join_r (g := getM m) (q := q) (h := 1) (n := q / 2) (n2 := q / 4) rfl rfl (by omega) (by omega))] at hv40; subst hv40
              refine m_st 0 4 ?_
              refine m_new 23 fun b41 => ?_
              refine m_st 1 0 ?_
              refine m_shr 6 .i64 (q) 2 ?_
              refine m_i 0 .i64 (IntKind.i64.wrap (((BitVec.ofInt 64 ((q / 4 : Nat) : Int) &&& BitVec.ofInt 64 (1 : Int)).toNat : Nat) : Int)) (((q / 4) % 2 : Nat) : Int) (and1 (by omega)) ?_
              refine m_if 3 ((((q / 4) % 2 : Nat) : Int) = (0 : Int)) (fun c42 => ?_) (fun c42 => ?_)
              · -- yes
                refine m_ld 3 8 ?_
                refine m_ld 0 3 ?_
                refine m_call 0 [] (join_j 3 (nodeL (getM m) 2 (q / 4)) (pathL (getM m) q 2) (by first | with_reducible assumption | omega | decide) (nodeL_ok _ _ _) (pathL_ok _ _ _)) (.cons 2 (.refl) .nil) ?_
                rintro _ _ ⟨hv43, rfl⟩
                rw [show ((.agg (hv (joinL 3 (nodeL (getM m) 2 (q / 4)) (pathL (getM m) q 2)))) : Value) = (.agg (hv (nodeL (getM m) 3 (q / 8)))) from by exact congrArg (fun l => Value.agg (hv l)) (join_l (g := getM m) (q := q) (h := 2) (n := q / 4) (n2 := q / 8) rfl rfl (by omega) (by omega))] at hv43; subst hv43
                refine m_st 0 5 ?_
                refine m_new 23 fun b44 => ?_
                refine m_st 1 0 ?_
                refine m_shr 6 .i64 (q) 3 ?_
                refine m_i 0 .i64 (IntKind.i64.wrap (((BitVec.ofInt 64 ((q / 8 : Nat) : Int) &&& BitVec.ofInt 64 (1 : Int)).toNat : Nat) : Int)) (((q / 8) % 2 : Nat) : Int) (and1 (by omega)) ?_
                refine m_if 3 ((((q / 8) % 2 : Nat) : Int) = (0 : Int)) (fun c45 => ?_) (fun c45 => ?_)
                · -- yes
                  refine m_ld 3 9 ?_
                  refine m_ld 0 3 ?_
                  refine m_call 0 [] (join_j 4 (nodeL (getM m) 3 (q / 8)) (pathL (getM m) q 3) (by first | with_reducible assumption | omega | decide) (nodeL_ok _ _ _) (pathL_ok _ _ _)) (.cons 2 (.refl) .nil) ?_
                  rintro _ _ ⟨hv46, rfl⟩
                  rw [show ((.agg (hv (joinL 4 (nodeL (getM m) 3 (q / 8)) (pathL (getM m) q 3)))) : Value) = (.agg (hv (nodeL (getM m) 4 (q / 16)))) from by exact congrArg (fun l => Value.agg (hv l)) (join_l (g := getM m) (q := q) (h := 3) (n := q / 8) (n2 := q / 16) rfl rfl (by omega) (by omega))] at hv46; subst hv46
                  refine m_st 0 6 ?_
                  refine m_ld 22 9 ?_
                  refine m_ld 0 10 ?_
                  refine m_eqs 0 false (hv (nodeL (getM m) 4 (q / 16))) (hv (nodeL (getM m) 4 0)) (nodeL (getM m) 4 (q / 16) = nodeL (getM m) 4 0) (hv_iff (nodeL_ok _ _ _).len (nodeL_ok _ _ _).len) (H32.wf (nodeL_ok _ _ _)) (H32.wf (nodeL_ok _ _ _)) (fun _ => ?_) (fun c47 => absurd (by rw [show q / 16 = 0 from by omega]) c47)
                  refine m_i64 7 (((q : Nat) : Int) + (1 : Int)) (q + 1) (by omega) ?_
                  exact m_back 2 (q + 1) [7, 7, 7] ⟨(by omega), (by omega)⟩
                · -- no
                  refine m_ld 3 3 ?_
                  refine m_ld 0 9 ?_
                  refine m_call 0 [] (join_j 4 (pathL (getM m) q 3) (nodeL (getM m) 3 (q / 8)) (by first | with_reducible assumption | omega | decide) (pathL_ok _ _ _) (nodeL_ok _ _ _)) (.cons 2 (.refl) .nil) ?_
                  rintro _ _ ⟨hv48, rfl⟩
                  rw [show ((.agg (hv (joinL 4 (pathL (getM m) q 3) (nodeL (getM m) 3 (q / 8))))) : Value) = (.agg (hv (nodeL (getM m) 4 (q / 16)))) from by exact congrArg (fun l => Value.agg (hv l)) (join_r (g := getM m) (q := q) (h := 3) (n := q / 8) (n2 := q / 16) rfl rfl (by omega) (by omega))] at hv48; subst hv48
                  refine m_st 0 6 ?_
                  refine m_ld 22 9 ?_
                  refine m_ld 0 10 ?_
                  refine m_eqs 0 false (hv (nodeL (getM m) 4 (q / 16))) (hv (nodeL (getM m) 4 0)) (nodeL (getM m) 4 (q / 16) = nodeL (getM m) 4 0) (hv_iff (nodeL_ok _ _ _).len (nodeL_ok _ _ _).len) (H32.wf (nodeL_ok _ _ _)) (H32.wf (nodeL_ok _ _ _)) (fun _ => ?_) (fun c49 => absurd (by rw [show q / 16 = 0 from by omega]) c49)
                  refine m_i64 7 (((q : Nat) : Int) + (1 : Int)) (q + 1) (by omega) ?_
                  exact m_back 2 (q + 1) [7, 7, 7] ⟨(by omega), (by omega)⟩
              · -- no
                refine m_ld 3 3 ?_
                refine m_ld 0 8 ?_
                refine m_call 0 [] (join_j 3 (pathL (getM m) q 2) (nodeL (getM m) 2 (q / 4)) (by first | with_reducible assumption | omega | decide) (pathL_ok _ _ _) (nodeL_ok _ _ _)) (.cons 2 (.refl) .nil) ?_
                rintro _ _ ⟨hv50, rfl⟩
                rw [show ((.agg (hv (joinL 3 (pathL (getM m) q 2) (nodeL (getM m) 2 (q / 4))))) : Value) = (.agg (hv (nodeL (getM m) 3 (q / 8)))) from by exact congrArg (fun l => Value.agg (hv l)) (join_r (g := getM m) (q := q) (h := 2) (n := q / 4) (n2 := q / 8) rfl rfl (by omega) (by omega))] at hv50; subst hv50
                refine m_st 0 5 ?_
                refine m_new 23 fun b51 => ?_
                refine m_st 1 0 ?_
                refine m_shr 6 .i64 (q) 3 ?_
                refine m_i 0 .i64 (IntKind.i64.wrap (((BitVec.ofInt 64 ((q / 8 : Nat) : Int) &&& BitVec.ofInt 64 (1 : Int)).toNat : Nat) : Int)) (((q / 8) % 2 : Nat) : Int) (and1 (by omega)) ?_
                refine m_if 3 ((((q / 8) % 2 : Nat) : Int) = (0 : Int)) (fun c52 => ?_) (fun c52 => ?_)
                · -- yes
                  refine m_ld 3 9 ?_
                  refine m_ld 0 3 ?_
                  refine m_call 0 [] (join_j 4 (nodeL (getM m) 3 (q / 8)) (pathL (getM m) q 3) (by first | with_reducible assumption | omega | decide) (nodeL_ok _ _ _) (pathL_ok _ _ _)) (.cons 2 (.refl) .nil) ?_
                  rintro _ _ ⟨hv53, rfl⟩
                  rw [show ((.agg (hv (joinL 4 (nodeL (getM m) 3 (q / 8)) (pathL (getM m) q 3)))) : Value) = (.agg (hv (nodeL (getM m) 4 (q / 16)))) from by exact congrArg (fun l => Value.agg (hv l)) (join_l (g := getM m) (q := q) (h := 3) (n := q / 8) (n2 := q / 16) rfl rfl (by omega) (by omega))] at hv53; subst hv53
                  refine m_st 0 6 ?_
                  refine m_ld 22 9 ?_
                  refine m_ld 0 10 ?_
                  refine m_eqs 0 false (hv (nodeL (getM m) 4 (q / 16))) (hv (nodeL (getM m) 4 0)) (nodeL (getM m) 4 (q / 16) = nodeL (getM m) 4 0) (hv_iff (nodeL_ok _ _ _).len (nodeL_ok _ _ _).len) (H32.wf (nodeL_ok _ _ _)) (H32.wf (nodeL_ok _ _ _)) (fun _ => ?_) (fun c54 => absurd (by rw [show q / 16 = 0 from by omega]) c54)
                  refine m_i64 7 (((q : Nat) : Int) + (1 : Int)) (q + 1) (by omega) ?_
                  exact m_back 2 (q + 1) [7, 7, 7] ⟨(by omega), (by omega)⟩
                · -- no
                  refine m_ld 3 3 ?_
                  refine m_ld 0 9 ?_
                  refine m_call 0 [] (join_j 4 (pathL (getM m) q 3) (nodeL (getM m) 3 (q / 8)) (by first | with_reducible assumption | omega | decide) (pathL_ok _ _ _) (nodeL_ok _ _ _)) (.cons 2 (.refl) .nil) ?_
                  rintro _ _ ⟨hv55, rfl⟩
                  rw [show ((.agg (hv (joinL 4 (pathL (getM m) q 3) (nodeL (getM m) 3 (q / 8))))) : Value) = (.agg (hv (nodeL (getM m) 4 (q / 16)))) from by exact congrArg (fun l => Value.agg (hv l)) (join_r (g := getM m) (q := q) (h := 3) (n := q / 8) (n2 := q / 16) rfl rfl (by omega) (by omega))] at hv55; subst hv55
                  refine m_st 0 6 ?_
                  refine m_ld 22 9 ?_
                  refine m_ld 0 10 ?_
                  refine m_eqs 0 false (hv (nodeL (getM m) 4 (q / 16))) (hv (nodeL (getM m) 4 0)) (nodeL (getM m) 4 (q / 16) = nodeL (getM m) 4 0) (hv_iff (nodeL_ok _ _ _).len (nodeL_ok _ _ _).len) (H32.wf (nodeL_ok _ _ _)) (H32.wf (nodeL_ok _ _ _)) (fun _ => ?_) (fun c56 => absurd (by rw [show q / 16 = 0 from by omega]) c56)
                  refine m_i64 7 (((q : Nat) : Int) + (1 : Int)) (q + 1) (by omega) ?_
                  exact m_back 2 (q + 1) [7, 7, 7] ⟨(by omega), (by omega)⟩
          · -- no
            refine m_ld 3 3 ?_
            refine m_ld 0 6 ?_
            refine m_call 0 [] (join_j 1 (pathL (getM m) q 0) (nodeL (getM m) 0 q) (by first | with_reducible assumption | omega | decide) (pathL_ok _ _ _) (nodeL_ok _ _ _)) (.cons 2 (.refl) .nil) ?_
            rintro _ _ ⟨hv57, rfl⟩
            rw [show ((.agg (hv (joinL 1 (pathL (getM m) q 0) (nodeL (getM m) 0 q)))) : Value) = (.agg (hv (nodeL (getM m) 1 (q / 2)))) from by exact congrArg (fun l => Value.agg (hv l)) (join_r (g := getM m) (q := q) (h := 0) (n := q) (n2 := q / 2) rfl (by simp) (by omega) (by omega))] at hv57; subst hv57
            refine m_st 0 3 ?_
            refine m_new 23 fun b58 => ?_
            refine m_st 1 0 ?_
            refine m_shr 6 .i64 (q) 1 ?_
            refine m_i 0 .i64 (IntKind.i64.wrap (((BitVec.ofInt 64 ((q / 2 : Nat) : Int) &&& BitVec.ofInt 64 (1 : Int)).toNat : Nat) : Int)) (((q / 2) % 2 : Nat) : Int) (and1 (by omega)) ?_
            refine m_if 3 ((((q / 2) % 2 : Nat) : Int) = (0 : Int)) (fun c59 => ?_) (fun c59 => ?_)
            · -- yes
              refine m_ld 3 7 ?_
              refine m_ld 0 3 ?_
              refine m_call 0 [] (join_j 2 (nodeL (getM m) 1 (q / 2)) (pathL (getM m) q 1) (by first | with_reducible assumption | omega | decide) (nodeL_ok _ _ _) (pathL_ok _ _ _)) (.cons 2 (.refl) .nil) ?_
              rintro _ _ ⟨hv60, rfl⟩
              rw [show ((.agg (hv (joinL 2 (nodeL (getM m) 1 (q / 2)) (pathL (getM m) q 1)))) : Value) = (.agg (hv (nodeL (getM m) 2 (q / 4)))) from by exact congrArg (fun l => Value.agg (hv l)) (join_l (g := getM m) (q := q) (h := 1) (n := q / 2) (n2 := q / 4) rfl rfl (by omega) (by omega))] at hv60; subst hv60
              refine m_st 0 4 ?_
              refine m_new 23 fun b61 => ?_
              refine m_st 1 0 ?_
              refine m_shr 6 .i64 (q) 2 ?_
              refine m_i 0 .i64 (IntKind.i64.wrap (((BitVec.ofInt 64 ((q / 4 : Nat) : Int) &&& BitVec.ofInt 64 (1 : Int)).toNat : Nat) : Int)) (((q / 4) % 2 : Nat) : Int) (and1 (by omega)) ?_
              refine m_if 3 ((((q / 4) % 2 : Nat) : Int) = (0 : Int)) (fun c62 => ?_) (fun c62 => ?_)
              · -- yes
                refine m_ld 3 8 ?_
                refine m_ld 0 3 ?_
                refine m_call 0 [] (join_j 3 (nodeL (getM m) 2 (q / 4)) (pathL (getM m) q 2) (by first | with_reducible assumption | omega | decide) (nodeL_ok _ _ _) (pathL_ok _ _ _)) (.cons 2 (.refl) .nil) ?_
                rintro _ _ ⟨hv63, rfl⟩
                rw [show ((.agg (hv (joinL 3 (nodeL (getM m) 2 (q / 4)) (pathL (getM m) q 2)))) : Value) = (.agg (hv (nodeL (getM m) 3 (q / 8)))) from by exact congrArg (fun l => Value.agg (hv l)) (join_l (g := getM m) (q := q) (h := 2) (n := q / 4) (n2 := q / 8) rfl rfl (by omega) (by omega))] at hv63; subst hv63
                refine m_st 0 5 ?_
                refine m_new 23 fun b64 => ?_
                refine m_st 1 0 ?_
                refine m_shr 6 .i64 (q) 3 ?_
                refine m_i 0 .i64 (IntKind.i64.wrap (((BitVec.ofInt 64 ((q / 8 : Nat) : Int) &&& BitVec.ofInt 64 (1 : Int)).toNat : Nat) : Int)) (((q / 8) % 2 : Nat) : Int) (and1 (by omega)) ?_
                refine m_if 3 ((((q / 8) % 2 : Nat) : Int) = (0 : Int)) (fun c65 => ?_) (fun c65 => ?_)
                · -- yes
                  refine m_ld 3 9 ?_
                  refine m_ld 0 3 ?_
                  refine m_call 0 [] (join_j 4 (nodeL (getM m) 3 (q / 8)) (pathL (getM m) q 3) (by first | with_reducible assumption | omega | decide) (nodeL_ok _ _ _) (pathL_ok _ _ _)) (.cons 2 (.refl) .nil) ?_
                  rintro _ _ ⟨hv66, rfl⟩
                  rw [show ((.agg (hv (joinL 4 (nodeL (getM m) 3 (q / 8)) (pathL (getM m) q 3)))) : Value) = (.agg (hv (nodeL (getM m) 4 (q / 16)))) from by exact congrArg (fun l => Value.agg (hv l)) (join_l (g := getM m) (q := q) (h := 3) (n := q / 8) (n2 := q / 16) rfl rfl (by omega) (by omega))] at hv66; subst hv66
                  refine m_st 0 6 ?_
                  refine m_ld 22 9 ?_
                  refine m_ld 0 10 ?_
                  refine m_eqs 0 false (hv (nodeL (getM m) 4 (q / 16))) (hv (nodeL (getM m) 4 0)) (nodeL (getM m) 4 (q / 16) = nodeL (getM m) 4 0) (hv_iff (nodeL_ok _ _ _).len (nodeL_ok _ _ _).len) (H32.wf (nodeL_ok _ _ _)) (H32.wf (nodeL_ok _ _ _)) (fun _ => ?_) (fun c67 => absurd (by rw [show q / 16 = 0 from by omega]) c67)
                  refine m_i64 7 (((q : Nat) : Int) + (1 : Int)) (q + 1) (by omega) ?_
                  exact m_back 2 (q + 1) [7, 7, 7] ⟨(by omega), (by omega)⟩
                · -- no
                  refine m_ld 3 3 ?_
                  refine m_ld 0 9 ?_
                  refine m_call 0 [] (join_j 4 (pathL (getM m) q 3) (nodeL (getM m) 3 (q / 8)) (by first | with_reducible assumption | omega | decide) (pathL_ok _ _ _) (nodeL_ok _ _ _)) (.cons 2 (.refl) .nil) ?_
                  rintro _ _ ⟨hv68, rfl⟩
                  rw [show ((.agg (hv (joinL 4 (pathL (getM m) q 3) (nodeL (getM m) 3 (q / 8))))) : Value) = (.agg (hv (nodeL (getM m) 4 (q / 16)))) from by exact congrArg (fun l => Value.agg (hv l)) (join_r (g := getM m) (q := q) (h := 3) (n := q / 8) (n2 := q / 16) rfl rfl (by omega) (by omega))] at hv68; subst hv68
                  refine m_st 0 6 ?_
                  refine m_ld 22 9 ?_
                  refine m_ld 0 10 ?_
                  refine m_eqs 0 false (hv (nodeL (getM m) 4 (q / 16))) (hv (nodeL (getM m) 4 0)) (nodeL (getM m) 4 (q / 16) = nodeL (getM m) 4 0) (hv_iff (nodeL_ok _ _ _).len (nodeL_ok _ _ _).len) (H32.wf (nodeL_ok _ _ _)) (H32.wf (nodeL_ok _ _ _)) (fun _ => ?_) (fun c69 => absurd (by rw [show q / 16 = 0 from by omega]) c69)
                  refine m_i64 7 (((q : Nat) : Int) + (1 : Int)) (q + 1) (by omega) ?_
                  exact m_back 2 (q + 1) [7, 7, 7] ⟨(by omega), (by omega)⟩
              · -- no
                refine m_ld 3 3 ?_
                refine m_ld 0 8 ?_
                refine m_call 0 [] (join_j 3 (pathL (getM m) q 2) (nodeL (getM m) 2 (q / 4)) (by first | with_reducible assumption | omega | decide) (pathL_ok _ _ _) (nodeL_ok _ _ _)) (.cons 2 (.refl) .nil) ?_
                rintro _ _ ⟨hv70, rfl⟩
                rw [show ((.agg (hv (joinL 3 (pathL (getM m) q 2) (nodeL (getM m) 2 (q / 4))))) : Value) = (.agg (hv (nodeL (getM m) 3 (q / 8)))) from by exact congrArg (fun l => Value.agg (hv l)) (join_r (g := getM m) (q := q) (h := 2) (n := q / 4) (n2 := q / 8) rfl rfl (by omega) (by omega))] at hv70; subst hv70
                refine m_st 0 5 ?_
                refine m_new 23 fun b71 => ?_
                refine m_st 1 0 ?_
                refine m_shr 6 .i64 (q) 3 ?_
                refine m_i 0 .i64 (IntKind.i64.wrap (((BitVec.ofInt 64 ((q / 8 : Nat) : Int) &&& BitVec.ofInt 64 (1 : Int)).toNat : Nat) : Int)) (((q / 8) % 2 : Nat) : Int) (and1 (by omega)) ?_
                refine m_if 3 ((((q / 8) % 2 : Nat) : Int) = (0 : Int)) (fun c72 => ?_) (fun c72 => ?_)
                · -- yes
                  refine m_ld 3 9 ?_
                  refine m_ld 0 3 ?_
                  refine m_call 0 [] (join_j 4 (nodeL (getM m) 3 (q / 8)) (pathL (getM m) q 3) (by first | with_reducible assumption | omega | decide) (nodeL_ok _ _ _) (pathL_ok _ _ _)) (.cons 2 (.refl) .nil) ?_
                  rintro _ _ ⟨hv73, rfl⟩
                  rw [show ((.agg (hv (joinL 4 (nodeL (getM m) 3 (q / 8)) (pathL (getM m) q 3)))) : Value) = (.agg (hv (nodeL (getM m) 4 (q / 16)))) from by exact congrArg (fun l => Value.agg (hv l)) (join_l (g := getM m) (q := q) (h := 3) (n := q / 8) (n2 := q / 16) rfl rfl (by omega) (by omega))] at hv73; subst hv73
                  refine m_st 0 6 ?_
                  refine m_ld 22 9 ?_
                  refine m_ld 0 10 ?_
                  refine m_eqs 0 false (hv (nodeL (getM m) 4 (q / 16))) (hv (nodeL (getM m) 4 0)) (nodeL (getM m) 4 (q / 16) = nodeL (getM m) 4 0) (hv_iff (nodeL_ok _ _ _).len (nodeL_ok _ _ _).len) (H32.wf (nodeL_ok _ _ _)) (H32.wf (nodeL_ok _ _ _)) (fun _ => ?_) (fun c74 => absurd (by rw [show q / 16 = 0 from by omega]) c74)
                  refine m_i64 7 (((q : Nat) : Int) + (1 : Int)) (q + 1) (by omega) ?_
                  exact m_back 2 (q + 1) [7, 7, 7] ⟨(by omega), (by omega)⟩
                · -- no
                  refine m_ld 3 3 ?_
                  refine m_ld 0 9 ?_
                  refine m_call 0 [] (join_j 4 (pathL (getM m) q 3) (nodeL (getM m) 3 (q / 8)) (by first | with_reducible assumption | omega | decide) (pathL_ok _ _ _) (nodeL_ok _ _ _)) (.cons 2 (.refl) .nil) ?_
                  rintro _ _ ⟨hv75, rfl⟩
                  rw [show ((.agg (hv (joinL 4 (pathL (getM m) q 3) (nodeL (getM m) 3 (q / 8))))) : Value) = (.agg (hv (nodeL (getM m) 4 (q / 16)))) from by exact congrArg (fun l => Value.agg (hv l)) (join_r (g := getM m) (q := q) (h := 3) (n := q / 8) (n2 := q / 16) rfl rfl (by omega) (by omega))] at hv75; subst hv75
                  refine m_st 0 6 ?_
                  refine m_ld 22 9 ?_
                  refine m_ld 0 10 ?_
                  refine m_eqs 0 false (hv (nodeL (getM m) 4 (q / 16))) (hv (nodeL (getM m) 4 0)) (nodeL (getM m) 4 (q / 16) = nodeL (getM m) 4 0) (hv_iff (nodeL_ok _ _ _).len (nodeL_ok _ _ _).len) (H32.wf (nodeL_ok _ _ _)) (H32.wf (nodeL_ok _ _ _)) (fun _ => ?_) (fun c76 => absurd (by rw [show q / 16 = 0 from by omega]) c76)
                  refine m_i64 7 (((q : Nat) : Int) + (1 : Int)) (q + 1) (by omega) ?_
                  exact m_back 2 (q + 1) [7, 7, 7] ⟨(by omega), (by omega)⟩
            · -- no
              refine m_ld 3 3 ?_
              refine m_ld 0 7 ?_
              refine m_call 0 [] (join_j 2 (pathL (getM m) q 1) (nodeL (getM m) 1 (q / 2)) (by first | with_reducible assumption | omega | decide) (pathL_ok _ _ _) (nodeL_ok _ _ _)) (.cons 2 (.refl) .nil) ?_
              rintro _ _ ⟨hv77, rfl⟩
              rw [show ((.agg (hv (joinL 2 (pathL (getM m) q 1) (nodeL (getM m) 1 (q / 2))))) : Value) = (.agg (hv (nodeL (getM m) 2 (q / 4)))) from by exact congrArg (fun l => Value.agg (hv l)) (join_r (g := getM m) (q := q) (h := 1) (n := q / 2) (n2 := q / 4) rfl rfl (by omega) (by omega))] at hv77; subst hv77
              refine m_st 0 4 ?_
              refine m_new 23 fun b78 => ?_
              refine m_st 1 0 ?_
              refine m_shr 6 .i64 (q) 2 ?_
              refine m_i 0 .i64 (IntKind.i64.wrap (((BitVec.ofInt 64 ((q / 4 : Nat) : Int) &&& BitVec.ofInt 64 (1 : Int)).toNat : Nat) : Int)) (((q / 4) % 2 : Nat) : Int) (and1 (by omega)) ?_
              refine m_if 3 ((((q / 4) % 2 : Nat) : Int) = (0 : Int)) (fun c79 => ?_) (fun c79 => ?_)
              · -- yes
                refine m_ld 3 8 ?_
                refine m_ld 0 3 ?_
                refine m_call 0 [] (join_j 3 (nodeL (getM m) 2 (q / 4)) (pathL (getM m) q 2) (by first | with_reducible assumption | omega | decide) (nodeL_ok _ _ _) (pathL_ok _ _ _)) (.cons 2 (.refl) .nil) ?_
                rintro _ _ ⟨hv80, rfl⟩
                rw [show ((.agg (hv (joinL 3 (nodeL (getM m) 2 (q / 4)) (pathL (getM m) q 2)))) : Value) = (.agg (hv (nodeL (getM m) 3 (q / 8)))) from by exact congrArg (fun l => Value.agg (hv l)) (join_l (g := getM m) (q := q) (h := 2) (n := q / 4) (n2 := q / 8) rfl rfl (by omega) (by omega))] at hv80; subst hv80
                refine m_st 0 5 ?_
                refine m_new 23 fun b81 => ?_
                refine m_st 1 0 ?_
                refine m_shr 6 .i64 (q) 3 ?_
                refine m_i 0 .i64 (IntKind.i64.wrap (((BitVec.ofInt 64 ((q / 8 : Nat) : Int) &&& BitVec.ofInt 64 (1 : Int)).toNat : Nat) : Int)) (((q / 8) % 2 : Nat) : Int) (and1 (by omega)) ?_
                refine m_if 3 ((((q / 8) % 2 : Nat) : Int) = (0 : Int)) (fun c82 => ?_) (fun c82 => ?_)
                · -- yes
                  refine m_ld 3 9 ?_
                  refine m_ld 0 3 ?_
                  refine m_call 0 [] (join_j 4 (nodeL (getM m) 3 (q / 8)) (pathL (getM m) q 3) (by first | with_reducible assumption | omega | decide) (nodeL_ok _ _ _) (pathL_ok _ _ _)) (.cons 2 (.refl) .nil) ?_
                  rintro _ _ ⟨hv83, rfl⟩
                  rw [show ((.agg (hv (joinL 4 (nodeL (getM m) 3 (q / 8)) (pathL (getM m) q 3)))) : Value) = (.agg (hv (nodeL (getM m) 4 (q / 16)))) from by exact congrArg (fun l => Value.agg (hv l)) (join_l (g := getM m) (q := q) (h := 3) (n := q / 8) (n2 := q / 16) rfl rfl (by omega) (by omega))] at hv83; subst hv83
                  refine m_st 0 6 ?_
                  refine m_ld 22 9 ?_
                  refine m_ld 0 10 ?_
                  refine m_eqs 0 false (hv (nodeL (getM m) 4 (q / 16))) (hv (nodeL (getM m) 4 0)) (nodeL (getM m) 4 (q / 16) = nodeL (getM m) 4 0) (hv_iff (nodeL_ok _ _ _).len (nodeL_ok _ _ _).len) (H32.wf (nodeL_ok _ _ _)) (H32.wf (nodeL_ok _ _ _)) (fun _ => ?_) (fun c84 => absurd (by rw [show q / 16 = 0 from by omega]) c84)
                  refine m_i64 7 (((q : Nat) : Int) + (1 : Int)) (q + 1) (by omega) ?_
                  exact m_back 2 (q + 1) [7, 7, 7] ⟨(by omega), (by omega)⟩
                · -- no
                  refine m_ld 3 3 ?_
                  refine m_ld 0 9 ?_
                  refine m_call 0 [] (join_j 4 (pathL (getM m) q 3) (nodeL (getM m) 3 (q / 8)) (by first | with_reducible assumption | omega | decide) (pathL_ok _ _ _) (nodeL_ok _ _ _)) (.cons 2 (.refl) .nil) ?_
                  rintro _ _ ⟨hv85, rfl⟩
                  rw [show ((.agg (hv (joinL 4 (pathL (getM m) q 3) (nodeL (getM m) 3 (q / 8))))) : Value) = (.agg (hv (nodeL (getM m) 4 (q / 16)))) from by exact congrArg (fun l => Value.agg (hv l)) (join_r (g := getM m) (q := q) (h := 3) (n := q / 8) (n2 := q / 16) rfl rfl (by omega) (by omega))] at hv85; subst hv85
                  refine m_st 0 6 ?_
                  refine m_ld 22 9 ?_
                  refine m_ld 0 10 ?_
                  refine m_eqs 0 false (hv (nodeL (getM m) 4 (q / 16))) (hv (nodeL (getM m) 4 0)) (nodeL (getM m) 4 (q / 16) = nodeL (getM m) 4 0) (hv_iff (nodeL_ok _ _ _).len (nodeL_ok _ _ _).len) (H32.wf (nodeL_ok _ _ _)) (H32.wf (nodeL_ok _ _ _)) (fun _ => ?_) (fun c86 => absurd (by rw [show q / 16 = 0 from by omega]) c86)
                  refine m_i64 7 (((q : Nat) : Int) + (1 : Int)) (q + 1) (by omega) ?_
                  exact m_back 2 (q + 1) [7, 7, 7] ⟨(by omega), (by omega)⟩
              · -- no
                refine m_ld 3 3 ?_
                refine m_ld 0 8 ?_
                refine m_call 0 [] (join_j 3 (pathL (getM m) q 2) (nodeL (getM m) 2 (q / 4)) (by first | with_reducible assumption | omega | decide) (pathL_ok _ _ _) (nodeL_ok _ _ _)) (.cons 2 (.refl) .nil) ?_
                rintro _ _ ⟨hv87, rfl⟩
                rw [show ((.agg (hv (joinL 3 (pathL (getM m) q 2) (nodeL (getM m) 2 (q / 4))))) : Value) = (.agg (hv (nodeL (getM m) 3 (q / 8)))) from by exact congrArg (fun l => Value.agg (hv l)) (join_r (g := getM m) (q := q) (h := 2) (n := q / 4) (n2 := q / 8) rfl rfl (by omega) (by omega))] at hv87; subst hv87
                refine m_st 0 5 ?_
                refine m_new 23 fun b88 => ?_
                refine m_st 1 0 ?_
                refine m_shr 6 .i64 (q) 3 ?_
                refine m_i 0 .i64 (IntKind.i64.wrap (((BitVec.ofInt 64 ((q / 8 : Nat) : Int) &&& BitVec.ofInt 64 (1 : Int)).toNat : Nat) : Int)) (((q / 8) % 2 : Nat) : Int) (and1 (by omega)) ?_
                refine m_if 3 ((((q / 8) % 2 : Nat) : Int) = (0 : Int)) (fun c89 => ?_) (fun c89 => ?_)
                · -- yes
                  refine m_ld 3 9 ?_
                  refine m_ld 0 3 ?_
                  refine m_call 0 [] (join_j 4 (nodeL (getM m) 3 (q / 8)) (pathL (getM m) q 3) (by first | with_reducible assumption | omega | decide) (nodeL_ok _ _ _) (pathL_ok _ _ _)) (.cons 2 (.refl) .nil) ?_
                  rintro _ _ ⟨hv90, rfl⟩
                  rw [show ((.agg (hv (joinL 4 (nodeL (getM m) 3 (q / 8)) (pathL (getM m) q 3)))) : Value) = (.agg (hv (nodeL (getM m) 4 (q / 16)))) from by exact congrArg (fun l => Value.agg (hv l)) (join_l (g := getM m) (q := q) (h := 3) (n := q / 8) (n2 := q / 16) rfl rfl (by omega) (by omega))] at hv90; subst hv90
                  refine m_st 0 6 ?_
                  refine m_ld 22 9 ?_
                  refine m_ld 0 10 ?_
                  refine m_eqs 0 false (hv (nodeL (getM m) 4 (q / 16))) (hv (nodeL (getM m) 4 0)) (nodeL (getM m) 4 (q / 16) = nodeL (getM m) 4 0) (hv_iff (nodeL_ok _ _ _).len (nodeL_ok _ _ _).len) (H32.wf (nodeL_ok _ _ _)) (H32.wf (nodeL_ok _ _ _)) (fun _ => ?_) (fun c91 => absurd (by rw [show q / 16 = 0 from by omega]) c91)
                  refine m_i64 7 (((q : Nat) : Int) + (1 : Int)) (q + 1) (by omega) ?_
                  exact m_back 2 (q + 1) [7, 7, 7] ⟨(by omega), (by omega)⟩
                · -- no
                  refine m_ld 3 3 ?_
                  refine m_ld 0 9 ?_
                  refine m_call 0 [] (join_j 4 (pathL (getM m) q 3) (nodeL (getM m) 3 (q / 8)) (by first | with_reducible assumption | omega | decide) (pathL_ok _ _ _) (nodeL_ok _ _ _)) (.cons 2 (.refl) .nil) ?_
                  rintro _ _ ⟨hv92, rfl⟩
                  rw [show ((.agg (hv (joinL 4 (pathL (getM m) q 3) (nodeL (getM m) 3 (q / 8))))) : Value) = (.agg (hv (nodeL (getM m) 4 (q / 16)))) from by exact congrArg (fun l => Value.agg (hv l)) (join_r (g := getM m) (q := q) (h := 3) (n := q / 8) (n2 := q / 16) rfl rfl (by omega) (by omega))] at hv92; subst hv92
                  refine m_st 0 6 ?_
                  refine m_ld 22 9 ?_
                  refine m_ld 0 10 ?_
                  refine m_eqs 0 false (hv (nodeL (getM m) 4 (q / 16))) (hv (nodeL (getM m) 4 0)) (nodeL (getM m) 4 (q / 16) = nodeL (getM m) 4 0) (hv_iff (nodeL_ok _ _ _).len (nodeL_ok _ _ _).len) (H32.wf (nodeL_ok _ _ _)) (H32.wf (nodeL_ok _ _ _)) (fun _ => ?_) (fun c93 => absurd (by rw [show q / 16 = 0 from by omega]) c93)
                  refine m_i64 7 (((q : Nat) : Int) + (1 : Int)) (q + 1) (by omega) ?_
                  exact m_back 2 (q + 1) [7, 7, 7] ⟨(by omega), (by omega)⟩
        · -- no
          refine m_cells 1 b12 50 (hv accNone) (hv (nodeL (getM m) 0 q)) (by rw [nodeL_refno c14]) ?_
          refine m_call 6 [] (path_j tb4 mb5 m ((q : Nat) : Int) (by first | with_reducible assumption | omega | decide)) (.cons 7 (.refl) (.cons 6 (.refl) (.cons 2 (.refl) .nil))) ?_
          rintro _ _ ⟨hv94, rfl⟩
          rw [show ((.tuple #[(.agg ((pathP (getM m) ((q : Nat) : Int)).cells)), (.int .i64 ((pathE ((q : Nat) : Int) : Nat) : Int))]) : Value) = (.tuple #[(.agg ((aj (aj (aj (hv (pathL (getM m) q 0)) (hv (pathL (getM m) q 1))) (hv (pathL (getM m) q 2))) (hv (pathL (getM m) q 3))))), (.int .i64 0)]) from by rw [pathP_yes (q := q) rfl (by omega), pathE_yes (placeOk_nat (by omega))]; rfl] at hv94; subst hv94
          refine m_new 3 fun b95 => ?_
          refine m_st 0 0 ?_
          refine m_ld 16 3 ?_
          refine m_new 20 fun b96 => ?_
          refine m_st 1 0 ?_
          refine m_shr 6 .i64 (q) 0 ?_
          refine m_i 0 .i64 (IntKind.i64.wrap (((BitVec.ofInt 64 ((q / 1 : Nat) : Int) &&& BitVec.ofInt 64 (1 : Int)).toNat : Nat) : Int)) (((q / 1) % 2 : Nat) : Int) (and1 (by omega)) ?_
          refine m_if 3 ((((q / 1) % 2 : Nat) : Int) = (0 : Int)) (fun c97 => ?_) (fun c97 => ?_)
          · -- yes
            refine m_ld 3 6 ?_
            refine m_ld 0 3 ?_
            refine m_call 0 [] (join_j 1 (nodeL (getM m) 0 q) (pathL (getM m) q 0) (by first | with_reducible assumption | omega | decide) (nodeL_ok _ _ _) (pathL_ok _ _ _)) (.cons 2 (.refl) .nil) ?_
            rintro _ _ ⟨hv98, rfl⟩
            rw [show ((.agg (hv (joinL 1 (nodeL (getM m) 0 q) (pathL (getM m) q 0)))) : Value) = (.agg (hv (nodeL (getM m) 1 (q / 2)))) from by exact congrArg (fun l => Value.agg (hv l)) (join_l (g := getM m) (q := q) (h := 0) (n := q) (n2 := q / 2) rfl (by simp) (by omega) (by omega))] at hv98; subst hv98
            refine m_st 0 3 ?_
            refine m_new 23 fun b99 => ?_
            refine m_st 1 0 ?_
            refine m_shr 6 .i64 (q) 1 ?_
            refine m_i 0 .i64 (IntKind.i64.wrap (((BitVec.ofInt 64 ((q / 2 : Nat) : Int) &&& BitVec.ofInt 64 (1 : Int)).toNat : Nat) : Int)) (((q / 2) % 2 : Nat) : Int) (and1 (by omega)) ?_
            refine m_if 3 ((((q / 2) % 2 : Nat) : Int) = (0 : Int)) (fun c100 => ?_) (fun c100 => ?_)
            · -- yes
              refine m_ld 3 7 ?_
              refine m_ld 0 3 ?_
              refine m_call 0 [] (join_j 2 (nodeL (getM m) 1 (q / 2)) (pathL (getM m) q 1) (by first | with_reducible assumption | omega | decide) (nodeL_ok _ _ _) (pathL_ok _ _ _)) (.cons 2 (.refl) .nil) ?_
              rintro _ _ ⟨hv101, rfl⟩
              rw [show ((.agg (hv (joinL 2 (nodeL (getM m) 1 (q / 2)) (pathL (getM m) q 1)))) : Value) = (.agg (hv (nodeL (getM m) 2 (q / 4)))) from by exact congrArg (fun l => Value.agg (hv l)) (join_l (g := getM m) (q := q) (h := 1) (n := q / 2) (n2 := q / 4) rfl rfl (by omega) (by omega))] at hv101; subst hv101
              refine m_st 0 4 ?_
              refine m_new 23 fun b102 => ?_
              refine m_st 1 0 ?_
              refine m_shr 6 .i64 (q) 2 ?_
              refine m_i 0 .i64 (IntKind.i64.wrap (((BitVec.ofInt 64 ((q / 4 : Nat) : Int) &&& BitVec.ofInt 64 (1 : Int)).toNat : Nat) : Int)) (((q / 4) % 2 : Nat) : Int) (and1 (by omega)) ?_
              refine m_if 3 ((((q / 4) % 2 : Nat) : Int) = (0 : Int)) (fun c103 => ?_) (fun c103 => ?_)
              · -- yes
                refine m_ld 3 8 ?_
                refine m_ld 0 3 ?_
                refine m_call 0 [] (join_j 3 (nodeL (getM m) 2 (q / 4)) (pathL (getM m) q 2) (by first | with_reducible assumption | omega | decide) (nodeL_ok _ _ _) (pathL_ok _ _ _)) (.cons 2 (.refl) .nil) ?_
                rintro _ _ ⟨hv104, rfl⟩
                rw [show ((.agg (hv (joinL 3 (nodeL (getM m) 2 (q / 4)) (pathL (getM m) q 2)))) : Value) = (.agg (hv (nodeL (getM m) 3 (q / 8)))) from by exact congrArg (fun l => Value.agg (hv l)) (join_l (g := getM m) (q := q) (h := 2) (n := q / 4) (n2 := q / 8) rfl rfl (by omega) (by omega))] at hv104; subst hv104
                refine m_st 0 5 ?_
                refine m_new 23 fun b105 => ?_
                refine m_st 1 0 ?_
                refine m_shr 6 .i64 (q) 3 ?_
                refine m_i 0 .i64 (IntKind.i64.wrap (((BitVec.ofInt 64 ((q / 8 : Nat) : Int) &&& BitVec.ofInt 64 (1 : Int)).toNat : Nat) : Int)) (((q / 8) % 2 : Nat) : Int) (and1 (by omega)) ?_
                refine m_if 3 ((((q / 8) % 2 : Nat) : Int) = (0 : Int)) (fun c106 => ?_) (fun c106 => ?_)
                · -- yes
                  refine m_ld 3 9 ?_
                  refine m_ld 0 3 ?_
                  refine m_call 0 [] (join_j 4 (nodeL (getM m) 3 (q / 8)) (pathL (getM m) q 3) (by first | with_reducible assumption | omega | decide) (nodeL_ok _ _ _) (pathL_ok _ _ _)) (.cons 2 (.refl) .nil) ?_
                  rintro _ _ ⟨hv107, rfl⟩
                  rw [show ((.agg (hv (joinL 4 (nodeL (getM m) 3 (q / 8)) (pathL (getM m) q 3)))) : Value) = (.agg (hv (nodeL (getM m) 4 (q / 16)))) from by exact congrArg (fun l => Value.agg (hv l)) (join_l (g := getM m) (q := q) (h := 3) (n := q / 8) (n2 := q / 16) rfl rfl (by omega) (by omega))] at hv107; subst hv107
                  refine m_st 0 6 ?_
                  refine m_ld 22 9 ?_
                  refine m_ld 0 10 ?_
                  refine m_eqs 0 false (hv (nodeL (getM m) 4 (q / 16))) (hv (nodeL (getM m) 4 0)) (nodeL (getM m) 4 (q / 16) = nodeL (getM m) 4 0) (hv_iff (nodeL_ok _ _ _).len (nodeL_ok _ _ _).len) (H32.wf (nodeL_ok _ _ _)) (H32.wf (nodeL_ok _ _ _)) (fun _ => ?_) (fun c108 => absurd (by rw [show q / 16 = 0 from by omega]) c108)
                  refine m_i64 7 (((q : Nat) : Int) + (1 : Int)) (q + 1) (by omega) ?_
                  exact m_back 2 (q + 1) [7, 7, 7] ⟨(by omega), (by omega)⟩
                · -- no
                  refine m_ld 3 3 ?_
                  refine m_ld 0 9 ?_
                  refine m_call 0 [] (join_j 4 (pathL (getM m) q 3) (nodeL (getM m) 3 (q / 8)) (by first | with_reducible assumption | omega | decide) (pathL_ok _ _ _) (nodeL_ok _ _ _)) (.cons 2 (.refl) .nil) ?_
                  rintro _ _ ⟨hv109, rfl⟩
                  rw [show ((.agg (hv (joinL 4 (pathL (getM m) q 3) (nodeL (getM m) 3 (q / 8))))) : Value) = (.agg (hv (nodeL (getM m) 4 (q / 16)))) from by exact congrArg (fun l => Value.agg (hv l)) (join_r (g := getM m) (q := q) (h := 3) (n := q / 8) (n2 := q / 16) rfl rfl (by omega) (by omega))] at hv109; subst hv109
                  refine m_st 0 6 ?_
                  refine m_ld 22 9 ?_
                  refine m_ld 0 10 ?_
                  refine m_eqs 0 false (hv (nodeL (getM m) 4 (q / 16))) (hv (nodeL (getM m) 4 0)) (nodeL (getM m) 4 (q / 16) = nodeL (getM m) 4 0) (hv_iff (nodeL_ok _ _ _).len (nodeL_ok _ _ _).len) (H32.wf (nodeL_ok _ _ _)) (H32.wf (nodeL_ok _ _ _)) (fun _ => ?_) (fun c110 => absurd (by rw [show q / 16 = 0 from by omega]) c110)
                  refine m_i64 7 (((q : Nat) : Int) + (1 : Int)) (q + 1) (by omega) ?_
                  exact m_back 2 (q + 1) [7, 7, 7] ⟨(by omega), (by omega)⟩
              · -- no
                refine m_ld 3 3 ?_
                refine m_ld 0 8 ?_
                refine m_call 0 [] (join_j 3 (pathL (getM m) q 2) (nodeL (getM m) 2 (q / 4)) (by first | with_reducible assumption | omega | decide) (pathL_ok _ _ _) (nodeL_ok _ _ _)) (.cons 2 (.refl) .nil) ?_
                rintro _ _ ⟨hv111, rfl⟩
                rw [show ((.agg (hv (joinL 3 (pathL (getM m) q 2) (nodeL (getM m) 2 (q / 4))))) : Value) = (.agg (hv (nodeL (getM m) 3 (q / 8)))) from by exact congrArg (fun l => Value.agg (hv l)) (join_r (g := getM m) (q := q) (h := 2) (n := q / 4) (n2 := q / 8) rfl rfl (by omega) (by omega))] at hv111; subst hv111
                refine m_st 0 5 ?_
                refine m_new 23 fun b112 => ?_
                refine m_st 1 0 ?_
                refine m_shr 6 .i64 (q) 3 ?_
                refine m_i 0 .i64 (IntKind.i64.wrap (((BitVec.ofInt 64 ((q / 8 : Nat) : Int) &&& BitVec.ofInt 64 (1 : Int)).toNat : Nat) : Int)) (((q / 8) % 2 : Nat) : Int) (and1 (by omega)) ?_
                refine m_if 3 ((((q / 8) % 2 : Nat) : Int) = (0 : Int)) (fun c113 => ?_) (fun c113 => ?_)
                · -- yes
                  refine m_ld 3 9 ?_
                  refine m_ld 0 3 ?_
                  refine m_call 0 [] (join_j 4 (nodeL (getM m) 3 (q / 8)) (pathL (getM m) q 3) (by first | with_reducible assumption | omega | decide) (nodeL_ok _ _ _) (pathL_ok _ _ _)) (.cons 2 (.refl) .nil) ?_
                  rintro _ _ ⟨hv114, rfl⟩
                  rw [show ((.agg (hv (joinL 4 (nodeL (getM m) 3 (q / 8)) (pathL (getM m) q 3)))) : Value) = (.agg (hv (nodeL (getM m) 4 (q / 16)))) from by exact congrArg (fun l => Value.agg (hv l)) (join_l (g := getM m) (q := q) (h := 3) (n := q / 8) (n2 := q / 16) rfl rfl (by omega) (by omega))] at hv114; subst hv114
                  refine m_st 0 6 ?_
                  refine m_ld 22 9 ?_
                  refine m_ld 0 10 ?_
                  refine m_eqs 0 false (hv (nodeL (getM m) 4 (q / 16))) (hv (nodeL (getM m) 4 0)) (nodeL (getM m) 4 (q / 16) = nodeL (getM m) 4 0) (hv_iff (nodeL_ok _ _ _).len (nodeL_ok _ _ _).len) (H32.wf (nodeL_ok _ _ _)) (H32.wf (nodeL_ok _ _ _)) (fun _ => ?_) (fun c115 => absurd (by rw [show q / 16 = 0 from by omega]) c115)
                  refine m_i64 7 (((q : Nat) : Int) + (1 : Int)) (q + 1) (by omega) ?_
                  exact m_back 2 (q + 1) [7, 7, 7] ⟨(by omega), (by omega)⟩
                · -- no
                  refine m_ld 3 3 ?_
                  refine m_ld 0 9 ?_
                  refine m_call 0 [] (join_j 4 (pathL (getM m) q 3) (nodeL (getM m) 3 (q / 8)) (by first | with_reducible assumption | omega | decide) (pathL_ok _ _ _) (nodeL_ok _ _ _)) (.cons 2 (.refl) .nil) ?_
                  rintro _ _ ⟨hv116, rfl⟩
                  rw [show ((.agg (hv (joinL 4 (pathL (getM m) q 3) (nodeL (getM m) 3 (q / 8))))) : Value) = (.agg (hv (nodeL (getM m) 4 (q / 16)))) from by exact congrArg (fun l => Value.agg (hv l)) (join_r (g := getM m) (q := q) (h := 3) (n := q / 8) (n2 := q / 16) rfl rfl (by omega) (by omega))] at hv116; subst hv116
                  refine m_st 0 6 ?_
                  refine m_ld 22 9 ?_
                  refine m_ld 0 10 ?_
                  refine m_eqs 0 false (hv (nodeL (getM m) 4 (q / 16))) (hv (nodeL (getM m) 4 0)) (nodeL (getM m) 4 (q / 16) = nodeL (getM m) 4 0) (hv_iff (nodeL_ok _ _ _).len (nodeL_ok _ _ _).len) (H32.wf (nodeL_ok _ _ _)) (H32.wf (nodeL_ok _ _ _)) (fun _ => ?_) (fun c117 => absurd (by rw [show q / 16 = 0 from by omega]) c117)
                  refine m_i64 7 (((q : Nat) : Int) + (1 : Int)) (q + 1) (by omega) ?_
                  exact m_back 2 (q + 1) [7, 7, 7] ⟨(by omega), (by omega)⟩
            · -- no
              refine m_ld 3 3 ?_
              refine m_ld 0 7 ?_
              refine m_call 0 [] (join_j 2 (pathL (getM m) q 1) (nodeL (getM m) 1 (q / 2)) (by first | with_reducible assumption | omega | decide) (pathL_ok _ _ _) (nodeL_ok _ _ _)) (.cons 2 (.refl) .nil) ?_
              rintro _ _ ⟨hv118, rfl⟩
              rw [show ((.agg (hv (joinL 2 (pathL (getM m) q 1) (nodeL (getM m) 1 (q / 2))))) : Value) = (.agg (hv (nodeL (getM m) 2 (q / 4)))) from by exact congrArg (fun l => Value.agg (hv l)) (join_r (g := getM m) (q := q) (h := 1) (n := q / 2) (n2 := q / 4) rfl rfl (by omega) (by omega))] at hv118; subst hv118
              refine m_st 0 4 ?_
              refine m_new 23 fun b119 => ?_
              refine m_st 1 0 ?_
              refine m_shr 6 .i64 (q) 2 ?_
              refine m_i 0 .i64 (IntKind.i64.wrap (((BitVec.ofInt 64 ((q / 4 : Nat) : Int) &&& BitVec.ofInt 64 (1 : Int)).toNat : Nat) : Int)) (((q / 4) % 2 : Nat) : Int) (and1 (by omega)) ?_
              refine m_if 3 ((((q / 4) % 2 : Nat) : Int) = (0 : Int)) (fun c120 => ?_) (fun c120 => ?_)
              · -- yes
                refine m_ld 3 8 ?_
                refine m_ld 0 3 ?_
                refine m_call 0 [] (join_j 3 (nodeL (getM m) 2 (q / 4)) (pathL (getM m) q 2) (by first | with_reducible assumption | omega | decide) (nodeL_ok _ _ _) (pathL_ok _ _ _)) (.cons 2 (.refl) .nil) ?_
                rintro _ _ ⟨hv121, rfl⟩
                rw [show ((.agg (hv (joinL 3 (nodeL (getM m) 2 (q / 4)) (pathL (getM m) q 2)))) : Value) = (.agg (hv (nodeL (getM m) 3 (q / 8)))) from by exact congrArg (fun l => Value.agg (hv l)) (join_l (g := getM m) (q := q) (h := 2) (n := q / 4) (n2 := q / 8) rfl rfl (by omega) (by omega))] at hv121; subst hv121
                refine m_st 0 5 ?_
                refine m_new 23 fun b122 => ?_
                refine m_st 1 0 ?_
                refine m_shr 6 .i64 (q) 3 ?_
                refine m_i 0 .i64 (IntKind.i64.wrap (((BitVec.ofInt 64 ((q / 8 : Nat) : Int) &&& BitVec.ofInt 64 (1 : Int)).toNat : Nat) : Int)) (((q / 8) % 2 : Nat) : Int) (and1 (by omega)) ?_
                refine m_if 3 ((((q / 8) % 2 : Nat) : Int) = (0 : Int)) (fun c123 => ?_) (fun c123 => ?_)
                · -- yes
                  refine m_ld 3 9 ?_
                  refine m_ld 0 3 ?_
                  refine m_call 0 [] (join_j 4 (nodeL (getM m) 3 (q / 8)) (pathL (getM m) q 3) (by first | with_reducible assumption | omega | decide) (nodeL_ok _ _ _) (pathL_ok _ _ _)) (.cons 2 (.refl) .nil) ?_
                  rintro _ _ ⟨hv124, rfl⟩
                  rw [show ((.agg (hv (joinL 4 (nodeL (getM m) 3 (q / 8)) (pathL (getM m) q 3)))) : Value) = (.agg (hv (nodeL (getM m) 4 (q / 16)))) from by exact congrArg (fun l => Value.agg (hv l)) (join_l (g := getM m) (q := q) (h := 3) (n := q / 8) (n2 := q / 16) rfl rfl (by omega) (by omega))] at hv124; subst hv124
                  refine m_st 0 6 ?_
                  refine m_ld 22 9 ?_
                  refine m_ld 0 10 ?_
                  refine m_eqs 0 false (hv (nodeL (getM m) 4 (q / 16))) (hv (nodeL (getM m) 4 0)) (nodeL (getM m) 4 (q / 16) = nodeL (getM m) 4 0) (hv_iff (nodeL_ok _ _ _).len (nodeL_ok _ _ _).len) (H32.wf (nodeL_ok _ _ _)) (H32.wf (nodeL_ok _ _ _)) (fun _ => ?_) (fun c125 => absurd (by rw [show q / 16 = 0 from by omega]) c125)
                  refine m_i64 7 (((q : Nat) : Int) + (1 : Int)) (q + 1) (by omega) ?_
                  exact m_back 2 (q + 1) [7, 7, 7] ⟨(by omega), (by omega)⟩
                · -- no
                  refine m_ld 3 3 ?_
                  refine m_ld 0 9 ?_
                  refine m_call 0 [] (join_j 4 (pathL (getM m) q 3) (nodeL (getM m) 3 (q / 8)) (by first | with_reducible assumption | omega | decide) (pathL_ok _ _ _) (nodeL_ok _ _ _)) (.cons 2 (.refl) .nil) ?_
                  rintro _ _ ⟨hv126, rfl⟩
                  rw [show ((.agg (hv (joinL 4 (pathL (getM m) q 3) (nodeL (getM m) 3 (q / 8))))) : Value) = (.agg (hv (nodeL (getM m) 4 (q / 16)))) from by exact congrArg (fun l => Value.agg (hv l)) (join_r (g := getM m) (q := q) (h := 3) (n := q / 8) (n2 := q / 16) rfl rfl (by omega) (by omega))] at hv126; subst hv126
                  refine m_st 0 6 ?_
                  refine m_ld 22 9 ?_
                  refine m_ld 0 10 ?_
                  refine m_eqs 0 false (hv (nodeL (getM m) 4 (q / 16))) (hv (nodeL (getM m) 4 0)) (nodeL (getM m) 4 (q / 16) = nodeL (getM m) 4 0) (hv_iff (nodeL_ok _ _ _).len (nodeL_ok _ _ _).len) (H32.wf (nodeL_ok _ _ _)) (H32.wf (nodeL_ok _ _ _)) (fun _ => ?_) (fun c127 => absurd (by rw [show q / 16 = 0 from by omega]) c127)
                  refine m_i64 7 (((q : Nat) : Int) + (1 : Int)) (q + 1) (by omega) ?_
                  exact m_back 2 (q + 1) [7, 7, 7] ⟨(by omega), (by omega)⟩
              · -- no
                refine m_ld 3 3 ?_
                refine m_ld 0 8 ?_
                refine m_call 0 [] (join_j 3 (pathL (getM m) q 2) (nodeL (getM m) 2 (q / 4)) (by first | with_reducible assumption | omega | decide) (pathL_ok _ _ _) (nodeL_ok _ _ _)) (.cons 2 (.refl) .nil) ?_
                rintro _ _ ⟨hv128, rfl⟩
                rw [show ((.agg (hv (joinL 3 (pathL (getM m) q 2) (nodeL (getM m) 2 (q / 4))))) : Value) = (.agg (hv (nodeL (getM m) 3 (q / 8)))) from by exact congrArg (fun l => Value.agg (hv l)) (join_r (g := getM m) (q := q) (h := 2) (n := q / 4) (n2 := q / 8) rfl rfl (by omega) (by omega))] at hv128; subst hv128
                refine m_st 0 5 ?_
                refine m_new 23 fun b129 => ?_
                refine m_st 1 0 ?_
                refine m_shr 6 .i64 (q) 3 ?_
                refine m_i 0 .i64 (IntKind.i64.wrap (((BitVec.ofInt 64 ((q / 8 : Nat) : Int) &&& BitVec.ofInt 64 (1 : Int)).toNat : Nat) : Int)) (((q / 8) % 2 : Nat) : Int) (and1 (by omega)) ?_
                refine m_if 3 ((((q / 8) % 2 : Nat) : Int) = (0 : Int)) (fun c130 => ?_) (fun c130 => ?_)
                · -- yes
                  refine m_ld 3 9 ?_
                  refine m_ld 0 3 ?_
                  refine m_call 0 [] (join_j 4 (nodeL (getM m) 3 (q / 8)) (pathL (getM m) q 3) (by first | with_reducible assumption | omega | decide) (nodeL_ok _ _ _) (pathL_ok _ _ _)) (.cons 2 (.refl) .nil) ?_
                  rintro _ _ ⟨hv131, rfl⟩
                  rw [show ((.agg (hv (joinL 4 (nodeL (getM m) 3 (q / 8)) (pathL (getM m) q 3)))) : Value) = (.agg (hv (nodeL (getM m) 4 (q / 16)))) from by exact congrArg (fun l => Value.agg (hv l)) (join_l (g := getM m) (q := q) (h := 3) (n := q / 8) (n2 := q / 16) rfl rfl (by omega) (by omega))] at hv131; subst hv131
                  refine m_st 0 6 ?_
                  refine m_ld 22 9 ?_
                  refine m_ld 0 10 ?_
                  refine m_eqs 0 false (hv (nodeL (getM m) 4 (q / 16))) (hv (nodeL (getM m) 4 0)) (nodeL (getM m) 4 (q / 16) = nodeL (getM m) 4 0) (hv_iff (nodeL_ok _ _ _).len (nodeL_ok _ _ _).len) (H32.wf (nodeL_ok _ _ _)) (H32.wf (nodeL_ok _ _ _)) (fun _ => ?_) (fun c132 => absurd (by rw [show q / 16 = 0 from by omega]) c132)
                  refine m_i64 7 (((q : Nat) : Int) + (1 : Int)) (q + 1) (by omega) ?_
                  exact m_back 2 (q + 1) [7, 7, 7] ⟨(by omega), (by omega)⟩
                · -- no
                  refine m_ld 3 3 ?_
                  refine m_ld 0 9 ?_
                  refine m_call 0 [] (join_j 4 (pathL (getM m) q 3) (nodeL (getM m) 3 (q / 8)) (by first | with_reducible assumption | omega | decide) (pathL_ok _ _ _) (nodeL_ok _ _ _)) (.cons 2 (.refl) .nil) ?_
                  rintro _ _ ⟨hv133, rfl⟩
                  rw [show ((.agg (hv (joinL 4 (pathL (getM m) q 3) (nodeL (getM m) 3 (q / 8))))) : Value) = (.agg (hv (nodeL (getM m) 4 (q / 16)))) from by exact congrArg (fun l => Value.agg (hv l)) (join_r (g := getM m) (q := q) (h := 3) (n := q / 8) (n2 := q / 16) rfl rfl (by omega) (by omega))] at hv133; subst hv133
                  refine m_st 0 6 ?_
                  refine m_ld 22 9 ?_
                  refine m_ld 0 10 ?_
                  refine m_eqs 0 false (hv (nodeL (getM m) 4 (q / 16))) (hv (nodeL (getM m) 4 0)) (nodeL (getM m) 4 (q / 16) = nodeL (getM m) 4 0) (hv_iff (nodeL_ok _ _ _).len (nodeL_ok _ _ _).len) (H32.wf (nodeL_ok _ _ _)) (H32.wf (nodeL_ok _ _ _)) (fun _ => ?_) (fun c134 => absurd (by rw [show q / 16 = 0 from by omega]) c134)
                  refine m_i64 7 (((q : Nat) : Int) + (1 : Int)) (q + 1) (by omega) ?_
                  exact m_back 2 (q + 1) [7, 7, 7] ⟨(by omega), (by omega)⟩
          · -- no
            refine m_ld 3 3 ?_
            refine m_ld 0 6 ?_
            refine m_call 0 [] (join_j 1 (pathL (getM m) q 0) (nodeL (getM m) 0 q) (by first | with_reducible assumption | omega | decide) (pathL_ok _ _ _) (nodeL_ok _ _ _)) (.cons 2 (.refl) .nil) ?_
            rintro _ _ ⟨hv135, rfl⟩
            rw [show ((.agg (hv (joinL 1 (pathL (getM m) q 0) (nodeL (getM m) 0 q)))) : Value) = (.agg (hv (nodeL (getM m) 1 (q / 2)))) from by exact congrArg (fun l => Value.agg (hv l)) (join_r (g := getM m) (q := q) (h := 0) (n := q) (n2 := q / 2) rfl (by simp) (by omega) (by omega))] at hv135; subst hv135
            refine m_st 0 3 ?_
            refine m_new 23 fun b136 => ?_
            refine m_st 1 0 ?_
            refine m_shr 6 .i64 (q) 1 ?_
            refine m_i 0 .i64 (IntKind.i64.wrap (((BitVec.ofInt 64 ((q / 2 : Nat) : Int) &&& BitVec.ofInt 64 (1 : Int)).toNat : Nat) : Int)) (((q / 2) % 2 : Nat) : Int) (and1 (by omega)) ?_
            refine m_if 3 ((((q / 2) % 2 : Nat) : Int) = (0 : Int)) (fun c137 => ?_) (fun c137 => ?_)
            · -- yes
              refine m_ld 3 7 ?_
              refine m_ld 0 3 ?_
              refine m_call 0 [] (join_j 2 (nodeL (getM m) 1 (q / 2)) (pathL (getM m) q 1) (by first | with_reducible assumption | omega | decide) (nodeL_ok _ _ _) (pathL_ok _ _ _)) (.cons 2 (.refl) .nil) ?_
              rintro _ _ ⟨hv138, rfl⟩
              rw [show ((.agg (hv (joinL 2 (nodeL (getM m) 1 (q / 2)) (pathL (getM m) q 1)))) : Value) = (.agg (hv (nodeL (getM m) 2 (q / 4)))) from by exact congrArg (fun l => Value.agg (hv l)) (join_l (g := getM m) (q := q) (h := 1) (n := q / 2) (n2 := q / 4) rfl rfl (by omega) (by omega))] at hv138; subst hv138
              refine m_st 0 4 ?_
              refine m_new 23 fun b139 => ?_
              refine m_st 1 0 ?_
              refine m_shr 6 .i64 (q) 2 ?_
              refine m_i 0 .i64 (IntKind.i64.wrap (((BitVec.ofInt 64 ((q / 4 : Nat) : Int) &&& BitVec.ofInt 64 (1 : Int)).toNat : Nat) : Int)) (((q / 4) % 2 : Nat) : Int) (and1 (by omega)) ?_
              refine m_if 3 ((((q / 4) % 2 : Nat) : Int) = (0 : Int)) (fun c140 => ?_) (fun c140 => ?_)
              · -- yes
                refine m_ld 3 8 ?_
                refine m_ld 0 3 ?_
                refine m_call 0 [] (join_j 3 (nodeL (getM m) 2 (q / 4)) (pathL (getM m) q 2) (by first | with_reducible assumption | omega | decide) (nodeL_ok _ _ _) (pathL_ok _ _ _)) (.cons 2 (.refl) .nil) ?_
                rintro _ _ ⟨hv141, rfl⟩
                rw [show ((.agg (hv (joinL 3 (nodeL (getM m) 2 (q / 4)) (pathL (getM m) q 2)))) : Value) = (.agg (hv (nodeL (getM m) 3 (q / 8)))) from by exact congrArg (fun l => Value.agg (hv l)) (join_l (g := getM m) (q := q) (h := 2) (n := q / 4) (n2 := q / 8) rfl rfl (by omega) (by omega))] at hv141; subst hv141
                refine m_st 0 5 ?_
                refine m_new 23 fun b142 => ?_
                refine m_st 1 0 ?_
                refine m_shr 6 .i64 (q) 3 ?_
                refine m_i 0 .i64 (IntKind.i64.wrap (((BitVec.ofInt 64 ((q / 8 : Nat) : Int) &&& BitVec.ofInt 64 (1 : Int)).toNat : Nat) : Int)) (((q / 8) % 2 : Nat) : Int) (and1 (by omega)) ?_
                refine m_if 3 ((((q / 8) % 2 : Nat) : Int) = (0 : Int)) (fun c143 => ?_) (fun c143 => ?_)
                · -- yes
                  refine m_ld 3 9 ?_
                  refine m_ld 0 3 ?_
                  refine m_call 0 [] (join_j 4 (nodeL (getM m) 3 (q / 8)) (pathL (getM m) q 3) (by first | with_reducible assumption | omega | decide) (nodeL_ok _ _ _) (pathL_ok _ _ _)) (.cons 2 (.refl) .nil) ?_
                  rintro _ _ ⟨hv144, rfl⟩
                  rw [show ((.agg (hv (joinL 4 (nodeL (getM m) 3 (q / 8)) (pathL (getM m) q 3)))) : Value) = (.agg (hv (nodeL (getM m) 4 (q / 16)))) from by exact congrArg (fun l => Value.agg (hv l)) (join_l (g := getM m) (q := q) (h := 3) (n := q / 8) (n2 := q / 16) rfl rfl (by omega) (by omega))] at hv144; subst hv144
                  refine m_st 0 6 ?_
                  refine m_ld 22 9 ?_
                  refine m_ld 0 10 ?_
                  refine m_eqs 0 false (hv (nodeL (getM m) 4 (q / 16))) (hv (nodeL (getM m) 4 0)) (nodeL (getM m) 4 (q / 16) = nodeL (getM m) 4 0) (hv_iff (nodeL_ok _ _ _).len (nodeL_ok _ _ _).len) (H32.wf (nodeL_ok _ _ _)) (H32.wf (nodeL_ok _ _ _)) (fun _ => ?_) (fun c145 => absurd (by rw [show q / 16 = 0 from by omega]) c145)
                  refine m_i64 7 (((q : Nat) : Int) + (1 : Int)) (q + 1) (by omega) ?_
                  exact m_back 2 (q + 1) [7, 7, 7] ⟨(by omega), (by omega)⟩
                · -- no
                  refine m_ld 3 3 ?_
                  refine m_ld 0 9 ?_
                  refine m_call 0 [] (join_j 4 (pathL (getM m) q 3) (nodeL (getM m) 3 (q / 8)) (by first | with_reducible assumption | omega | decide) (pathL_ok _ _ _) (nodeL_ok _ _ _)) (.cons 2 (.refl) .nil) ?_
                  rintro _ _ ⟨hv146, rfl⟩
                  rw [show ((.agg (hv (joinL 4 (pathL (getM m) q 3) (nodeL (getM m) 3 (q / 8))))) : Value) = (.agg (hv (nodeL (getM m) 4 (q / 16)))) from by exact congrArg (fun l => Value.agg (hv l)) (join_r (g := getM m) (q := q) (h := 3) (n := q / 8) (n2 := q / 16) rfl rfl (by omega) (by omega))] at hv146; subst hv146
                  refine m_st 0 6 ?_
                  refine m_ld 22 9 ?_
                  refine m_ld 0 10 ?_
                  refine m_eqs 0 false (hv (nodeL (getM m) 4 (q / 16))) (hv (nodeL (getM m) 4 0)) (nodeL (getM m) 4 (q / 16) = nodeL (getM m) 4 0) (hv_iff (nodeL_ok _ _ _).len (nodeL_ok _ _ _).len) (H32.wf (nodeL_ok _ _ _)) (H32.wf (nodeL_ok _ _ _)) (fun _ => ?_) (fun c147 => absurd (by rw [show q / 16 = 0 from by omega]) c147)
                  refine m_i64 7 (((q : Nat) : Int) + (1 : Int)) (q + 1) (by omega) ?_
                  exact m_back 2 (q + 1) [7, 7, 7] ⟨(by omega), (by omega)⟩
              · -- no
                refine m_ld 3 3 ?_
                refine m_ld 0 8 ?_
                refine m_call 0 [] (join_j 3 (pathL (getM m) q 2) (nodeL (getM m) 2 (q / 4)) (by first | with_reducible assumption | omega | decide) (pathL_ok _ _ _) (nodeL_ok _ _ _)) (.cons 2 (.refl) .nil) ?_
                rintro _ _ ⟨hv148, rfl⟩
                rw [show ((.agg (hv (joinL 3 (pathL (getM m) q 2) (nodeL (getM m) 2 (q / 4))))) : Value) = (.agg (hv (nodeL (getM m) 3 (q / 8)))) from by exact congrArg (fun l => Value.agg (hv l)) (join_r (g := getM m) (q := q) (h := 2) (n := q / 4) (n2 := q / 8) rfl rfl (by omega) (by omega))] at hv148; subst hv148
                refine m_st 0 5 ?_
                refine m_new 23 fun b149 => ?_
                refine m_st 1 0 ?_
                refine m_shr 6 .i64 (q) 3 ?_
                refine m_i 0 .i64 (IntKind.i64.wrap (((BitVec.ofInt 64 ((q / 8 : Nat) : Int) &&& BitVec.ofInt 64 (1 : Int)).toNat : Nat) : Int)) (((q / 8) % 2 : Nat) : Int) (and1 (by omega)) ?_
                refine m_if 3 ((((q / 8) % 2 : Nat) : Int) = (0 : Int)) (fun c150 => ?_) (fun c150 => ?_)
                · -- yes
                  refine m_ld 3 9 ?_
                  refine m_ld 0 3 ?_
                  refine m_call 0 [] (join_j 4 (nodeL (getM m) 3 (q / 8)) (pathL (getM m) q 3) (by first | with_reducible assumption | omega | decide) (nodeL_ok _ _ _) (pathL_ok _ _ _)) (.cons 2 (.refl) .nil) ?_
                  rintro _ _ ⟨hv151, rfl⟩
                  rw [show ((.agg (hv (joinL 4 (nodeL (getM m) 3 (q / 8)) (pathL (getM m) q 3)))) : Value) = (.agg (hv (nodeL (getM m) 4 (q / 16)))) from by exact congrArg (fun l => Value.agg (hv l)) (join_l (g := getM m) (q := q) (h := 3) (n := q / 8) (n2 := q / 16) rfl rfl (by omega) (by omega))] at hv151; subst hv151
                  refine m_st 0 6 ?_
                  refine m_ld 22 9 ?_
                  refine m_ld 0 10 ?_
                  refine m_eqs 0 false (hv (nodeL (getM m) 4 (q / 16))) (hv (nodeL (getM m) 4 0)) (nodeL (getM m) 4 (q / 16) = nodeL (getM m) 4 0) (hv_iff (nodeL_ok _ _ _).len (nodeL_ok _ _ _).len) (H32.wf (nodeL_ok _ _ _)) (H32.wf (nodeL_ok _ _ _)) (fun _ => ?_) (fun c152 => absurd (by rw [show q / 16 = 0 from by omega]) c152)
                  refine m_i64 7 (((q : Nat) : Int) + (1 : Int)) (q + 1) (by omega) ?_
                  exact m_back 2 (q + 1) [7, 7, 7] ⟨(by omega), (by omega)⟩
                · -- no
                  refine m_ld 3 3 ?_
                  refine m_ld 0 9 ?_
                  refine m_call 0 [] (join_j 4 (pathL (getM m) q 3) (nodeL (getM m) 3 (q / 8)) (by first | with_reducible assumption | omega | decide) (pathL_ok _ _ _) (nodeL_ok _ _ _)) (.cons 2 (.refl) .nil) ?_
                  rintro _ _ ⟨hv153, rfl⟩
                  rw [show ((.agg (hv (joinL 4 (pathL (getM m) q 3) (nodeL (getM m) 3 (q / 8))))) : Value) = (.agg (hv (nodeL (getM m) 4 (q / 16)))) from by exact congrArg (fun l => Value.agg (hv l)) (join_r (g := getM m) (q := q) (h := 3) (n := q / 8) (n2 := q / 16) rfl rfl (by omega) (by omega))] at hv153; subst hv153
                  refine m_st 0 6 ?_
                  refine m_ld 22 9 ?_
                  refine m_ld 0 10 ?_
                  refine m_eqs 0 false (hv (nodeL (getM m) 4 (q / 16))) (hv (nodeL (getM m) 4 0)) (nodeL (getM m) 4 (q / 16) = nodeL (getM m) 4 0) (hv_iff (nodeL_ok _ _ _).len (nodeL_ok _ _ _).len) (H32.wf (nodeL_ok _ _ _)) (H32.wf (nodeL_ok _ _ _)) (fun _ => ?_) (fun c154 => absurd (by rw [show q / 16 = 0 from by omega]) c154)
                  refine m_i64 7 (((q : Nat) : Int) + (1 : Int)) (q + 1) (by omega) ?_
                  exact m_back 2 (q + 1) [7, 7, 7] ⟨(by omega), (by omega)⟩
            · -- no
              refine m_ld 3 3 ?_
              refine m_ld 0 7 ?_
              refine m_call 0 [] (join_j 2 (pathL (getM m) q 1) (nodeL (getM m) 1 (q / 2)) (by first | with_reducible assumption | omega | decide) (pathL_ok _ _ _) (nodeL_ok _ _ _)) (.cons 2 (.refl) .nil) ?_
              rintro _ _ ⟨hv155, rfl⟩
              rw [show ((.agg (hv (joinL 2 (pathL (getM m) q 1) (nodeL (getM m) 1 (q / 2))))) : Value) = (.agg (hv (nodeL (getM m) 2 (q / 4)))) from by exact congrArg (fun l => Value.agg (hv l)) (join_r (g := getM m) (q := q) (h := 1) (n := q / 2) (n2 := q / 4) rfl rfl (by omega) (by omega))] at hv155; subst hv155
              refine m_st 0 4 ?_
              refine m_new 23 fun b156 => ?_
              refine m_st 1 0 ?_
              refine m_shr 6 .i64 (q) 2 ?_
              refine m_i 0 .i64 (IntKind.i64.wrap (((BitVec.ofInt 64 ((q / 4 : Nat) : Int) &&& BitVec.ofInt 64 (1 : Int)).toNat : Nat) : Int)) (((q / 4) % 2 : Nat) : Int) (and1 (by omega)) ?_
              refine m_if 3 ((((q / 4) % 2 : Nat) : Int) = (0 : Int)) (fun c157 => ?_) (fun c157 => ?_)
              · -- yes
                refine m_ld 3 8 ?_
                refine m_ld 0 3 ?_
                refine m_call 0 [] (join_j 3 (nodeL (getM m) 2 (q / 4)) (pathL (getM m) q 2) (by first | with_reducible assumption | omega | decide) (nodeL_ok _ _ _) (pathL_ok _ _ _)) (.cons 2 (.refl) .nil) ?_
                rintro _ _ ⟨hv158, rfl⟩
                rw [show ((.agg (hv (joinL 3 (nodeL (getM m) 2 (q / 4)) (pathL (getM m) q 2)))) : Value) = (.agg (hv (nodeL (getM m) 3 (q / 8)))) from by exact congrArg (fun l => Value.agg (hv l)) (join_l (g := getM m) (q := q) (h := 2) (n := q / 4) (n2 := q / 8) rfl rfl (by omega) (by omega))] at hv158; subst hv158
                refine m_st 0 5 ?_
                refine m_new 23 fun b159 => ?_
                refine m_st 1 0 ?_
                refine m_shr 6 .i64 (q) 3 ?_
                refine m_i 0 .i64 (IntKind.i64.wrap (((BitVec.ofInt 64 ((q / 8 : Nat) : Int) &&& BitVec.ofInt 64 (1 : Int)).toNat : Nat) : Int)) (((q / 8) % 2 : Nat) : Int) (and1 (by omega)) ?_
                refine m_if 3 ((((q / 8) % 2 : Nat) : Int) = (0 : Int)) (fun c160 => ?_) (fun c160 => ?_)
                · -- yes
                  refine m_ld 3 9 ?_
                  refine m_ld 0 3 ?_
                  refine m_call 0 [] (join_j 4 (nodeL (getM m) 3 (q / 8)) (pathL (getM m) q 3) (by first | with_reducible assumption | omega | decide) (nodeL_ok _ _ _) (pathL_ok _ _ _)) (.cons 2 (.refl) .nil) ?_
                  rintro _ _ ⟨hv161, rfl⟩
                  rw [show ((.agg (hv (joinL 4 (nodeL (getM m) 3 (q / 8)) (pathL (getM m) q 3)))) : Value) = (.agg (hv (nodeL (getM m) 4 (q / 16)))) from by exact congrArg (fun l => Value.agg (hv l)) (join_l (g := getM m) (q := q) (h := 3) (n := q / 8) (n2 := q / 16) rfl rfl (by omega) (by omega))] at hv161; subst hv161
                  refine m_st 0 6 ?_
                  refine m_ld 22 9 ?_
                  refine m_ld 0 10 ?_
                  refine m_eqs 0 false (hv (nodeL (getM m) 4 (q / 16))) (hv (nodeL (getM m) 4 0)) (nodeL (getM m) 4 (q / 16) = nodeL (getM m) 4 0) (hv_iff (nodeL_ok _ _ _).len (nodeL_ok _ _ _).len) (H32.wf (nodeL_ok _ _ _)) (H32.wf (nodeL_ok _ _ _)) (fun _ => ?_) (fun c162 => absurd (by rw [show q / 16 = 0 from by omega]) c162)
                  refine m_i64 7 (((q : Nat) : Int) + (1 : Int)) (q + 1) (by omega) ?_
                  exact m_back 2 (q + 1) [7, 7, 7] ⟨(by omega), (by omega)⟩
                · -- no
                  refine m_ld 3 3 ?_
                  refine m_ld 0 9 ?_
                  refine m_call 0 [] (join_j 4 (pathL (getM m) q 3) (nodeL (getM m) 3 (q / 8)) (by first | with_reducible assumption | omega | decide) (pathL_ok _ _ _) (nodeL_ok _ _ _)) (.cons 2 (.refl) .nil) ?_
                  rintro _ _ ⟨hv163, rfl⟩
                  rw [show ((.agg (hv (joinL 4 (pathL (getM m) q 3) (nodeL (getM m) 3 (q / 8))))) : Value) = (.agg (hv (nodeL (getM m) 4 (q / 16)))) from by exact congrArg (fun l => Value.agg (hv l)) (join_r (g := getM m) (q := q) (h := 3) (n := q / 8) (n2 := q / 16) rfl rfl (by omega) (by omega))] at hv163; subst hv163
                  refine m_st 0 6 ?_
                  refine m_ld 22 9 ?_
                  refine m_ld 0 10 ?_
                  refine m_eqs 0 false (hv (nodeL (getM m) 4 (q / 16))) (hv (nodeL (getM m) 4 0)) (nodeL (getM m) 4 (q / 16) = nodeL (getM m) 4 0) (hv_iff (nodeL_ok _ _ _).len (nodeL_ok _ _ _).len) (H32.wf (nodeL_ok _ _ _)) (H32.wf (nodeL_ok _ _ _)) (fun _ => ?_) (fun c164 => absurd (by rw [show q / 16 = 0 from by omega]) c164)
                  refine m_i64 7 (((q : Nat) : Int) + (1 : Int)) (q + 1) (by omega) ?_
                  exact m_back 2 (q + 1) [7, 7, 7] ⟨(by omega), (by omega)⟩
              · -- no
                refine m_ld 3 3 ?_
                refine m_ld 0 8 ?_
                refine m_call 0 [] (join_j 3 (pathL (getM m) q 2) (nodeL (getM m) 2 (q / 4)) (by first | with_reducible assumption | omega | decide) (pathL_ok _ _ _) (nodeL_ok _ _ _)) (.cons 2 (.refl) .nil) ?_
                rintro _ _ ⟨hv165, rfl⟩
                rw [show ((.agg (hv (joinL 3 (pathL (getM m) q 2) (nodeL (getM m) 2 (q / 4))))) : Value) = (.agg (hv (nodeL (getM m) 3 (q / 8)))) from by exact congrArg (fun l => Value.agg (hv l)) (join_r (g := getM m) (q := q) (h := 2) (n := q / 4) (n2 := q / 8) rfl rfl (by omega) (by omega))] at hv165; subst hv165
                refine m_st 0 5 ?_
                refine m_new 23 fun b166 => ?_
                refine m_st 1 0 ?_
                refine m_shr 6 .i64 (q) 3 ?_
                refine m_i 0 .i64 (IntKind.i64.wrap (((BitVec.ofInt 64 ((q / 8 : Nat) : Int) &&& BitVec.ofInt 64 (1 : Int)).toNat : Nat) : Int)) (((q / 8) % 2 : Nat) : Int) (and1 (by omega)) ?_
                refine m_if 3 ((((q / 8) % 2 : Nat) : Int) = (0 : Int)) (fun c167 => ?_) (fun c167 => ?_)
                · -- yes
                  refine m_ld 3 9 ?_
                  refine m_ld 0 3 ?_
                  refine m_call 0 [] (join_j 4 (nodeL (getM m) 3 (q / 8)) (pathL (getM m) q 3) (by first | with_reducible assumption | omega | decide) (nodeL_ok _ _ _) (pathL_ok _ _ _)) (.cons 2 (.refl) .nil) ?_
                  rintro _ _ ⟨hv168, rfl⟩
                  rw [show ((.agg (hv (joinL 4 (nodeL (getM m) 3 (q / 8)) (pathL (getM m) q 3)))) : Value) = (.agg (hv (nodeL (getM m) 4 (q / 16)))) from by exact congrArg (fun l => Value.agg (hv l)) (join_l (g := getM m) (q := q) (h := 3) (n := q / 8) (n2 := q / 16) rfl rfl (by omega) (by omega))] at hv168; subst hv168
                  refine m_st 0 6 ?_
                  refine m_ld 22 9 ?_
                  refine m_ld 0 10 ?_
                  refine m_eqs 0 false (hv (nodeL (getM m) 4 (q / 16))) (hv (nodeL (getM m) 4 0)) (nodeL (getM m) 4 (q / 16) = nodeL (getM m) 4 0) (hv_iff (nodeL_ok _ _ _).len (nodeL_ok _ _ _).len) (H32.wf (nodeL_ok _ _ _)) (H32.wf (nodeL_ok _ _ _)) (fun _ => ?_) (fun c169 => absurd (by rw [show q / 16 = 0 from by omega]) c169)
                  refine m_i64 7 (((q : Nat) : Int) + (1 : Int)) (q + 1) (by omega) ?_
                  exact m_back 2 (q + 1) [7, 7, 7] ⟨(by omega), (by omega)⟩
                · -- no
                  refine m_ld 3 3 ?_
                  refine m_ld 0 9 ?_
                  refine m_call 0 [] (join_j 4 (pathL (getM m) q 3) (nodeL (getM m) 3 (q / 8)) (by first | with_reducible assumption | omega | decide) (pathL_ok _ _ _) (nodeL_ok _ _ _)) (.cons 2 (.refl) .nil) ?_
                  rintro _ _ ⟨hv170, rfl⟩
                  rw [show ((.agg (hv (joinL 4 (pathL (getM m) q 3) (nodeL (getM m) 3 (q / 8))))) : Value) = (.agg (hv (nodeL (getM m) 4 (q / 16)))) from by exact congrArg (fun l => Value.agg (hv l)) (join_r (g := getM m) (q := q) (h := 3) (n := q / 8) (n2 := q / 16) rfl rfl (by omega) (by omega))] at hv170; subst hv170
                  refine m_st 0 6 ?_
                  refine m_ld 22 9 ?_
                  refine m_ld 0 10 ?_
                  refine m_eqs 0 false (hv (nodeL (getM m) 4 (q / 16))) (hv (nodeL (getM m) 4 0)) (nodeL (getM m) 4 (q / 16) = nodeL (getM m) 4 0) (hv_iff (nodeL_ok _ _ _).len (nodeL_ok _ _ _).len) (H32.wf (nodeL_ok _ _ _)) (H32.wf (nodeL_ok _ _ _)) (fun _ => ?_) (fun c171 => absurd (by rw [show q / 16 = 0 from by omega]) c171)
                  refine m_i64 7 (((q : Nat) : Int) + (1 : Int)) (q + 1) (by omega) ?_
                  exact m_back 2 (q + 1) [7, 7, 7] ⟨(by omega), (by omega)⟩
      · -- no
        exact m_ret 11 (.bool true) [] ⟨(rfl), by kernel_rfl⟩

end Go.Proofs.YtokdfjelilhekaaDoor
