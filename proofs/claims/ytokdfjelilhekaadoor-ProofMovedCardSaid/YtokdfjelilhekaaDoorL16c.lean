/- Layer 16's laws. -/
import Derived.Test.YtokdfjelilhekaaDoorL16s
import Derived.Test.YtokdfjelilhekaaDoorLib8
import Derived.Test.YtokdfjelilhekaaDoorLib7
namespace Go.Proofs.YtokdfjelilhekaaDoor
open Go Go.RowKit Go.Alm
set_option maxRecDepth 100000 in
set_option maxHeartbeats 4000000 in
theorem proofMoved_j (leaf : List Nat) (pl : Int) (p : Path4) (ii : Int) (jj : Int) (c : Nat) (hleaf : H32 leaf) (_hpl : -9223372036854775808 ≤ pl ∧ pl ≤ 9223372036854775807) (hp : Path4.Ok p) (hii : -9223372036854775808 ≤ ii ∧ ii ≤ 9223372036854775807) (hjj : -9223372036854775808 ≤ jj ∧ jj ≤ 9223372036854775807) (hc : c < 256) :
    Does Tryd.prog 9 #[(.agg (hv leaf)), (.int .i64 pl), (.agg (p.cells)), (.int .i64 ii), (.int .i64 jj), (.int .u8 ((c : Nat) : Int))] [(.rd (some ⟨1, 0, none⟩) ((hw KL).toList))] [] (fun v H => v = (.bool true) ∧ H = []) := by
  refine m_fn fun F => ?_
  refine m_new 2 fun b1 => ?_
  refine m_new 0 fun b2 => ?_
  refine m_call 6 [] (awake16_j) (.cons 1 (.refl) .nil) ?_
  rintro _ _ ⟨rfl, rfl⟩
  refine m_sp 11 (ii < (0 : Int)) (fun c3 => ?_) (fun c3 => ?_)
  · -- yes
    exact m_ret 30 (.bool true) [] ⟨(rfl), by kernel_rfl⟩
  · -- no
    refine m_sp 3 (ii ≥ (4 : Int)) (fun c4 => ?_) (fun c4 => ?_)
    · -- yes
      exact m_ret 26 (.bool true) [] ⟨(rfl), by kernel_rfl⟩
    · -- no
      refine m_sp 3 (jj < (0 : Int)) (fun c5 => ?_) (fun c5 => ?_)
      · -- yes
        exact m_ret 22 (.bool true) [] ⟨(rfl), by kernel_rfl⟩
      · -- no
        refine m_sp 3 (jj ≥ (32 : Int)) (fun c6 => ?_) (fun c6 => ?_)
        · -- yes
          exact m_ret 18 (.bool true) [] ⟨(rfl), by kernel_rfl⟩
        · -- no
          obtain ⟨a, ha0⟩ : ∃ a : Nat, ii = (a : Int) := ⟨ii.toNat, by omega⟩; obtain ⟨b, hb0⟩ : ∃ b : Nat, jj = (b : Int) := ⟨jj.toNat, by omega⟩; have ha4 : a < 4 := (by omega); have hb32 : b < 32 := (by omega); have hp' : Path4.Ok (p.put a ((p.at a).set b c)) := Path4.put_ok hp ⟨by rw [List.length_set]; exact (Path4.at_ok hp a).len, fun x hx => (List.mem_or_eq_of_mem_set hx).elim ((Path4.at_ok hp a).byt x) (fun e => by rw [e]; exact hc)⟩ a
          refine m_i 0 .i64 ii (a : Int) ha0 ?_
          refine m_i 0 .i64 jj (b : Int) hb0 ?_
          refine m_ixA 0 b2 0 32 4 a .i64 (by omega) ?_
          refine m_ixA 0 b2 (0 + a * 32) 1 32 b .i64 (by omega) ?_
          refine m_ldA 0 2 b2 ((0 + a * 32) + b * 1) 52 p.cells (.int .u8 (((p.at a).getD b 0 : Nat) : Int)) (p4_get (by omega) (by omega)) ?_
          refine m_if 5 ((((p.at a).getD b 0 : Nat) : Int) = ((c : Nat) : Int)) (fun c7 => ?_) (fun c7 => ?_)
          · -- yes
            exact m_ret 7 (.bool true) [] ⟨(rfl), by kernel_rfl⟩
          · -- no
            refine m_ld 4 2 ?_
            refine m_new 0 fun b8 => ?_
            refine m_st 0 0 ?_
            refine m_i 4 .i64 ii (a : Int) ha0 ?_
            refine m_i 0 .i64 jj (b : Int) hb0 ?_
            refine m_ixA 1 b8 0 32 4 a .i64 (by omega) ?_
            refine m_ixA 0 b8 (0 + a * 32) 1 32 b .i64 (by omega) ?_
            refine m_stA 0 0 b8 ((0 + a * 32) + b * 1) 52 p.cells ((p.put a ((p.at a).set b c))).cells (.int .u8 ((c : Nat) : Int)) (by rw [p4_size]; omega) (p4_put hp (by omega) (by omega)) ⟨rfl, rfl⟩ ?_
            refine m_ld 5 4 ?_
            refine m_ld 0 3 ?_
            refine m_call 0 [] (lead_j pl leaf p hleaf hp) (.cons 1 (.refl) .nil) ?_
            rintro _ _ ⟨rfl, rfl⟩
            refine m_new 3 fun b9 => ?_
            refine m_st 0 0 ?_
            refine m_ld 6 5 ?_
            refine m_ld 0 3 ?_
            refine m_call 0 [] (lead_j pl leaf (p.put a ((p.at a).set b c)) hleaf hp') (.cons 1 (.refl) .nil) ?_
            rintro _ _ ⟨rfl, rfl⟩
            refine m_new 3 fun b10 => ?_
            refine m_st 0 0 ?_
            refine m_as 8 (.bool (!decide (((pathE pl : Nat) : Int) = ((pathE pl : Nat) : Int)))) (.bool false) (by rw [decide_eq_true rfl]; rfl) ?_
            refine m_ifn 6 (((pathE pl : Nat) : Int) = (0 : Int)) (fun c11 => ?_) (fun c11 => ?_)
            · -- no
              have hpo := pathE_0 (pl := pl) (by omega)
              refine bind_var pl.toNat fun q hqn => ?_
              have hq0 : pl = (q : Int) := (by rw [hqn]; have h1 := hpo.1; omega); have hq16 : q < 16 := (by have h2 := hpo.2; omega)
              refine m_ld 5 3 ?_
              refine m_ld 0 2 ?_
              refine m_eqs 0 false (hv (leadL pl leaf p)) (hv (leadL pl leaf (p.put a ((p.at a).set b c)))) (leadL pl leaf p = leadL pl leaf (p.put a ((p.at a).set b c))) (hv_iff (leadL_ok _ _ _).len (leadL_ok _ _ _).len) (H32.wf (leadL_ok _ _ _)) (H32.wf (leadL_ok _ _ _)) (fun c12 => ?_) (fun c12 => ?_)
              · -- the same
                refine m_cut (X := Nat × Nat) 6 [1, 8, 13] (fun (x : Nat × Nat) => [(18, (.pointer (some ⟨x.1, 0, none⟩))), (19, (.pointer (some ⟨x.2, 0, none⟩)))]) (fun (x : Nat × Nat) => [(.blk b1 (hv leaf) 50), (.blk x.2 (hv leaf) 50), (.blk x.1 (hv leaf) 50), (.blk b10 (hv (leadL pl leaf (p.put a ((p.at a).set b c)))) 50), (.blk b9 (hv (leadL pl leaf p)) 50), (.blk b8 ((p.put a ((p.at a).set b c)).cells) 52), (.blk b2 (p.cells) 52)]) (fun (x : Nat × Nat) => True) ?_ (fun x u15 hx => ?_)
                · -- in each order
                  refine m_plan 0 [1, 2, 3, 4] (.q 0 true (.q 1 true (.f (.e 2 (.e 3 (.e 4 (.e 5 .n)))) (.e 3 (.e 2 (.e 4 (.e 5 .n))))))) [4] ?_
                  refine m_ld 0 2 ?_
                  refine m_ld 0 2 ?_
                  refine m_fork 0 ?_ ?_
                  · -- one of them
                    refine m_new 0 fun b16 => ?_
                    refine m_new 0 fun b17 => ?_
                    refine m_st 0 1 ?_
                    refine m_thaw 0 ?_
                    refine m_st 0 1 ?_
                    refine m_thaw 1 ?_
                    exact m_back 0 (b16, b17) [0, 0, 0, 0, 0, 0, 0] trivial
                  · -- one of them
                    refine m_new 0 fun b18 => ?_
                    refine m_new 0 fun b19 => ?_
                    refine m_st 0 0 ?_
                    refine m_thaw 0 ?_
                    refine m_st 0 2 ?_
                    refine m_thaw 1 ?_
                    exact m_back 0 (b19, b18) [0, 1, 0, 0, 0, 0, 0] trivial
                · -- behind it
                  obtain ⟨b13, b14⟩ := x; try dsimp only at hx
                  refine m_loop (X := Nat) 8 [1, 8, 13, 18, 19] (fun (x : Nat) => [(88, (.int .i64 ((x : Nat) : Int)))]) [2, 1] (fun (x : Nat) => [(.blk b13 (hv (upN q leaf p x)) 50), (.blk b14 (hv (upN q leaf (p.put a ((p.at a).set b c)) x)) 50)]) (fun (x : Nat) => (x ≤ 4) ∧ (NoHit q leaf p (p.put a ((p.at a).set b c)) x)) (fun (x : Nat) => 4 - x) 0 (⟨by omega, NoHit.start _ _ _ _⟩) (fun i u20 hx => ?_)
                  obtain ⟨hi, hno⟩ := hx
                  have hdv : dv q i < 16 := Nat.lt_of_le_of_lt (Nat.div_le_self _ _) hq16
                  refine m_if 6 (((i : Nat) : Int) < (4 : Int)) (fun c21 => ?_) (fun c21 => ?_)
                  · -- yes
                    refine m_cut (X := Nat × Nat) 11 [1, 8, 13, 18, 19, 20, 88] (fun (x : Nat × Nat) => [(21, (.pointer (some ⟨x.1, 0, none⟩))), (22, (.pointer (some ⟨x.2, 0, none⟩)))]) (fun (x : Nat × Nat) => [(.blk b13 (hv (upN q leaf p i)) 50), (.blk b14 (hv (upN q leaf (p.put a ((p.at a).set b c)) i)) 50), (.blk x.2 (hv (upN q leaf (p.put a ((p.at a).set b c)) i)) 50), (.blk x.1 (hv (upN q leaf p i)) 50), (.blk b1 (hv leaf) 50), (.blk b10 (hv (leadL pl leaf (p.put a ((p.at a).set b c)))) 50), (.blk b9 (hv (leadL pl leaf p)) 50), (.blk b8 ((p.put a ((p.at a).set b c)).cells) 52), (.blk b2 (p.cells) 52)]) (fun (x : Nat × Nat) => True) ?_ (fun x u24 hx => ?_)
                    · -- in each order
                      refine m_plan 0 [1, 2, 3, 4] (.q 0 true (.q 1 true (.f (.e 2 (.e 3 (.e 4 (.e 5 .n)))) (.e 3 (.e 2 (.e 4 (.e 5 .n))))))) [0, 0] ?_
                      refine m_ld 0 2 ?_
                      refine m_ld 0 3 ?_
                      refine m_fork 0 ?_ ?_
                      · -- one of them
                        refine m_new 0 fun b25 => ?_
                        refine m_new 0 fun b26 => ?_
                        refine m_st 0 1 ?_
                        refine m_thaw 0 ?_
                        refine m_st 0 2 ?_
                        refine m_thaw 1 ?_
                        exact m_back 0 (b25, b26) [0, 0, 0, 0, 0, 0, 0, 0, 0] trivial
                      · -- one of them
                        refine m_new 0 fun b27 => ?_
                        refine m_new 0 fun b28 => ?_
                        refine m_st 0 0 ?_
                        refine m_thaw 0 ?_
                        refine m_st 0 3 ?_
                        refine m_thaw 1 ?_
                        exact m_back 0 (b28, b27) [0, 0, 1, 0, 0, 0, 0, 0, 0] trivial
                    · -- behind it
                      obtain ⟨b22, b23⟩ := x; try dsimp only at hx
                      refine m_i 4 .i64 pl (q : Int) hq0 ?_
                      refine m_shrv 1 .i64 .i64 (q) (i) (by omega) (by omega) ?_
                      refine m_i 0 .i64 (IntKind.i64.wrap (((BitVec.ofInt 64 ((dv q i : Nat) : Int) &&& BitVec.ofInt 64 (1 : Int)).toNat : Nat) : Int)) (((dv q i) % 2 : Nat) : Int) (and1 (by omega)) ?_
                      refine m_if 3 ((((dv q i) % 2 : Nat) : Int) = (0 : Int)) (fun c29 => ?_) (fun c29 => ?_)
                      · -- yes
                        refine m_plan 0 [3, 4, 5, 6, 7, 8, 9, 10, 11, 12] (.q 0 false (.q 1 false (.q 2 true (.q 3 false (.q 4 false (.q 5 true (.q 7 false (.q 8 false (.q 9 true (.q 10 false (.q 11 false (.q 12 true (.e 6 (.e 13 (.e 14 (.e 15 .n)))))))))))))))) [0, 7, 0, 5] ?_
                        refine m_i64 1 (((i : Nat) : Int) + (1 : Int)) (i + 1) (by omega) ?_
                        refine m_ld 0 2 ?_
                        refine m_ixA 1 b2 0 32 4 i .i64 (by omega) ?_
                        refine m_ldX 0 3 b2 (0 + i * 32) 52 32 p.cells (hv (p.at i)) (by rw [p4_size]; omega) (ext4 (by omega)) ?_
                        refine m_i64 1 (((i : Nat) : Int) + (1 : Int)) (i + 1) (by omega) ?_
                        refine m_ld 0 4 ?_
                        refine m_ixA 1 b8 0 32 4 i .i64 (by omega) ?_
                        refine m_ldX 0 5 b8 (0 + i * 32) 52 32 (p.put a ((p.at a).set b c)).cells (hv ((p.put a ((p.at a).set b c)).at i)) (by rw [p4_size]; omega) (ext4 (by omega)) ?_
                        refine m_call 0 [] (join_j (i + 1) (upN q leaf p i) (p.at i) (by first | with_reducible assumption | omega | decide) (upN_ok hleaf _) (Path4.at_ok hp _)) (.cons 1 (.refl) .nil) ?_
                        rintro _ _ ⟨hv30, rfl⟩
                        rw [show ((.agg (hv (joinL (i + 1) (upN q leaf p i) (p.at i)))) : Value) = (.agg (hv (upN q leaf p (i + 1)))) from by show _ = Value.agg (hv (up q i (upN q leaf p i) (Path4.at p i))); rw [up_0 (q := q) (h := i) (by simp only [dv] at *; omega)]] at hv30; subst hv30
                        refine m_thaw 0 ?_
                        refine m_call 0 [] (join_j (i + 1) (upN q leaf (p.put a ((p.at a).set b c)) i) ((p.put a ((p.at a).set b c)).at i) (by first | with_reducible assumption | omega | decide) (upN_ok hleaf _) (Path4.at_ok hp' _)) (.cons 1 (.refl) .nil) ?_
                        rintro _ _ ⟨hv31, rfl⟩
                        rw [show ((.agg (hv (joinL (i + 1) (upN q leaf (p.put a ((p.at a).set b c)) i) ((p.put a ((p.at a).set b c)).at i)))) : Value) = (.agg (hv (upN q leaf (p.put a ((p.at a).set b c)) (i + 1)))) from by show _ = Value.agg (hv (up q i (upN q leaf (p.put a ((p.at a).set b c)) i) (Path4.at (p.put a ((p.at a).set b c)) i))); rw [up_0 (q := q) (h := i) (by simp only [dv] at *; omega)]] at hv31; subst hv31
                        refine m_st 0 0 ?_
                        refine m_st 0 2 ?_
                        refine m_thaw 1 ?_
                        refine m_plan 2 [1, 5, 11, 12, 13] (.q 0 true (.q 1 true (.q 2 false (.q 3 false (.q 4 true (.q 5 true (.q 6 false (.q 7 false (.q 8 false (.q 9 false (.q 10 true (.q 11 false (.q 12 false (.q 13 true (.q 14 false (.q 15 false (.q 16 false .n))))))))))))))))) [0, 1, 3, 2, 0, 0] ?_
                        refine m_ld 0 2 ?_
                        refine m_ld 0 3 ?_
                        refine m_eqs 0 true (hv (upN q leaf p (i + 1))) (hv (upN q leaf (p.put a ((p.at a).set b c)) (i + 1))) (upN q leaf p (i + 1) = upN q leaf (p.put a ((p.at a).set b c)) (i + 1)) (hv_iff (upN_ok hleaf _).len (upN_ok hleaf _).len) (H32.wf (upN_ok hleaf _)) (H32.wf (upN_ok hleaf _)) (fun c32 => ?_) (fun c32 => ?_)
                        · -- the same
                          refine m_ld 1 4 ?_
                          refine m_ld 0 5 ?_
                          refine m_eqs 0 false (hv (upN q leaf p i)) (hv (upN q leaf (p.put a ((p.at a).set b c)) i)) (upN q leaf p i = upN q leaf (p.put a ((p.at a).set b c)) i) (hv_iff (upN_ok hleaf _).len (upN_ok hleaf _).len) (H32.wf (upN_ok hleaf _)) (H32.wf (upN_ok hleaf _)) (fun c33 => ?_) (fun c33 => ?_)
                          · -- the same
                            refine m_ixA 2 b2 0 32 4 i .i64 (by omega) ?_
                            refine m_ldX 0 6 b2 (0 + i * 32) 52 32 p.cells (hv (p.at i)) (by rw [p4_size]; omega) (ext4 (by omega)) ?_
                            refine m_ixA 1 b8 0 32 4 i .i64 (by omega) ?_
                            refine m_ldX 0 7 b8 (0 + i * 32) 52 32 (p.put a ((p.at a).set b c)).cells (hv ((p.put a ((p.at a).set b c)).at i)) (by rw [p4_size]; omega) (ext4 (by omega)) ?_
                            refine m_eqs 0 false (hv (p.at i)) (hv ((p.put a ((p.at a).set b c)).at i)) (p.at i = (p.put a ((p.at a).set b c)).at i) (hv_iff (Path4.at_ok hp _).len (Path4.at_ok hp' _).len) (H32.wf (Path4.at_ok hp _)) (H32.wf (Path4.at_ok hp' _)) (fun c34 => ?_) (fun c34 => ?_)
                            · -- the same
                              refine m_thaw 3 ?_
                              refine m_i64 6 (((i : Nat) : Int) + (1 : Int)) (i + 1) (by omega) ?_
                              exact m_back 2 (i + 1) [0, 0, 4, 4, 4, 3, 2] ⟨⟨(by omega), hno.step (fun _ => ⟨c33, c34⟩)⟩, (by omega)⟩
                            · -- not the same
                              refine m_thaw 3 ?_
                              exact m_ret 13 (.bool true) [] ⟨(rfl), by kernel_rfl⟩
                          · -- not the same
                            refine m_thaw 11 ?_
                            exact m_ret 13 (.bool true) [] ⟨(rfl), by kernel_rfl⟩
                        · -- not the same
                          refine m_thaw 15 ?_
                          refine m_i64 6 (((i : Nat) : Int) + (1 : Int)) (i + 1) (by omega) ?_
                          exact m_back 2 (i + 1) [0, 0, 4, 4, 4, 3, 2] ⟨⟨(by omega), hno.step (fun e => absurd e c32)⟩, (by omega)⟩
                      · -- no
                        refine m_plan 0 [5, 6, 7, 8, 9, 10, 11, 12] (.q 0 false (.q 1 false (.q 2 false (.q 3 false (.q 4 true (.q 5 true (.q 7 false (.q 8 false (.q 9 false (.q 10 false (.q 11 true (.q 12 true (.e 6 (.e 13 (.e 14 (.e 15 .n)))))))))))))))) [8, 0, 6, 0] ?_
                        refine m_i64 1 (((i : Nat) : Int) + (1 : Int)) (i + 1) (by omega) ?_
                        refine m_ixA 1 b2 0 32 4 i .i64 (by omega) ?_
                        refine m_ldX 0 2 b2 (0 + i * 32) 52 32 p.cells (hv (p.at i)) (by rw [p4_size]; omega) (ext4 (by omega)) ?_
                        refine m_ld 0 3 ?_
                        refine m_i64 1 (((i : Nat) : Int) + (1 : Int)) (i + 1) (by omega) ?_
                        refine m_ixA 1 b8 0 32 4 i .i64 (by omega) ?_
                        refine m_ldX 0 4 b8 (0 + i * 32) 52 32 (p.put a ((p.at a).set b c)).cells (hv ((p.put a ((p.at a).set b c)).at i)) (by rw [p4_size]; omega) (ext4 (by omega)) ?_
                        refine m_ld 0 5 ?_
                        refine m_call 0 [] (join_j (i + 1) (p.at i) (upN q leaf p i) (by first | with_reducible assumption | omega | decide) (Path4.at_ok hp _) (upN_ok hleaf _)) (.cons 1 (.refl) .nil) ?_
                        rintro _ _ ⟨hv35, rfl⟩
                        rw [show ((.agg (hv (joinL (i + 1) (p.at i) (upN q leaf p i)))) : Value) = (.agg (hv (upN q leaf p (i + 1)))) from by show _ = Value.agg (hv (up q i (upN q leaf p i) (Path4.at p i))); rw [up_1 (q := q) (h := i) (by simp only [dv] at *; omega)]] at hv35; subst hv35
                        refine m_thaw 0 ?_
                        refine m_call 0 [] (join_j (i + 1) ((p.put a ((p.at a).set b c)).at i) (upN q leaf (p.put a ((p.at a).set b c)) i) (by first | with_reducible assumption | omega | decide) (Path4.at_ok hp' _) (upN_ok hleaf _)) (.cons 1 (.refl) .nil) ?_
                        rintro _ _ ⟨hv36, rfl⟩
                        rw [show ((.agg (hv (joinL (i + 1) ((p.put a ((p.at a).set b c)).at i) (upN q leaf (p.put a ((p.at a).set b c)) i)))) : Value) = (.agg (hv (upN q leaf (p.put a ((p.at a).set b c)) (i + 1)))) from by show _ = Value.agg (hv (up q i (upN q leaf (p.put a ((p.at a).set b c)) i) (Path4.at (p.put a ((p.at a).set b c)) i))); rw [up_1 (q := q) (h := i) (by simp only [dv] at *; omega)]] at hv36; subst hv36
                        refine m_st 0 1 ?_
                        refine m_st 0 3 ?_
                        refine m_thaw 1 ?_
                        refine m_plan 2 [1, 5, 11, 12, 13] (.q 0 true (.q 1 true (.q 2 false (.q 3 false (.q 4 true (.q 5 true (.q 6 false (.q 7 false (.q 8 false (.q 9 false (.q 10 true (.q 11 false (.q 12 false (.q 13 true (.q 14 false (.q 15 false (.q 16 false .n))))))))))))))))) [1, 2, 3, 2, 0, 0] ?_
                        refine m_ld 0 2 ?_
                        refine m_ld 0 3 ?_
                        refine m_eqs 0 true (hv (upN q leaf p (i + 1))) (hv (upN q leaf (p.put a ((p.at a).set b c)) (i + 1))) (upN q leaf p (i + 1) = upN q leaf (p.put a ((p.at a).set b c)) (i + 1)) (hv_iff (upN_ok hleaf _).len (upN_ok hleaf _).len) (H32.wf (upN_ok hleaf _)) (H32.wf (upN_ok hleaf _)) (fun c37 => ?_) (fun c37 => ?_)
                        · -- the same
                          refine m_ld 1 4 ?_
                          refine m_ld 0 5 ?_
                          refine m_eqs 0 false (hv (upN q leaf p i)) (hv (upN q leaf (p.put a ((p.at a).set b c)) i)) (upN q leaf p i = upN q leaf (p.put a ((p.at a).set b c)) i) (hv_iff (upN_ok hleaf _).len (upN_ok hleaf _).len) (H32.wf (upN_ok hleaf _)) (H32.wf (upN_ok hleaf _)) (fun c38 => ?_) (fun c38 => ?_)
                          · -- the same
                            refine m_ixA 2 b2 0 32 4 i .i64 (by omega) ?_
                            refine m_ldX 0 6 b2 (0 + i * 32) 52 32 p.cells (hv (p.at i)) (by rw [p4_size]; omega) (ext4 (by omega)) ?_
                            refine m_ixA 1 b8 0 32 4 i .i64 (by omega) ?_
                            refine m_ldX 0 7 b8 (0 + i * 32) 52 32 (p.put a ((p.at a).set b c)).cells (hv ((p.put a ((p.at a).set b c)).at i)) (by rw [p4_size]; omega) (ext4 (by omega)) ?_
                            refine m_eqs 0 false (hv (p.at i)) (hv ((p.put a ((p.at a).set b c)).at i)) (p.at i = (p.put a ((p.at a).set b c)).at i) (hv_iff (Path4.at_ok hp _).len (Path4.at_ok hp' _).len) (H32.wf (Path4.at_ok hp _)) (H32.wf (Path4.at_ok hp' _)) (fun c39 => ?_) (fun c39 => ?_)
                            · -- the same
                              refine m_thaw 3 ?_
                              refine m_i64 6 (((i : Nat) : Int) + (1 : Int)) (i + 1) (by omega) ?_
                              exact m_back 2 (i + 1) [0, 0, 4, 4, 4, 3, 2] ⟨⟨(by omega), hno.step (fun _ => ⟨c38, c39⟩)⟩, (by omega)⟩
                            · -- not the same
                              refine m_thaw 3 ?_
                              exact m_ret 13 (.bool true) [] ⟨(rfl), by kernel_rfl⟩
                          · -- not the same
                            refine m_thaw 11 ?_
                            exact m_ret 13 (.bool true) [] ⟨(rfl), by kernel_rfl⟩
                        · -- not the same
                          refine m_thaw 15 ?_
                          refine m_i64 6 (((i : Nat) : Int) + (1 : Int)) (i + 1) (by omega) ?_
                          exact m_back 2 (i + 1) [0, 0, 4, 4, 4, 3, 2] ⟨⟨(by omega), hno.step (fun e => absurd e c37)⟩, (by omega)⟩
                  · -- no
                    exact m_ret 11 (.bool false) [] ⟨(by exfalso; have e := c12; rw [leadL_yes hq0 hq16, leadL_yes hq0 hq16, leadN_up, leadN_up] at e; rw [show i = 4 from by omega] at hno; have e2 := hno.same e a ha4; rw [at_put ha4] at e2; exact set_other (by rw [(Path4.at_ok hp a).len]; exact hb32) (fun e3 => c7 (by rw [e3])) e2), by kernel_rfl⟩
              · -- not the same
                exact m_ret 10 (.bool true) [] ⟨(rfl), by kernel_rfl⟩
            · -- yes
              refine m_as 4 (.bool (decide (((pathE pl : Nat) : Int) = ((pathE pl : Nat) : Int)))) (.bool true) (by rw [decide_eq_true rfl]) ?_
              refine m_ld 1 3 ?_
              refine m_ld 0 2 ?_
              refine m_eqs 0 true (hv (leadL pl leaf p)) (hv (leadL pl leaf (p.put a ((p.at a).set b c)))) (leadL pl leaf p = leadL pl leaf (p.put a ((p.at a).set b c))) (hv_iff (leadL_ok _ _ _).len (leadL_ok _ _ _).len) (H32.wf (leadL_ok _ _ _)) (H32.wf (leadL_ok _ _ _)) (fun _ => ?_) (fun c40 => absurd (by rw [leadL_no (pathE_1 (by omega)), leadL_no (pathE_1 (by omega))]) c40)
              exact m_ret 6 (.bool true) [] ⟨(rfl), by kernel_rfl⟩

end Go.Proofs.YtokdfjelilhekaaDoor
