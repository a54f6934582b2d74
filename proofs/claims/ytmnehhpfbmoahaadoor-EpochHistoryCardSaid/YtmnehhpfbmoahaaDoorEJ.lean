/- Layer 8's laws. -/
import Derived.Test.YtmnehhpfbmoahaaDoorNJ
import Derived.Test.YtmnehhpfbmoahaaDoorLib7
import Derived.Test.YtmnehhpfbmoahaaDoorLib6
namespace Go.Proofs.YtmnehhpfbmoahaaDoor
open Go Go.RowKit Go.Alm
set_option maxRecDepth 100000 in
theorem own8_j (p : EPair) (hp : EPair.Ok p) :
    Does Tryd.prog 24 #[(.agg (p.cells))] [] [] (fun v H => v = (.agg (p.cells)) ∧ H = []) := by
  have hhp_now_len := hp.now.len; have hhp_next_len := hp.next.len
  refine m_fn fun F => ?_
  refine m_new 2 fun b1 => ?_
  refine m_new 0 fun b2 => ?_
  refine m_ld 5 2 ?_
  refine m_ld 1 2 ?_
  refine m_st 1 0 ?_
  exact m_retC 3 [1] (.agg (p.cells)) [] ⟨(rfl), by kernel_rfl⟩

theorem awk8 : (.tuple #[.agg (folP (pairF (hlit 1)) (⟨0, 25, hlit 2, hlit 1, hlit 3⟩ : EBlk)).cells, .int .i64 ((folE (pairF (hlit 1)) (⟨0, 25, hlit 2, hlit 1, hlit 3⟩ : EBlk) : Nat) : Int)] : Value) = .tuple #[.agg (EPair.cells ⟨dataF (hlit 1), ⟨hlit 1, seedL Z32 (hlit 3), hlit 2, hlit 2, 1⟩⟩), .int .i64 0] := by
  kernel_rfl
theorem awk8' : (.tuple #[.agg (folP (pairF (hlit 1)) (⟨5, 5, Z32, Z32, Z32⟩ : EBlk)).cells, .int .i64 ((folE (pairF (hlit 1)) (⟨5, 5, Z32, Z32, Z32⟩ : EBlk) : Nat) : Int)] : Value) = .tuple #[.agg pair0.cells, .int .i64 6] := by
  kernel_rfl

set_option maxRecDepth 100000 in
theorem awake8_j :
    Does Tryd.prog 21 #[] [(.rd (some ⟨0, 0, none⟩) ((hw KL).toList)), (.rd (some ⟨1, 0, none⟩) ((hw KL).toList))] [] (fun v H => v = (.bool true) ∧ H = []) := by
  refine m_fn fun F => ?_
  refine m_new 9 fun b1 => ?_
  refine m_new 0 fun b2 => ?_
  refine m_st 0 1 ?_
  refine m_st 0 0 ?_
  refine m_ld 4 4 ?_
  refine m_call 0 [] (efirst_j (hlit 1) (hlit_ok (n := 1) (by decide))) .nil ?_
  rintro _ _ ⟨rfl, rfl⟩
  refine m_new 0 fun b3 => ?_
  refine m_st 0 0 ?_
  refine m_ld 4 3 ?_
  refine m_ld 0 4 ?_
  refine m_ld 0 5 ?_
  refine m_call 2 [] (efollow_j (pairF (hlit 1)) (⟨0, 25, (hlit 2), (hlit 1), (hlit 3)⟩ : EBlk) (pairF_ok (hlit_ok (n := 1) (by decide))) ⟨(by first | omega | decide | exact nar_lt _ | with_reducible assumption | (dsimp only; first | omega | exact nar_lt _)), (by first | omega | decide | exact nar_lt _ | with_reducible assumption | (dsimp only; first | omega | exact nar_lt _)), (hlit_ok (n := 2) (by decide)), (hlit_ok (n := 1) (by decide)), (hlit_ok (n := 3) (by decide))⟩) (.cons 2 (.refl) .nil) ?_
  rintro _ _ ⟨hv4, rfl⟩
  rw [show ((.tuple #[(.agg ((folP (pairF (hlit 1)) (⟨0, 25, (hlit 2), (hlit 1), (hlit 3)⟩ : EBlk)).cells)), (.int .i64 ((folE (pairF (hlit 1)) (⟨0, 25, (hlit 2), (hlit 1), (hlit 3)⟩ : EBlk) : Nat) : Int))]) : Value) = (.tuple #[(.agg ((⟨dataF (hlit 1), ⟨hlit 1, seedL Z32 (hlit 3), hlit 2, hlit 2, 1⟩⟩ : EPair).cells)), (.int .i64 0)]) from awk8] at hv4; subst hv4
  refine m_new 3 fun b5 => ?_
  refine m_st 0 0 ?_
  refine m_ld 5 4 ?_
  refine m_call 1 [] (efollow_j (pairF (hlit 1)) (⟨5, 5, Z32, Z32, Z32⟩ : EBlk) (pairF_ok (hlit_ok (n := 1) (by decide))) ⟨(by first | omega | decide | exact nar_lt _ | with_reducible assumption | (dsimp only; first | omega | exact nar_lt _)), (by first | omega | decide | exact nar_lt _ | with_reducible assumption | (dsimp only; first | omega | exact nar_lt _)), H32.zero, H32.zero, H32.zero⟩) (.cons 2 (.refl) .nil) ?_
  rintro _ _ ⟨hv6, rfl⟩
  rw [show ((.tuple #[(.agg ((folP (pairF (hlit 1)) (⟨5, 5, Z32, Z32, Z32⟩ : EBlk)).cells)), (.int .i64 ((folE (pairF (hlit 1)) (⟨5, 5, Z32, Z32, Z32⟩ : EBlk) : Nat) : Int))]) : Value) = (.tuple #[(.agg (pair0.cells)), (.int .i64 6)]) from awk8'] at hv6; subst hv6
  refine m_new 3 fun b7 => ?_
  refine m_st 0 0 ?_
  refine m_plan 4 [3, 14, 15, 26, 33, 45, 46, 50, 51, 52, 53, 54, 55, 56, 57, 58, 59, 60, 61] (.q 0 false (.q 1 false (.q 2 true (.q 3 true (.q 4 false (.q 5 false (.q 6 false (.q 7 false (.q 8 true (.q 9 false (.q 10 false (.q 11 false (.q 12 false (.q 13 true (.q 14 false (.q 15 true (.q 16 false (.q 17 false (.q 18 false (.q 19 false (.q 20 false (.q 21 false (.q 22 false (.q 23 false (.q 24 false (.q 25 true (.q 26 true (.q 27 false (.q 28 false (.q 29 false (.q 30 false (.q 31 false (.q 32 true (.q 33 true (.q 34 false (.q 35 false (.q 36 false (.q 37 false (.q 38 false (.q 39 true (.q 40 false (.q 41 false (.q 42 false (.q 43 false (.q 44 true (.q 45 false (.q 46 true (.q 47 false (.q 48 false (.q 49 false (.q 50 false (.q 51 false (.q 52 true (.q 53 false (.q 54 false (.e 55 (.q 56 false (.q 57 false (.q 58 false (.q 59 false (.q 60 false (.q 61 false (.q 62 false .n))))))))))))))))))))))))))))))))))))))))))))))))))))))))))))))) [2, 3, 1, 1] ?_
  refine m_ld 2 3 ?_
  refine m_ld 0 4 ?_
  refine m_eqs 0 true (hv (((pairF (hlit 1)).now).led)) (hv (hlit 1)) (((pairF (hlit 1)).now).led = (hlit 1)) (hv_iff (((pairF_ok (hlit_ok (n := 1) (by decide))).now).led).len (hlit_ok (n := 1) (by decide)).len) (H32.wf (((pairF_ok (hlit_ok (n := 1) (by decide))).now).led)) (H32.wf (hlit_ok (n := 1) (by decide))) (fun _ => ?_) (fun c8 => absurd (rfl) c8)
  refine m_ld 3 3 ?_
  refine m_sp 2 (((((pairF (hlit 1)).now).len : Nat) : Int) = (1 : Int)) (fun c9 => ?_) (fun c9 => absurd (rfl) c9)
  refine m_ld 1 3 ?_
  refine m_ld 1 3 ?_
  refine m_eqs 0 true (((pairF (hlit 1)).next).cells) (((pairF (hlit 1)).now).cells) ((pairF (hlit 1)).next = (pairF (hlit 1)).now) (EData.inj ((pairF_ok (hlit_ok (n := 1) (by decide))).next) ((pairF_ok (hlit_ok (n := 1) (by decide))).now)) (EData.wf ((pairF_ok (hlit_ok (n := 1) (by decide))).next)) (EData.wf ((pairF_ok (hlit_ok (n := 1) (by decide))).now)) (fun _ => ?_) (fun c10 => absurd (rfl) c10)
  refine m_ld 8 5 ?_
  refine m_ld 0 6 ?_
  refine m_eqs 0 true (hv (hlit 2)) (hv (hlit 2)) (hlit 2 = (hlit 2)) (hv_iff (hlit_ok (n := 2) (by decide)).len (hlit_ok (n := 2) (by decide)).len) (H32.wf (hlit_ok (n := 2) (by decide))) (H32.wf (hlit_ok (n := 2) (by decide))) (fun _ => ?_) (fun c11 => absurd (rfl) c11)
  refine m_ld 4 5 ?_
  refine m_ld 0 6 ?_
  refine m_eqs 0 true (hv (hlit 2)) (hv (hlit 2)) (hlit 2 = (hlit 2)) (hv_iff (hlit_ok (n := 2) (by decide)).len (hlit_ok (n := 2) (by decide)).len) (H32.wf (hlit_ok (n := 2) (by decide))) (H32.wf (hlit_ok (n := 2) (by decide))) (fun _ => ?_) (fun c12 => absurd (rfl) c12)
  refine m_ld 4 5 ?_
  refine m_ld 4 5 ?_
  refine m_ld 1 3 ?_
  refine m_eqs 0 true ((dataF (hlit 1)).cells) (((pairF (hlit 1)).next).cells) (dataF (hlit 1) = (pairF (hlit 1)).next) (EData.inj (dataF_ok (hlit_ok (n := 1) (by decide))) ((pairF_ok (hlit_ok (n := 1) (by decide))).next)) (EData.wf (dataF_ok (hlit_ok (n := 1) (by decide)))) (EData.wf ((pairF_ok (hlit_ok (n := 1) (by decide))).next)) (fun _ => ?_) (fun c13 => absurd (rfl) c13)
  refine m_ld 4 5 ?_
  refine m_call 2 [] (rseed_j Z32 (hlit 3) H32.zero (hlit_ok (n := 3) (by decide))) (.cons 1 (.refl) .nil) ?_
  rintro _ _ ⟨rfl, rfl⟩
  refine m_eqT 0 true (hv (seedL Z32 (hlit 3))) (H32.wf (seedL_ok _ _)) ?_
  refine m_thaw 7 ?_
  exact m_ret 2 (.bool true) [] ⟨(rfl), by kernel_rfl⟩

set_option maxRecDepth 100000 in
theorem epochTells_j (p : EPair) (b : EBlk) (led : List Nat) (hp : EPair.Ok p) (hb : EBlk.Ok b) (hl : H32 led) :
    Does Tryd.prog 3 #[(.agg (p.cells)), (.agg (b.cells)), (.agg (hv led))] [(.rd (some ⟨0, 0, none⟩) ((hw KL).toList)), (.rd (some ⟨1, 0, none⟩) ((hw KL).toList))] [] (fun v H => v = (.bool true) ∧ H = []) := by
  have hhp_now_len := hp.now.len; have hhp_next_len := hp.next.len; have hhb_frm := hb.frm; have hhb_till := hb.till
  refine m_fn fun F => ?_
  refine m_new 2 fun b1 => ?_
  refine m_new 0 fun b2 => ?_
  refine m_new 0 fun b3 => ?_
  refine m_call 6 [] (awake8_j) (.cons 1 (.refl) (.cons 2 (.refl) .nil)) ?_
  rintro _ _ ⟨rfl, rfl⟩
  refine m_ld 8 5 ?_
  refine m_ld 0 4 ?_
  refine m_call 0 [] (efollow_j p b hp hb) (.cons 2 (.refl) .nil) ?_
  rintro _ _ ⟨rfl, rfl⟩
  refine m_new 3 fun b4 => ?_
  refine m_st 0 0 ?_
  refine m_cut (X := Nat) 4 [5, 7, 8] (fun (x : Nat) => [(9, (.pointer (some ⟨x, 0, none⟩))), (10, (.int .i64 ((folE p b : Nat) : Int)))]) (fun (x : Nat) => [(.blk b1 (p.cells) 28), (.blk b2 (b.cells) 30), (.blk x ((folP p b).cells) 37), (.blk b4 ((folP p b).cells) 28), (.blk b3 (hv led) 23)]) (fun (x : Nat) => True) ?_ (fun x u6 hx => ?_)
  · -- in each order
    refine m_plan 0 [1, 2, 7] (.q 0 true (.q 2 true (.f (.e 1 (.f (.e 3 (.q 4 false (.q 5 false (.q 6 false (.e 7 (.e 8 (.q 9 false .n))))))) (.e 7 (.e 3 (.q 4 false (.q 5 false (.q 6 false (.e 8 (.q 9 false .n))))))))) (.e 7 (.e 1 (.e 3 (.q 4 false (.q 5 false (.q 6 false (.e 8 (.q 9 false .n))))))))))) [3, 2] ?_
    refine m_ld 0 3 ?_
    refine m_ld 0 4 ?_
    refine m_fork 0 ?_ ?_
    · -- one of them
      refine m_call 0 [] (own8_j p hp) .nil ?_
      rintro _ _ ⟨rfl, rfl⟩
      refine m_fork 0 ?_ ?_
      · -- one of them
        refine m_call 0 [] (refollow_j p b hp hb) (.cons 1 (.refl) .nil) ?_
        rintro _ _ ⟨rfl, rfl⟩
        refine m_new 3 fun b7 => ?_
        refine m_thaw 0 ?_
        refine m_st 0 2 ?_
        refine m_thaw 2 ?_
        exact m_back 0 b7 [0, 0, 0, 0, 0] trivial
      · -- one of them
        refine m_new 0 fun b8 => ?_
        refine m_thaw 0 ?_
        refine m_call 0 [] (refollow_j p b hp hb) (.cons 1 (.refl) .nil) ?_
        rintro _ _ ⟨rfl, rfl⟩
        refine m_st 3 2 ?_
        refine m_thaw 2 ?_
        exact m_back 0 b8 [0, 0, 0, 0, 0] trivial
    · -- one of them
      refine m_new 0 fun b9 => ?_
      refine m_call 0 [] (own8_j p hp) .nil ?_
      rintro _ _ ⟨rfl, rfl⟩
      refine m_thaw 0 ?_
      refine m_call 0 [] (refollow_j p b hp hb) (.cons 1 (.refl) .nil) ?_
      rintro _ _ ⟨rfl, rfl⟩
      refine m_st 3 2 ?_
      refine m_thaw 2 ?_
      exact m_back 0 b9 [0, 0, 0, 0, 0] trivial
  · -- behind it
    obtain ⟨b5, rfl⟩ : ∃ y, y = x := ⟨x, rfl⟩
    refine m_plan 2 [1, 2, 3, 8, 9] (.q 0 true (.q 3 true (.e 1 (.e 2 (.e 4 (.q 5 false (.q 6 false (.q 7 true (.q 9 true (.e 8 (.q 10 false (.q 11 false (.q 12 false (.q 13 false (.q 14 false (.q 15 false (.q 16 false (.q 17 false .n)))))))))))))))))) [4, 3, 2] ?_
    refine m_ld 0 3 ?_
    refine m_ld 0 3 ?_
    refine m_call 0 [] (efirst_j led hl) .nil ?_
    rintro _ _ ⟨rfl, rfl⟩
    refine m_call 0 [] (own8_j (pairF led) (pairF_ok hl)) .nil ?_
    rintro _ _ ⟨rfl, rfl⟩
    refine m_call 0 [] (refirst_j led hl) .nil ?_
    rintro _ _ ⟨rfl, rfl⟩
    refine m_eqT 0 true ((pairF led).cells) (EPair.wf (pairF_ok hl)) ?_
    refine m_ld 1 4 ?_
    refine m_ld 0 5 ?_
    refine m_call 0 [] (own8_j (folP p b) (folP_ok (p := p) (b := b) hp hb)) .nil ?_
    rintro _ _ ⟨rfl, rfl⟩
    refine m_eqT 0 true ((folP p b).cells) (EPair.wf (folP_ok (p := p) (b := b) hp hb)) ?_
    refine m_as 4 (.bool (decide (((folE p b : Nat) : Int) = ((folE p b : Nat) : Int)))) (.bool true) (by rw [decide_eq_true rfl]) ?_
    refine m_thaw 3 ?_
    exact m_ret 2 (.bool true) [] ⟨(rfl), by kernel_rfl⟩

set_option maxRecDepth 100000 in
theorem epochDraws_j (p : EPair) (b : EBlk) (o : List Nat) (hp : EPair.Ok p) (hb : EBlk.Ok b) (ho : H32 o) :
    Does Tryd.prog 5 #[(.agg (p.cells)), (.agg (b.cells)), (.agg (hv o))] [(.rd (some ⟨0, 0, none⟩) ((hw KL).toList)), (.rd (some ⟨1, 0, none⟩) ((hw KL).toList))] [] (fun v H => v = (.bool true) ∧ H = []) := by
  have hhp_now_len := hp.now.len; have hhp_next_len := hp.next.len; have hhb_frm := hb.frm; have hhb_till := hb.till
  refine m_fn fun F => ?_
  refine m_new 2 fun b1 => ?_
  refine m_new 0 fun b2 => ?_
  refine m_new 0 fun b3 => ?_
  refine m_call 6 [] (awake8_j) (.cons 1 (.refl) (.cons 2 (.refl) .nil)) ?_
  rintro _ _ ⟨rfl, rfl⟩
  refine m_ld 8 5 ?_
  refine m_ld 0 4 ?_
  refine m_call 0 [] (efollow_j p b hp hb) (.cons 2 (.refl) .nil) ?_
  have okq4 : EPair.Ok (folP p b) := folP_ok hp hb
  refine bind_var (folP p b) fun q4 hq4 => ?_
  rw [← hq4] at okq4; have hlq4 := okq4.next.len; have hmq4 := okq4.now.len
  rintro _ _ ⟨hv5, rfl⟩
  rw [show ((.tuple #[(.agg ((folP p b).cells)), (.int .i64 ((folE p b : Nat) : Int))]) : Value) = (.tuple #[(.agg (q4.cells)), (.int .i64 ((folE p b : Nat) : Int))]) from by rw [hq4]] at hv5; subst hv5
  refine m_new 3 fun b6 => ?_
  refine m_st 0 0 ?_
  refine m_ld 5 4 ?_
  refine m_st 1 2 ?_
  refine m_ld 4 6 ?_
  refine m_ld 0 5 ?_
  refine m_call 0 [] (efollow_j p (⟨b.frm, b.till, b.prev, b.led, o⟩ : EBlk) hp ⟨(by first | omega | decide | exact nar_lt _ | with_reducible assumption | (dsimp only; first | omega | exact nar_lt _)), (by first | omega | decide | exact nar_lt _ | with_reducible assumption | (dsimp only; first | omega | exact nar_lt _)), hb.prev, hb.led, ho⟩) (.cons 2 (.refl) .nil) ?_
  have okq7 : EPair.Ok (folP p (⟨b.frm, b.till, b.prev, b.led, o⟩ : EBlk)) := folP_ok hp ⟨(by first | omega | decide | exact nar_lt _ | with_reducible assumption | (dsimp only; first | omega | exact nar_lt _)), (by first | omega | decide | exact nar_lt _ | with_reducible assumption | (dsimp only; first | omega | exact nar_lt _)), hb.prev, hb.led, ho⟩
  refine bind_var (folP p (⟨b.frm, b.till, b.prev, b.led, o⟩ : EBlk)) fun q7 hq7 => ?_
  rw [← hq7] at okq7; have hlq7 := okq7.next.len; have hmq7 := okq7.now.len
  rintro _ _ ⟨hv8, rfl⟩
  rw [show ((.tuple #[(.agg ((folP p (⟨b.frm, b.till, b.prev, b.led, o⟩ : EBlk)).cells)), (.int .i64 ((folE p (⟨b.frm, b.till, b.prev, b.led, o⟩ : EBlk) : Nat) : Int))]) : Value) = (.tuple #[(.agg (q7.cells)), (.int .i64 ((folE p b : Nat) : Int))]) from by rw [hq7, folE_draw]] at hv8; subst hv8
  refine m_new 3 fun b9 => ?_
  refine m_st 0 0 ?_
  refine m_as 8 (.bool (!decide (((folE p b : Nat) : Int) = ((folE p b : Nat) : Int)))) (.bool false) (by rw [decide_eq_true rfl]; rfl) ?_
  refine m_ld 9 6 ?_
  refine m_call 0 [] (rlocking_j b.till (by first | with_reducible assumption | omega | decide)) .nil ?_
  rintro _ _ ⟨rfl, rfl⟩
  refine m_ifn 3 (((b.till % 24 : Nat) : Int) < 16) (fun c10 => ?_) (fun c10 => ?_)
  · -- no
    refine m_ld 6 4 ?_
    refine m_st 2 0 ?_
    refine m_ld 4 4 ?_
    refine m_ld 0 3 ?_
    refine m_eqs 0 true (q4.cells) ((⟨q7.now, (⟨q7.next.led, q4.next.seed, q7.next.start, q7.next.lock, q7.next.len⟩ : EData)⟩ : EPair).cells) (q4 = (⟨q7.now, (⟨q7.next.led, q4.next.seed, q7.next.start, q7.next.lock, q7.next.len⟩ : EData)⟩ : EPair)) (EPair.inj okq4 ⟨okq7.now, ⟨okq7.next.led, okq4.next.seed, okq7.next.start, okq7.next.lock, (by first | omega | decide | exact nar_lt _ | with_reducible assumption | (dsimp only; first | omega | exact nar_lt _))⟩⟩) (EPair.wf okq4) (EPair.wf ⟨okq7.now, ⟨okq7.next.led, okq4.next.seed, okq7.next.start, okq7.next.lock, (by first | omega | decide | exact nar_lt _ | with_reducible assumption | (dsimp only; first | omega | exact nar_lt _))⟩⟩) (fun _ => ?_) (fun c11 => absurd (by rw [hq4, hq7]; exact fol_draw2 (p := p) (b := b) o (by omega)) c11)
    exact m_ret 4 (.bool true) [] ⟨(rfl), by kernel_rfl⟩
  · -- yes
    refine m_ld 2 4 ?_
    refine m_ld 0 3 ?_
    refine m_eqs 0 true (q4.cells) (q7.cells) (q4 = q7) (EPair.inj okq4 okq7) (EPair.wf okq4) (EPair.wf okq7) (fun _ => ?_) (fun c12 => absurd (hq4.trans ((fol_draw (p := p) (b := b) o (by omega)).trans hq7.symm)) c12)
    exact m_ret 5 (.bool true) [] ⟨(rfl), by kernel_rfl⟩

set_option maxRecDepth 100000 in
theorem epochTurn_j (p : EPair) (b : EBlk) (hp : EPair.Ok p) (hb : EBlk.Ok b) :
    Does Tryd.prog 6 #[(.agg (p.cells)), (.agg (b.cells))] [(.rd (some ⟨0, 0, none⟩) ((hw KL).toList)), (.rd (some ⟨1, 0, none⟩) ((hw KL).toList))] [] (fun v H => v = (.bool true) ∧ H = []) := by
  have hhp_now_len := hp.now.len; have hhp_next_len := hp.next.len; have hhb_frm := hb.frm; have hhb_till := hb.till
  refine m_fn fun F => ?_
  refine m_new 2 fun b1 => ?_
  refine m_new 0 fun b2 => ?_
  refine m_call 6 [] (awake8_j) (.cons 1 (.refl) (.cons 2 (.refl) .nil)) ?_
  rintro _ _ ⟨rfl, rfl⟩
  refine m_ld 8 4 ?_
  refine m_ld 0 3 ?_
  refine m_call 0 [] (efollow_j p b hp hb) (.cons 2 (.refl) .nil) ?_
  rintro _ _ ⟨rfl, rfl⟩
  refine m_new 3 fun b3 => ?_
  refine m_st 0 0 ?_
  refine m_ifn 10 (((folE p b : Nat) : Int) = (0 : Int)) (fun c4 => ?_) (fun c4 => ?_)
  · -- no
    refine m_ld 6 5 ?_
    refine m_new 0 fun b5 => ?_
    refine m_st 0 0 ?_
    refine m_plan 4 [2, 3, 4] (.q 0 false (.q 1 true (.q 3 false (.q 4 true (.e 2 (.e 5 (.q 6 false .n))))))) [2] ?_
    refine m_ld 1 3 ?_
    refine m_ld 1 3 ?_
    refine m_call 0 [] (repoch_j b.till (by first | with_reducible assumption | omega | decide)) .nil ?_
    rintro _ _ ⟨rfl, rfl⟩
    refine m_thaw 0 ?_
    refine m_call 0 [] (repoch_j b.frm (by first | with_reducible assumption | omega | decide)) .nil ?_
    rintro _ _ ⟨rfl, rfl⟩
    refine m_thaw 2 ?_
    refine m_if 1 (((b.till / 24 : Nat) : Int) > ((b.frm / 24 : Nat) : Int)) (fun c6 => ?_) (fun c6 => ?_)
    · -- yes
      have hq := turned (p := p) (b := b) (by omega) (by omega)
      refine m_st 3 1 ?_
      refine m_ld 5 5 ?_
      refine m_ld 1 6 ?_
      refine m_eqs 0 false (((folP p b).now).cells) (p.next.cells) ((folP p b).now = p.next) (EData.inj ((folP_ok (p := p) (b := b) hp hb).now) hp.next) (EData.wf ((folP_ok (p := p) (b := b) hp hb).now)) (EData.wf hp.next) (fun _ => ?_) (fun c7 => absurd (hq.now) c7)
      refine m_ld 3 5 ?_
      refine m_ld 1 3 ?_
      refine m_eqs 0 false (hv (((folP p b).next).led)) (hv b.led) (((folP p b).next).led = b.led) (hv_iff (((folP_ok (p := p) (b := b) hp hb).next).led).len hb.led.len) (H32.wf (((folP_ok (p := p) (b := b) hp hb).next).led)) (H32.wf hb.led) (fun _ => ?_) (fun c8 => absurd (hq.led) c8)
      refine m_ld 4 5 ?_
      refine m_ld 1 3 ?_
      refine m_eqs 0 false (hv (((folP p b).next).start)) (hv b.prev) (((folP p b).next).start = b.prev) (hv_iff (((folP_ok (p := p) (b := b) hp hb).next).start).len hb.prev.len) (H32.wf (((folP_ok (p := p) (b := b) hp hb).next).start)) (H32.wf hb.prev) (fun _ => ?_) (fun c9 => absurd (hq.start) c9)
      refine m_ld 4 5 ?_
      refine m_ifn 4 (((((folP p b).next).len : Nat) : Int) = (1 : Int)) (fun c10 => ?_) (fun c10 => absurd (by have := hq.len; omega) c10)
      refine m_ld 6 3 ?_
      refine m_call 0 [] (rlocking_j b.till (by first | with_reducible assumption | omega | decide)) .nil ?_
      rintro _ _ ⟨rfl, rfl⟩
      refine m_if 2 (((b.till % 24 : Nat) : Int) < 16) (fun c11 => ?_) (fun c11 => ?_)
      · -- yes
        refine m_ld 2 3 ?_
        refine m_st 0 1 ?_
        refine m_ld 6 5 ?_
        refine m_ld 0 4 ?_
        refine m_eqs 0 true (hv (((folP p b).next).lock)) (hv b.prev) (((folP p b).next).lock = b.prev) (hv_iff (((folP_ok (p := p) (b := b) hp hb).next).lock).len hb.prev.len) (H32.wf (((folP_ok (p := p) (b := b) hp hb).next).lock)) (H32.wf hb.prev) (fun _ => ?_) (fun c12 => absurd (hq.lock (by omega)) c12)
        refine m_ld 2 3 ?_
        refine m_call 0 [] (rlocking_j b.till (by first | with_reducible assumption | omega | decide)) .nil ?_
        rintro _ _ ⟨rfl, rfl⟩
        refine m_sp 0 (((b.till % 24 : Nat) : Int) < 16) (fun c13 => ?_) (fun c13 => absurd (c11) c13)
        exact m_ret 13 (.bool true) [] ⟨(rfl), by kernel_rfl⟩
      · -- no
        refine m_ld 6 5 ?_
        refine m_ld 0 4 ?_
        refine m_eqs 0 true (hv (((folP p b).next).lock)) (hv Z32) (((folP p b).next).lock = Z32) (hv_iff (((folP_ok (p := p) (b := b) hp hb).next).lock).len H32.zero.len) (H32.wf (((folP_ok (p := p) (b := b) hp hb).next).lock)) (H32.wf H32.zero) (fun _ => ?_) (fun c14 => absurd (hq.lock' (by omega)) c14)
        refine m_ld 2 3 ?_
        refine m_call 0 [] (rlocking_j b.till (by first | with_reducible assumption | omega | decide)) .nil ?_
        rintro _ _ ⟨rfl, rfl⟩
        refine m_sp 0 (((b.till % 24 : Nat) : Int) < 16) (fun c15 => absurd c15 (c11)) (fun c15 => ?_)
        refine m_ld 2 5 ?_
        refine m_ld 2 6 ?_
        refine m_eqs 0 true (hv (((folP p b).next).seed)) (hv p.next.seed) (((folP p b).next).seed = p.next.seed) (hv_iff (((folP_ok (p := p) (b := b) hp hb).next).seed).len hp.next.seed.len) (H32.wf (((folP_ok (p := p) (b := b) hp hb).next).seed)) (H32.wf hp.next.seed) (fun _ => ?_) (fun c16 => absurd (hq.seed (by omega)) c16)
        exact m_ret 6 (.bool true) [] ⟨(rfl), by kernel_rfl⟩
    · -- no
      have hq := stayed (p := p) (b := b) (by omega) (by omega)
      have hlt := hq.lt
      refine m_ld 3 5 ?_
      refine m_ld 1 6 ?_
      refine m_eqs 0 false (((folP p b).now).cells) (p.now.cells) ((folP p b).now = p.now) (EData.inj ((folP_ok (p := p) (b := b) hp hb).now) hp.now) (EData.wf ((folP_ok (p := p) (b := b) hp hb).now)) (EData.wf hp.now) (fun _ => ?_) (fun c17 => absurd (hq.now) c17)
      refine m_ld 3 5 ?_
      refine m_ld 2 6 ?_
      refine m_eqs 0 false (hv (((folP p b).next).led)) (hv p.next.led) (((folP p b).next).led = p.next.led) (hv_iff (((folP_ok (p := p) (b := b) hp hb).next).led).len hp.next.led.len) (H32.wf (((folP_ok (p := p) (b := b) hp hb).next).led)) (H32.wf hp.next.led) (fun _ => ?_) (fun c18 => absurd (hq.led) c18)
      refine m_ld 4 5 ?_
      refine m_ld 2 6 ?_
      refine m_eqs 0 false (hv (((folP p b).next).start)) (hv p.next.start) (((folP p b).next).start = p.next.start) (hv_iff (((folP_ok (p := p) (b := b) hp hb).next).start).len hp.next.start.len) (H32.wf (((folP_ok (p := p) (b := b) hp hb).next).start)) (H32.wf hp.next.start) (fun _ => ?_) (fun c19 => absurd (hq.start) c19)
      refine m_ld 4 5 ?_
      refine m_ld 2 6 ?_
      refine m_u32 0 (((p.next.len : Nat) : Int) + (1 : Int)) (p.next.len + 1) (by omega) ?_
      refine m_ifn 4 (((((folP p b).next).len : Nat) : Int) = ((p.next.len + 1 : Nat) : Int)) (fun c20 => ?_) (fun c20 => absurd (by have := hq.len; omega) c20)
      refine m_ld 6 3 ?_
      refine m_call 0 [] (rlocking_j b.till (by first | with_reducible assumption | omega | decide)) .nil ?_
      rintro _ _ ⟨rfl, rfl⟩
      refine m_if 2 (((b.till % 24 : Nat) : Int) < 16) (fun c21 => ?_) (fun c21 => ?_)
      · -- yes
        refine m_ld 2 3 ?_
        refine m_st 0 1 ?_
        refine m_ld 6 5 ?_
        refine m_ld 0 4 ?_
        refine m_eqs 0 true (hv (((folP p b).next).lock)) (hv b.prev) (((folP p b).next).lock = b.prev) (hv_iff (((folP_ok (p := p) (b := b) hp hb).next).lock).len hb.prev.len) (H32.wf (((folP_ok (p := p) (b := b) hp hb).next).lock)) (H32.wf hb.prev) (fun _ => ?_) (fun c22 => absurd (hq.lock (by omega)) c22)
        refine m_ld 2 3 ?_
        refine m_call 0 [] (rlocking_j b.till (by first | with_reducible assumption | omega | decide)) .nil ?_
        rintro _ _ ⟨rfl, rfl⟩
        refine m_sp 0 (((b.till % 24 : Nat) : Int) < 16) (fun c23 => ?_) (fun c23 => absurd (c21) c23)
        exact m_ret 13 (.bool true) [] ⟨(rfl), by kernel_rfl⟩
      · -- no
        refine m_ld 6 5 ?_
        refine m_ld 0 4 ?_
        refine m_eqs 0 true (hv (((folP p b).next).lock)) (hv p.next.lock) (((folP p b).next).lock = p.next.lock) (hv_iff (((folP_ok (p := p) (b := b) hp hb).next).lock).len hp.next.lock.len) (H32.wf (((folP_ok (p := p) (b := b) hp hb).next).lock)) (H32.wf hp.next.lock) (fun _ => ?_) (fun c24 => absurd (hq.lock' (by omega)) c24)
        refine m_ld 2 3 ?_
        refine m_call 0 [] (rlocking_j b.till (by first | with_reducible assumption | omega | decide)) .nil ?_
        rintro _ _ ⟨rfl, rfl⟩
        refine m_sp 0 (((b.till % 24 : Nat) : Int) < 16) (fun c25 => absurd c25 (c21)) (fun c25 => ?_)
        refine m_ld 2 5 ?_
        refine m_ld 2 6 ?_
        refine m_eqs 0 true (hv (((folP p b).next).seed)) (hv p.next.seed) (((folP p b).next).seed = p.next.seed) (hv_iff (((folP_ok (p := p) (b := b) hp hb).next).seed).len hp.next.seed.len) (H32.wf (((folP_ok (p := p) (b := b) hp hb).next).seed)) (H32.wf hp.next.seed) (fun _ => ?_) (fun c26 => absurd (hq.seed (by omega)) c26)
        exact m_ret 6 (.bool true) [] ⟨(rfl), by kernel_rfl⟩
  · -- yes
    refine m_ld 2 3 ?_
    refine m_eqs 1 true ((folP p b).cells) ((⟨(⟨Z32, Z32, Z32, Z32, 0⟩ : EData), (⟨Z32, Z32, Z32, Z32, 0⟩ : EData)⟩ : EPair).cells) (folP p b = (⟨(⟨Z32, Z32, Z32, Z32, 0⟩ : EData), (⟨Z32, Z32, Z32, Z32, 0⟩ : EData)⟩ : EPair)) (EPair.inj (folP_ok (p := p) (b := b) hp hb) ⟨⟨H32.zero, H32.zero, H32.zero, H32.zero, (by first | omega | decide | exact nar_lt _ | with_reducible assumption | (dsimp only; first | omega | exact nar_lt _))⟩, ⟨H32.zero, H32.zero, H32.zero, H32.zero, (by first | omega | decide | exact nar_lt _ | with_reducible assumption | (dsimp only; first | omega | exact nar_lt _))⟩⟩) (EPair.wf (folP_ok (p := p) (b := b) hp hb)) (EPair.wf ⟨⟨H32.zero, H32.zero, H32.zero, H32.zero, (by first | omega | decide | exact nar_lt _ | with_reducible assumption | (dsimp only; first | omega | exact nar_lt _))⟩, ⟨H32.zero, H32.zero, H32.zero, H32.zero, (by first | omega | decide | exact nar_lt _ | with_reducible assumption | (dsimp only; first | omega | exact nar_lt _))⟩⟩) (fun _ => ?_) (fun c27 => absurd (folE_err (p := p) (b := b) (by omega)) c27)
    refine m_ld 4 4 ?_
    refine m_ld 1 4 ?_
    exact m_ret 8 (.bool ((decide (((folE p b : Nat) : Int) = (6 : Int))) == (decide (((b.till : Nat) : Int) ≤ ((b.frm : Nat) : Int))))) [] ⟨(err_bool), by kernel_rfl⟩

end Go.Proofs.YtmnehhpfbmoahaaDoor
