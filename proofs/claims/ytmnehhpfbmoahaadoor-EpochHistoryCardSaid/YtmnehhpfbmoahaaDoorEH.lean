/- Layer 8's histories. -/
import Derived.Test.YtmnehhpfbmoahaaDoorEJ
import Derived.Test.YtmnehhpfbmoahaaDoorLib7
import Derived.Test.YtmnehhpfbmoahaaDoorLib6
namespace Go.Proofs.YtmnehhpfbmoahaaDoor
open Go Go.RowKit Go.Alm
set_option maxRecDepth 100000 in
theorem radd32_j (a : Nat) (b : Nat) (ha : a < 4294967296) (hb : b < 4294967296) :
    Does Tryd.prog 91 #[(.int .u32 ((a : Nat) : Int)), (.int .u32 ((b : Nat) : Int))] [] [] (fun v H => v = (.tuple #[(.int .u32 ((morV a b : Nat) : Int)), (.bool (decide (a + b < 4294967296)))]) ∧ H = []) := by
  refine m_fn fun F => ?_
  refine m_u32 11 ((4294967295 : Int) - ((b : Nat) : Int)) (4294967295 - b) (by omega) ?_
  refine m_if 3 (((a : Nat) : Int) > ((4294967295 - b : Nat) : Int)) (fun c1 => ?_) (fun c1 => ?_)
  · -- yes
    exact m_ret 8 (.tuple #[(.int .u32 0), (.bool false)]) [] ⟨(by rw [morV, if_neg (by omega), decide_eq_false (by omega)]; first | done | rfl), by kernel_rfl⟩
  · -- no
    refine m_u32 6 (((a : Nat) : Int) + ((b : Nat) : Int)) (a + b) (by omega) ?_
    exact m_ret 5 (.tuple #[(.int .u32 ((a + b : Nat) : Int)), (.bool true)]) [] ⟨(by rw [morV, if_pos (by omega), decide_eq_true (by omega)]), by kernel_rfl⟩

set_option maxRecDepth 100000 in
theorem rlater_j (a : Nat) (b : Nat) (ha : a < 4294967296) (hb : b < 4294967296) :
    Does Tryd.prog 27 #[(.int .u32 ((a : Nat) : Int)), (.int .u32 ((b : Nat) : Int))] [] [] (fun v H => v = (.tuple #[(.int .u32 ((morV a b : Nat) : Int)), (.int .i64 ((morE a b : Nat) : Int))]) ∧ H = []) := by
  refine m_fn fun F => ?_
  refine m_call 10 [] (radd32_j a b (by first | with_reducible assumption | omega | decide) (by first | with_reducible assumption | omega | decide)) .nil ?_
  rintro _ _ ⟨rfl, rfl⟩
  refine m_ifn 14 (a + b < 4294967296) (fun c1 => ?_) (fun c1 => ?_)
  · -- no
    exact m_ret 10 (.tuple #[(.int .u32 ((morV a b : Nat) : Int)), (.int .i64 0)]) [] ⟨(by rw [morE, if_pos (by omega)]; first | done | rfl), by kernel_rfl⟩
  · -- yes
    exact m_ret 8 (.tuple #[(.int .u32 0), (.int .i64 5)]) [] ⟨(by rw [morV, morE, if_neg (by omega), if_neg (by omega)]; first | done | rfl), by kernel_rfl⟩

set_option maxRecDepth 100000 in
set_option maxHeartbeats 4000000 in
theorem next8_j (led : List Nat) (ao : Option Addr) (cap : Nat) (l : List SBlk) (hled : H32 led) (hl : AllSB l) (hn : l.length ≤ 200) :
    Does Tryd.prog 29 #[(.agg (hv led)), (.slice ao l.length cap)] [(.rd ao (RL SBlk.cells l)), (.rd (some ⟨0, 0, none⟩) ((hw KL).toList))] [] (fun v H => v = (.agg ((nextH led l).cells)) ∧ H = []) := by
  refine m_fn fun F => ?_
  refine m_new 2 fun b1 => ?_
  refine m_new 0 fun b2 => ?_
  refine m_ld 4 4 ?_
  refine m_new 1 fun b3 => ?_
  refine m_st 0 0 ?_
  refine m_loop (X := Nat × EData) 11 [1, 4, 5, 11, 12] (fun (x : Nat × EData) => [(13, (.int .i64 ((x.1 : Nat) : Int)))]) [0] (fun (x : Nat × EData) => [(.blk b3 (x.2.cells) 35)]) (fun (x : Nat × EData) => (x.1 ≤ l.length) ∧ (x.2 = (foldN (lastS l / 24) led (l.take x.1)).1) ∧ (EData.Ok x.2) ∧ (x.2.len ≤ x.1 + 1) ∧ (x.1 = 0 → x.2.len = 1)) (fun (x : Nat × EData) => l.length - x.1) (0, dataF led) (⟨Nat.zero_le _, rfl, dataF_ok hled, Nat.le_refl 1, fun _ => rfl⟩) (fun x u4 hx => ?_)
  obtain ⟨i, d⟩ := x; dsimp only at hx
  obtain ⟨hi, hd, okd, hdl, h0⟩ := hx
  have hdlen := okd.len
  refine m_if 6 (((i : Nat) : Int) < ((l.length : Nat) : Int)) (fun c5 => ?_) (fun c5 => ?_)
  · -- yes
    have hls := lastS_eq (l := l) (by omega); have hf := foldN_take (E := lastS l / 24) (led := led) (l := l) (i := i) (by omega); rw [← hd] at hf; have hp0 := pv_0 (l := l) (i := i); have hp1 := pv_1 (l := l) (i := i); have hbk := (hl.get (i := i) (by omega)).slot; obtain ⟨e, he⟩ : ∃ e, e = l.length - 1 := ⟨_, rfl⟩; obtain ⟨j, hj⟩ : ∃ j, j = i - 1 := ⟨_, rfl⟩; rw [← he] at hls; rw [← hj] at hp1; have hbe := (hl.get (i := e) (by omega)).slot; have hbj := (hl.get (i := j) (by omega)).slot
    refine m_ix 7 1 98 l.length i (RL SBlk.cells l) .i64 (by omega) (by rw [RL_length SBlk.size]; omega) ?_
    refine m_lxN 0 1 (i * 98) 98 (RL SBlk.cells l) ((l.getD i default).cells) (RL_whole (f := SBlk.cells) (sz := 98) (l := l) (k := i) SBlk.size default (by omega)) (SBlk.size _) ?_
    refine m_new 0 fun b6 => ?_
    refine m_st 1 0 ?_
    refine m_ld 6 3 ?_
    refine m_call 0 [] (rlocking_j ((l.getD i default).slot) (by first | with_reducible assumption | omega | decide)) .nil ?_
    rintro _ _ ⟨rfl, rfl⟩
    refine m_if 2 (((((l.getD i default).slot) % 24 : Nat) : Int) < 16) (fun c7 => ?_) (fun c7 => ?_)
    · -- yes
      refine m_ld 2 4 ?_
      refine m_ld 2 3 ?_
      refine m_call 0 [] (rseed_j d.seed (((l.getD i default).st).draw) okd.seed (((AllSB.get hl (by omega)).st).draw)) (.cons 2 (.refl) .nil) ?_
      rintro _ _ ⟨rfl, rfl⟩
      refine m_st 1 1 ?_
      refine m_i64 7 (((l.length : Nat) : Int) - (1 : Int)) (e) (by omega) ?_
      refine m_ix 0 1 98 l.length e (RL SBlk.cells l) .i64 (by omega) (by rw [RL_length SBlk.size]; omega) ?_
      refine m_lx 1 1 (e * 98) (RL SBlk.cells l) (.int .u32 (((l.getD e default).slot : Nat) : Int)) (RL_get0 (k := e) SBlk.size default (by omega) (by decide) (by kernel_rfl)) ?_
      refine m_ld 7 3 ?_
      refine m_call 0 [] (repoch_j ((l.getD i default).slot) (by first | with_reducible assumption | omega | decide)) .nil ?_
      rintro _ _ ⟨rfl, rfl⟩
      refine m_call 1 [] (repoch_j ((l.getD e default).slot) (by first | with_reducible assumption | omega | decide)) .nil ?_
      rintro _ _ ⟨rfl, rfl⟩
      refine m_ifn 3 (((((l.getD i default).slot) / 24 : Nat) : Int) = ((((l.getD e default).slot) / 24 : Nat) : Int)) (fun c8 => ?_) (fun c8 => ?_)
      · -- no
        refine m_sp 7 (((i : Nat) : Int) = (0 : Int)) (fun c9 => ?_) (fun c9 => ?_)
        · -- yes
          refine m_ld 1 3 ?_
          refine m_call 0 [] (repoch_j ((l.getD i default).slot) (by first | with_reducible assumption | omega | decide)) .nil ?_
          rintro _ _ ⟨rfl, rfl⟩
          refine m_if 4 (((((l.getD i default).slot) / 24 : Nat) : Int) = (0 : Int)) (fun c10 => ?_) (fun c10 => ?_)
          · -- yes
            refine m_st 2 1 ?_
            refine m_plan 4 [18, 19, 20] (.q 0 false (.q 1 false (.q 2 false (.q 3 false (.q 4 true (.e 5 (.q 6 false (.q 7 false (.q 8 false (.q 9 false (.q 10 false (.q 11 false (.q 12 false (.q 13 false (.q 14 false (.q 15 false (.q 16 false (.q 17 true (.q 19 false (.q 20 true (.e 18 (.e 21 (.q 22 false (.q 23 false (.q 24 false .n))))))))))))))))))))))))) [0] ?_
            refine m_sp 2 (((i : Nat) : Int) = (0 : Int)) (fun c11 => ?_) (fun c11 => absurd (c9) c11)
            refine m_ld 1 3 ?_
            refine m_call 0 [] (repoch_j ((l.getD i default).slot) (by first | with_reducible assumption | omega | decide)) .nil ?_
            rintro _ _ ⟨rfl, rfl⟩
            refine m_sp 2 (((((l.getD i default).slot) / 24 : Nat) : Int) > (0 : Int)) (fun c12 => ?_) (fun c12 => ?_)
            · -- yes
              refine m_thaw 12 ?_
              refine m_thaw 5 ?_
              refine m_ld 5 3 ?_
              refine m_ld 1 4 ?_
              refine m_ld 2 3 ?_
              refine m_st 1 1 ?_
              refine m_ld 5 4 ?_
              refine m_st 2 1 ?_
              refine m_ld 5 3 ?_
              refine m_call 0 [] (rlocking_j ((l.getD i default).slot) (by first | with_reducible assumption | omega | decide)) .nil ?_
              rintro _ _ ⟨rfl, rfl⟩
              refine m_if 2 (((((l.getD i default).slot) % 24 : Nat) : Int) < 16) (fun c13 => ?_) (fun c13 => absurd (c7) c13)
              refine m_ld 3 3 ?_
              refine m_st 1 1 ?_
              refine m_i64 4 (((i : Nat) : Int) + (1 : Int)) (i + 1) (by omega) ?_
              exact m_back 2 (i + 1, (⟨((l.getD i default).st).led, seedL d.seed (((l.getD i default).st).draw), ((l.getD i default).st).prev, ((l.getD i default).st).prev, 1⟩ : EData)) [1, 1, 1] ⟨⟨(by omega), (by rw [hf, addP_newL (by omega) (by omega) (by omega)]), ⟨((AllSB.get hl (by omega)).st).led, (seedL_ok _ _), ((AllSB.get hl (by omega)).st).prev, ((AllSB.get hl (by omega)).st).prev, (by first | omega | decide | exact nar_lt _ | with_reducible assumption | (dsimp only; first | omega | exact nar_lt _))⟩, (by show 1 ≤ i + 1 + 1; omega), (fun h => by exfalso; have h' : i + 1 = 0 := h; omega)⟩, (by omega)⟩
            · -- no
              refine m_sp 2 (((i : Nat) : Int) > (0 : Int)) (fun c14 => ?_) (fun c14 => ?_)
              · -- yes
                refine m_i64 2 (((i : Nat) : Int) - (1 : Int)) (j) (by omega) ?_
                refine m_ix 0 1 98 l.length j (RL SBlk.cells l) .i64 (by omega) (by rw [RL_length SBlk.size]; omega) ?_
                refine m_lx 1 1 (j * 98) (RL SBlk.cells l) (.int .u32 (((l.getD j default).slot : Nat) : Int)) (RL_get0 (k := j) SBlk.size default (by omega) (by decide) (by kernel_rfl)) ?_
                refine m_ld 1 3 ?_
                refine m_call 0 [] (repoch_j ((l.getD j default).slot) (by first | with_reducible assumption | omega | decide)) .nil ?_
                rintro _ _ ⟨rfl, rfl⟩
                refine m_thaw 0 ?_
                refine m_call 0 [] (repoch_j ((l.getD i default).slot) (by first | with_reducible assumption | omega | decide)) .nil ?_
                rintro _ _ ⟨rfl, rfl⟩
                refine m_thaw 4 ?_
                refine m_if 1 (((((l.getD j default).slot) / 24 : Nat) : Int) < ((((l.getD i default).slot) / 24 : Nat) : Int)) (fun c15 => ?_) (fun c15 => ?_)
                · -- yes
                  refine m_ld 3 3 ?_
                  refine m_ld 1 4 ?_
                  refine m_ld 2 3 ?_
                  refine m_st 1 1 ?_
                  refine m_ld 5 4 ?_
                  refine m_st 2 1 ?_
                  refine m_ld 5 3 ?_
                  refine m_call 0 [] (rlocking_j ((l.getD i default).slot) (by first | with_reducible assumption | omega | decide)) .nil ?_
                  rintro _ _ ⟨rfl, rfl⟩
                  refine m_if 2 (((((l.getD i default).slot) % 24 : Nat) : Int) < 16) (fun c16 => ?_) (fun c16 => absurd (c7) c16)
                  refine m_ld 3 3 ?_
                  refine m_st 1 1 ?_
                  refine m_i64 4 (((i : Nat) : Int) + (1 : Int)) (i + 1) (by omega) ?_
                  exact m_back 2 (i + 1, (⟨((l.getD i default).st).led, seedL d.seed (((l.getD i default).st).draw), ((l.getD i default).st).prev, ((l.getD i default).st).prev, 1⟩ : EData)) [1, 1, 1] ⟨⟨(by omega), (by rw [hf, addP_newL (by omega) (by omega) (by omega)]), ⟨((AllSB.get hl (by omega)).st).led, (seedL_ok _ _), ((AllSB.get hl (by omega)).st).prev, ((AllSB.get hl (by omega)).st).prev, (by first | omega | decide | exact nar_lt _ | with_reducible assumption | (dsimp only; first | omega | exact nar_lt _))⟩, (by show 1 ≤ i + 1 + 1; omega), (fun h => by exfalso; have h' : i + 1 = 0 := h; omega)⟩, (by omega)⟩
                · -- no
                  refine m_ld 5 4 ?_
                  refine m_st 2 1 ?_
                  refine m_ld 5 3 ?_
                  refine m_call 0 [] (rlocking_j ((l.getD i default).slot) (by first | with_reducible assumption | omega | decide)) .nil ?_
                  rintro _ _ ⟨rfl, rfl⟩
                  refine m_if 2 (((((l.getD i default).slot) % 24 : Nat) : Int) < 16) (fun c17 => ?_) (fun c17 => absurd (c7) c17)
                  refine m_ld 3 3 ?_
                  refine m_st 1 1 ?_
                  refine m_i64 4 (((i : Nat) : Int) + (1 : Int)) (i + 1) (by omega) ?_
                  exact m_back 2 (i + 1, (⟨d.led, seedL d.seed (((l.getD i default).st).draw), d.start, ((l.getD i default).st).prev, 2⟩ : EData)) [1, 1, 1] ⟨⟨(by omega), (by rw [hf, addP_moreL (by omega) (by omega) (by omega), h0 (by omega)]), ⟨okd.led, (seedL_ok _ _), okd.start, ((AllSB.get hl (by omega)).st).prev, (by first | omega | decide | exact nar_lt _ | with_reducible assumption | (dsimp only; first | omega | exact nar_lt _))⟩, (by show 2 ≤ i + 1 + 1; omega), (fun h => by exfalso; have h' : i + 1 = 0 := h; omega)⟩, (by omega)⟩
              · -- no
                refine m_thaw 9 ?_
                refine m_thaw 5 ?_
                refine m_ld 7 4 ?_
                refine m_st 2 1 ?_
                refine m_ld 5 3 ?_
                refine m_call 0 [] (rlocking_j ((l.getD i default).slot) (by first | with_reducible assumption | omega | decide)) .nil ?_
                rintro _ _ ⟨rfl, rfl⟩
                refine m_if 2 (((((l.getD i default).slot) % 24 : Nat) : Int) < 16) (fun c18 => ?_) (fun c18 => absurd (c7) c18)
                refine m_ld 3 3 ?_
                refine m_st 1 1 ?_
                refine m_i64 4 (((i : Nat) : Int) + (1 : Int)) (i + 1) (by omega) ?_
                exact m_back 2 (i + 1, (⟨d.led, seedL d.seed (((l.getD i default).st).draw), d.start, ((l.getD i default).st).prev, 2⟩ : EData)) [1, 1, 1] ⟨⟨(by omega), (by rw [hf, addP_moreL (by omega) (by omega) (by omega), h0 (by omega)]), ⟨okd.led, (seedL_ok _ _), okd.start, ((AllSB.get hl (by omega)).st).prev, (by first | omega | decide | exact nar_lt _ | with_reducible assumption | (dsimp only; first | omega | exact nar_lt _))⟩, (by show 2 ≤ i + 1 + 1; omega), (fun h => by exfalso; have h' : i + 1 = 0 := h; omega)⟩, (by omega)⟩
          · -- no
            refine m_plan 4 [18, 19, 20] (.q 0 false (.q 1 false (.q 2 false (.q 3 false (.q 4 true (.e 5 (.q 6 false (.q 7 false (.q 8 false (.q 9 false (.q 10 false (.q 11 false (.q 12 false (.q 13 false (.q 14 false (.q 15 false (.q 16 false (.q 17 true (.q 19 false (.q 20 true (.e 18 (.e 21 (.q 22 false (.q 23 false (.q 24 false .n))))))))))))))))))))))))) [0] ?_
            refine m_sp 2 (((i : Nat) : Int) = (0 : Int)) (fun c19 => ?_) (fun c19 => absurd (c9) c19)
            refine m_ld 1 3 ?_
            refine m_call 0 [] (repoch_j ((l.getD i default).slot) (by first | with_reducible assumption | omega | decide)) .nil ?_
            rintro _ _ ⟨rfl, rfl⟩
            refine m_sp 2 (((((l.getD i default).slot) / 24 : Nat) : Int) > (0 : Int)) (fun c20 => ?_) (fun c20 => ?_)
            · -- yes
              refine m_thaw 12 ?_
              refine m_thaw 5 ?_
              refine m_ld 5 3 ?_
              refine m_ld 1 4 ?_
              refine m_ld 2 3 ?_
              refine m_st 1 1 ?_
              refine m_ld 5 4 ?_
              refine m_st 2 1 ?_
              refine m_ld 5 3 ?_
              refine m_call 0 [] (rlocking_j ((l.getD i default).slot) (by first | with_reducible assumption | omega | decide)) .nil ?_
              rintro _ _ ⟨rfl, rfl⟩
              refine m_if 2 (((((l.getD i default).slot) % 24 : Nat) : Int) < 16) (fun c21 => ?_) (fun c21 => absurd (c7) c21)
              refine m_ld 3 3 ?_
              refine m_st 1 1 ?_
              refine m_i64 4 (((i : Nat) : Int) + (1 : Int)) (i + 1) (by omega) ?_
              exact m_back 2 (i + 1, (⟨((l.getD i default).st).led, seedL d.seed (((l.getD i default).st).draw), ((l.getD i default).st).prev, ((l.getD i default).st).prev, 1⟩ : EData)) [1, 1, 1] ⟨⟨(by omega), (by rw [hf, addP_newL (by omega) (by omega) (by omega)]), ⟨((AllSB.get hl (by omega)).st).led, (seedL_ok _ _), ((AllSB.get hl (by omega)).st).prev, ((AllSB.get hl (by omega)).st).prev, (by first | omega | decide | exact nar_lt _ | with_reducible assumption | (dsimp only; first | omega | exact nar_lt _))⟩, (by show 1 ≤ i + 1 + 1; omega), (fun h => by exfalso; have h' : i + 1 = 0 := h; omega)⟩, (by omega)⟩
            · -- no
              refine m_sp 2 (((i : Nat) : Int) > (0 : Int)) (fun c22 => ?_) (fun c22 => ?_)
              · -- yes
                refine m_i64 2 (((i : Nat) : Int) - (1 : Int)) (j) (by omega) ?_
                refine m_ix 0 1 98 l.length j (RL SBlk.cells l) .i64 (by omega) (by rw [RL_length SBlk.size]; omega) ?_
                refine m_lx 1 1 (j * 98) (RL SBlk.cells l) (.int .u32 (((l.getD j default).slot : Nat) : Int)) (RL_get0 (k := j) SBlk.size default (by omega) (by decide) (by kernel_rfl)) ?_
                refine m_ld 1 3 ?_
                refine m_call 0 [] (repoch_j ((l.getD j default).slot) (by first | with_reducible assumption | omega | decide)) .nil ?_
                rintro _ _ ⟨rfl, rfl⟩
                refine m_thaw 0 ?_
                refine m_call 0 [] (repoch_j ((l.getD i default).slot) (by first | with_reducible assumption | omega | decide)) .nil ?_
                rintro _ _ ⟨rfl, rfl⟩
                refine m_thaw 4 ?_
                refine m_if 1 (((((l.getD j default).slot) / 24 : Nat) : Int) < ((((l.getD i default).slot) / 24 : Nat) : Int)) (fun c23 => ?_) (fun c23 => ?_)
                · -- yes
                  refine m_ld 3 3 ?_
                  refine m_ld 1 4 ?_
                  refine m_ld 2 3 ?_
                  refine m_st 1 1 ?_
                  refine m_ld 5 4 ?_
                  refine m_st 2 1 ?_
                  refine m_ld 5 3 ?_
                  refine m_call 0 [] (rlocking_j ((l.getD i default).slot) (by first | with_reducible assumption | omega | decide)) .nil ?_
                  rintro _ _ ⟨rfl, rfl⟩
                  refine m_if 2 (((((l.getD i default).slot) % 24 : Nat) : Int) < 16) (fun c24 => ?_) (fun c24 => absurd (c7) c24)
                  refine m_ld 3 3 ?_
                  refine m_st 1 1 ?_
                  refine m_i64 4 (((i : Nat) : Int) + (1 : Int)) (i + 1) (by omega) ?_
                  exact m_back 2 (i + 1, (⟨((l.getD i default).st).led, seedL d.seed (((l.getD i default).st).draw), ((l.getD i default).st).prev, ((l.getD i default).st).prev, 1⟩ : EData)) [1, 1, 1] ⟨⟨(by omega), (by rw [hf, addP_newL (by omega) (by omega) (by omega)]), ⟨((AllSB.get hl (by omega)).st).led, (seedL_ok _ _), ((AllSB.get hl (by omega)).st).prev, ((AllSB.get hl (by omega)).st).prev, (by first | omega | decide | exact nar_lt _ | with_reducible assumption | (dsimp only; first | omega | exact nar_lt _))⟩, (by show 1 ≤ i + 1 + 1; omega), (fun h => by exfalso; have h' : i + 1 = 0 := h; omega)⟩, (by omega)⟩
                · -- no
                  refine m_ld 5 4 ?_
                  refine m_u32 0 (((d.len : Nat) : Int) + (1 : Int)) (d.len + 1) (by omega) ?_
                  refine m_st 1 1 ?_
                  refine m_ld 5 3 ?_
                  refine m_call 0 [] (rlocking_j ((l.getD i default).slot) (by first | with_reducible assumption | omega | decide)) .nil ?_
                  rintro _ _ ⟨rfl, rfl⟩
                  refine m_if 2 (((((l.getD i default).slot) % 24 : Nat) : Int) < 16) (fun c25 => ?_) (fun c25 => absurd (c7) c25)
                  refine m_ld 3 3 ?_
                  refine m_st 1 1 ?_
                  refine m_i64 4 (((i : Nat) : Int) + (1 : Int)) (i + 1) (by omega) ?_
                  exact m_back 2 (i + 1, (⟨d.led, seedL d.seed (((l.getD i default).st).draw), d.start, ((l.getD i default).st).prev, d.len + 1⟩ : EData)) [1, 1, 1] ⟨⟨(by omega), (by rw [hf, addP_moreL (by omega) (by omega) (by omega)]), ⟨okd.led, (seedL_ok _ _), okd.start, ((AllSB.get hl (by omega)).st).prev, (by first | omega | decide | exact nar_lt _ | with_reducible assumption | (dsimp only; first | omega | exact nar_lt _))⟩, (by show d.len + 1 ≤ i + 1 + 1; omega), (fun h => by exfalso; have h' : i + 1 = 0 := h; omega)⟩, (by omega)⟩
              · -- no
                refine m_thaw 9 ?_
                refine m_thaw 5 ?_
                refine m_ld 7 4 ?_
                refine m_u32 0 (((d.len : Nat) : Int) + (1 : Int)) (d.len + 1) (by omega) ?_
                refine m_st 1 1 ?_
                refine m_ld 5 3 ?_
                refine m_call 0 [] (rlocking_j ((l.getD i default).slot) (by first | with_reducible assumption | omega | decide)) .nil ?_
                rintro _ _ ⟨rfl, rfl⟩
                refine m_if 2 (((((l.getD i default).slot) % 24 : Nat) : Int) < 16) (fun c26 => ?_) (fun c26 => absurd (c7) c26)
                refine m_ld 3 3 ?_
                refine m_st 1 1 ?_
                refine m_i64 4 (((i : Nat) : Int) + (1 : Int)) (i + 1) (by omega) ?_
                exact m_back 2 (i + 1, (⟨d.led, seedL d.seed (((l.getD i default).st).draw), d.start, ((l.getD i default).st).prev, d.len + 1⟩ : EData)) [1, 1, 1] ⟨⟨(by omega), (by rw [hf, addP_moreL (by omega) (by omega) (by omega)]), ⟨okd.led, (seedL_ok _ _), okd.start, ((AllSB.get hl (by omega)).st).prev, (by first | omega | decide | exact nar_lt _ | with_reducible assumption | (dsimp only; first | omega | exact nar_lt _))⟩, (by show d.len + 1 ≤ i + 1 + 1; omega), (fun h => by exfalso; have h' : i + 1 = 0 := h; omega)⟩, (by omega)⟩
        · -- no
          refine m_plan 12 [18, 19, 20] (.q 0 false (.q 1 false (.q 2 false (.q 3 false (.q 4 true (.e 5 (.q 6 false (.q 7 false (.q 8 false (.q 9 false (.q 10 false (.q 11 false (.q 12 false (.q 13 false (.q 14 false (.q 15 false (.q 16 false (.q 17 true (.q 19 false (.q 20 true (.e 18 (.e 21 (.q 22 false (.q 23 false (.q 24 false .n))))))))))))))))))))))))) [0] ?_
          refine m_sp 2 (((i : Nat) : Int) = (0 : Int)) (fun c27 => absurd c27 (c9)) (fun c27 => ?_)
          refine m_sp 8 (((i : Nat) : Int) > (0 : Int)) (fun c28 => ?_) (fun c28 => ?_)
          · -- yes
            refine m_i64 2 (((i : Nat) : Int) - (1 : Int)) (j) (by omega) ?_
            refine m_ix 0 1 98 l.length j (RL SBlk.cells l) .i64 (by omega) (by rw [RL_length SBlk.size]; omega) ?_
            refine m_lx 1 1 (j * 98) (RL SBlk.cells l) (.int .u32 (((l.getD j default).slot : Nat) : Int)) (RL_get0 (k := j) SBlk.size default (by omega) (by decide) (by kernel_rfl)) ?_
            refine m_ld 1 3 ?_
            refine m_call 0 [] (repoch_j ((l.getD j default).slot) (by first | with_reducible assumption | omega | decide)) .nil ?_
            rintro _ _ ⟨rfl, rfl⟩
            refine m_thaw 0 ?_
            refine m_call 0 [] (repoch_j ((l.getD i default).slot) (by first | with_reducible assumption | omega | decide)) .nil ?_
            rintro _ _ ⟨rfl, rfl⟩
            refine m_thaw 4 ?_
            refine m_if 1 (((((l.getD j default).slot) / 24 : Nat) : Int) < ((((l.getD i default).slot) / 24 : Nat) : Int)) (fun c29 => ?_) (fun c29 => ?_)
            · -- yes
              refine m_ld 3 3 ?_
              refine m_ld 1 4 ?_
              refine m_ld 2 3 ?_
              refine m_st 1 1 ?_
              refine m_ld 5 4 ?_
              refine m_st 2 1 ?_
              refine m_ld 5 3 ?_
              refine m_call 0 [] (rlocking_j ((l.getD i default).slot) (by first | with_reducible assumption | omega | decide)) .nil ?_
              rintro _ _ ⟨rfl, rfl⟩
              refine m_if 2 (((((l.getD i default).slot) % 24 : Nat) : Int) < 16) (fun c30 => ?_) (fun c30 => absurd (c7) c30)
              refine m_ld 3 3 ?_
              refine m_st 1 1 ?_
              refine m_i64 4 (((i : Nat) : Int) + (1 : Int)) (i + 1) (by omega) ?_
              exact m_back 2 (i + 1, (⟨((l.getD i default).st).led, seedL d.seed (((l.getD i default).st).draw), ((l.getD i default).st).prev, ((l.getD i default).st).prev, 1⟩ : EData)) [1, 1, 1] ⟨⟨(by omega), (by rw [hf, addP_newL (by omega) (by omega) (by omega)]), ⟨((AllSB.get hl (by omega)).st).led, (seedL_ok _ _), ((AllSB.get hl (by omega)).st).prev, ((AllSB.get hl (by omega)).st).prev, (by first | omega | decide | exact nar_lt _ | with_reducible assumption | (dsimp only; first | omega | exact nar_lt _))⟩, (by show 1 ≤ i + 1 + 1; omega), (fun h => by exfalso; have h' : i + 1 = 0 := h; omega)⟩, (by omega)⟩
            · -- no
              refine m_ld 5 4 ?_
              refine m_u32 0 (((d.len : Nat) : Int) + (1 : Int)) (d.len + 1) (by omega) ?_
              refine m_st 1 1 ?_
              refine m_ld 5 3 ?_
              refine m_call 0 [] (rlocking_j ((l.getD i default).slot) (by first | with_reducible assumption | omega | decide)) .nil ?_
              rintro _ _ ⟨rfl, rfl⟩
              refine m_if 2 (((((l.getD i default).slot) % 24 : Nat) : Int) < 16) (fun c31 => ?_) (fun c31 => absurd (c7) c31)
              refine m_ld 3 3 ?_
              refine m_st 1 1 ?_
              refine m_i64 4 (((i : Nat) : Int) + (1 : Int)) (i + 1) (by omega) ?_
              exact m_back 2 (i + 1, (⟨d.led, seedL d.seed (((l.getD i default).st).draw), d.start, ((l.getD i default).st).prev, d.len + 1⟩ : EData)) [1, 1, 1] ⟨⟨(by omega), (by rw [hf, addP_moreL (by omega) (by omega) (by omega)]), ⟨okd.led, (seedL_ok _ _), okd.start, ((AllSB.get hl (by omega)).st).prev, (by first | omega | decide | exact nar_lt _ | with_reducible assumption | (dsimp only; first | omega | exact nar_lt _))⟩, (by show d.len + 1 ≤ i + 1 + 1; omega), (fun h => by exfalso; have h' : i + 1 = 0 := h; omega)⟩, (by omega)⟩
          · -- no
            refine m_thaw 9 ?_
            refine m_thaw 5 ?_
            refine m_ld 7 4 ?_
            refine m_u32 0 (((d.len : Nat) : Int) + (1 : Int)) (d.len + 1) (by omega) ?_
            refine m_st 1 1 ?_
            refine m_ld 5 3 ?_
            refine m_call 0 [] (rlocking_j ((l.getD i default).slot) (by first | with_reducible assumption | omega | decide)) .nil ?_
            rintro _ _ ⟨rfl, rfl⟩
            refine m_if 2 (((((l.getD i default).slot) % 24 : Nat) : Int) < 16) (fun c32 => ?_) (fun c32 => absurd (c7) c32)
            refine m_ld 3 3 ?_
            refine m_st 1 1 ?_
            refine m_i64 4 (((i : Nat) : Int) + (1 : Int)) (i + 1) (by omega) ?_
            exact m_back 2 (i + 1, (⟨d.led, seedL d.seed (((l.getD i default).st).draw), d.start, ((l.getD i default).st).prev, d.len + 1⟩ : EData)) [1, 1, 1] ⟨⟨(by omega), (by rw [hf, addP_moreL (by omega) (by omega) (by omega)]), ⟨okd.led, (seedL_ok _ _), okd.start, ((AllSB.get hl (by omega)).st).prev, (by first | omega | decide | exact nar_lt _ | with_reducible assumption | (dsimp only; first | omega | exact nar_lt _))⟩, (by show d.len + 1 ≤ i + 1 + 1; omega), (fun h => by exfalso; have h' : i + 1 = 0 := h; omega)⟩, (by omega)⟩
      · -- yes
        refine m_i64 5 (((i : Nat) : Int) + (1 : Int)) (i + 1) (by omega) ?_
        exact m_back 2 (i + 1, (⟨d.led, seedL d.seed (((l.getD i default).st).draw), d.start, d.lock, d.len⟩ : EData)) [1, 1, 1] ⟨⟨(by omega), (by rw [hf, addP_skipL (by omega) (by omega)]), ⟨okd.led, (seedL_ok _ _), okd.start, okd.lock, (by first | omega | decide | exact nar_lt _ | with_reducible assumption | (dsimp only; first | omega | exact nar_lt _))⟩, (by show d.len ≤ i + 1 + 1; omega), (fun h => by exfalso; have h' : i + 1 = 0 := h; omega)⟩, (by omega)⟩
    · -- no
      refine m_i64 7 (((l.length : Nat) : Int) - (1 : Int)) (e) (by omega) ?_
      refine m_ix 0 1 98 l.length e (RL SBlk.cells l) .i64 (by omega) (by rw [RL_length SBlk.size]; omega) ?_
      refine m_lx 1 1 (e * 98) (RL SBlk.cells l) (.int .u32 (((l.getD e default).slot : Nat) : Int)) (RL_get0 (k := e) SBlk.size default (by omega) (by decide) (by kernel_rfl)) ?_
      refine m_ld 7 3 ?_
      refine m_call 0 [] (repoch_j ((l.getD i default).slot) (by first | with_reducible assumption | omega | decide)) .nil ?_
      rintro _ _ ⟨rfl, rfl⟩
      refine m_call 1 [] (repoch_j ((l.getD e default).slot) (by first | with_reducible assumption | omega | decide)) .nil ?_
      rintro _ _ ⟨rfl, rfl⟩
      refine m_ifn 3 (((((l.getD i default).slot) / 24 : Nat) : Int) = ((((l.getD e default).slot) / 24 : Nat) : Int)) (fun c33 => ?_) (fun c33 => ?_)
      · -- no
        refine m_sp 7 (((i : Nat) : Int) = (0 : Int)) (fun c34 => ?_) (fun c34 => ?_)
        · -- yes
          refine m_ld 1 3 ?_
          refine m_call 0 [] (repoch_j ((l.getD i default).slot) (by first | with_reducible assumption | omega | decide)) .nil ?_
          rintro _ _ ⟨rfl, rfl⟩
          refine m_if 4 (((((l.getD i default).slot) / 24 : Nat) : Int) = (0 : Int)) (fun c35 => ?_) (fun c35 => ?_)
          · -- yes
            refine m_st 2 1 ?_
            refine m_plan 4 [18, 19, 20] (.q 0 false (.q 1 false (.q 2 false (.q 3 false (.q 4 true (.e 5 (.q 6 false (.q 7 false (.q 8 false (.q 9 false (.q 10 false (.q 11 false (.q 12 false (.q 13 false (.q 14 false (.q 15 false (.q 16 false (.q 17 true (.q 19 false (.q 20 true (.e 18 (.e 21 (.q 22 false (.q 23 false (.q 24 false .n))))))))))))))))))))))))) [0] ?_
            refine m_sp 2 (((i : Nat) : Int) = (0 : Int)) (fun c36 => ?_) (fun c36 => absurd (c34) c36)
            refine m_ld 1 3 ?_
            refine m_call 0 [] (repoch_j ((l.getD i default).slot) (by first | with_reducible assumption | omega | decide)) .nil ?_
            rintro _ _ ⟨rfl, rfl⟩
            refine m_sp 2 (((((l.getD i default).slot) / 24 : Nat) : Int) > (0 : Int)) (fun c37 => ?_) (fun c37 => ?_)
            · -- yes
              refine m_thaw 12 ?_
              refine m_thaw 5 ?_
              refine m_ld 5 3 ?_
              refine m_ld 1 4 ?_
              refine m_ld 2 3 ?_
              refine m_st 1 1 ?_
              refine m_ld 5 4 ?_
              refine m_st 2 1 ?_
              refine m_ld 5 3 ?_
              refine m_call 0 [] (rlocking_j ((l.getD i default).slot) (by first | with_reducible assumption | omega | decide)) .nil ?_
              rintro _ _ ⟨rfl, rfl⟩
              refine m_if 2 (((((l.getD i default).slot) % 24 : Nat) : Int) < 16) (fun c38 => absurd c38 (c7)) (fun c38 => ?_)
              refine m_i64 4 (((i : Nat) : Int) + (1 : Int)) (i + 1) (by omega) ?_
              exact m_back 2 (i + 1, (⟨((l.getD i default).st).led, d.seed, ((l.getD i default).st).prev, Z32, 1⟩ : EData)) [1, 1, 1] ⟨⟨(by omega), (by rw [hf, addP_new (by omega) (by omega) (by omega)]), ⟨((AllSB.get hl (by omega)).st).led, okd.seed, ((AllSB.get hl (by omega)).st).prev, H32.zero, (by first | omega | decide | exact nar_lt _ | with_reducible assumption | (dsimp only; first | omega | exact nar_lt _))⟩, (by show 1 ≤ i + 1 + 1; omega), (fun h => by exfalso; have h' : i + 1 = 0 := h; omega)⟩, (by omega)⟩
            · -- no
              refine m_sp 2 (((i : Nat) : Int) > (0 : Int)) (fun c39 => ?_) (fun c39 => ?_)
              · -- yes
                refine m_i64 2 (((i : Nat) : Int) - (1 : Int)) (j) (by omega) ?_
                refine m_ix 0 1 98 l.length j (RL SBlk.cells l) .i64 (by omega) (by rw [RL_length SBlk.size]; omega) ?_
                refine m_lx 1 1 (j * 98) (RL SBlk.cells l) (.int .u32 (((l.getD j default).slot : Nat) : Int)) (RL_get0 (k := j) SBlk.size default (by omega) (by decide) (by kernel_rfl)) ?_
                refine m_ld 1 3 ?_
                refine m_call 0 [] (repoch_j ((l.getD j default).slot) (by first | with_reducible assumption | omega | decide)) .nil ?_
                rintro _ _ ⟨rfl, rfl⟩
                refine m_thaw 0 ?_
                refine m_call 0 [] (repoch_j ((l.getD i default).slot) (by first | with_reducible assumption | omega | decide)) .nil ?_
                rintro _ _ ⟨rfl, rfl⟩
                refine m_thaw 4 ?_
                refine m_if 1 (((((l.getD j default).slot) / 24 : Nat) : Int) < ((((l.getD i default).slot) / 24 : Nat) : Int)) (fun c40 => ?_) (fun c40 => ?_)
                · -- yes
                  refine m_ld 3 3 ?_
                  refine m_ld 1 4 ?_
                  refine m_ld 2 3 ?_
                  refine m_st 1 1 ?_
                  refine m_ld 5 4 ?_
                  refine m_st 2 1 ?_
                  refine m_ld 5 3 ?_
                  refine m_call 0 [] (rlocking_j ((l.getD i default).slot) (by first | with_reducible assumption | omega | decide)) .nil ?_
                  rintro _ _ ⟨rfl, rfl⟩
                  refine m_if 2 (((((l.getD i default).slot) % 24 : Nat) : Int) < 16) (fun c41 => absurd c41 (c7)) (fun c41 => ?_)
                  refine m_i64 4 (((i : Nat) : Int) + (1 : Int)) (i + 1) (by omega) ?_
                  exact m_back 2 (i + 1, (⟨((l.getD i default).st).led, d.seed, ((l.getD i default).st).prev, Z32, 1⟩ : EData)) [1, 1, 1] ⟨⟨(by omega), (by rw [hf, addP_new (by omega) (by omega) (by omega)]), ⟨((AllSB.get hl (by omega)).st).led, okd.seed, ((AllSB.get hl (by omega)).st).prev, H32.zero, (by first | omega | decide | exact nar_lt _ | with_reducible assumption | (dsimp only; first | omega | exact nar_lt _))⟩, (by show 1 ≤ i + 1 + 1; omega), (fun h => by exfalso; have h' : i + 1 = 0 := h; omega)⟩, (by omega)⟩
                · -- no
                  refine m_ld 5 4 ?_
                  refine m_st 2 1 ?_
                  refine m_ld 5 3 ?_
                  refine m_call 0 [] (rlocking_j ((l.getD i default).slot) (by first | with_reducible assumption | omega | decide)) .nil ?_
                  rintro _ _ ⟨rfl, rfl⟩
                  refine m_if 2 (((((l.getD i default).slot) % 24 : Nat) : Int) < 16) (fun c42 => absurd c42 (c7)) (fun c42 => ?_)
                  refine m_i64 4 (((i : Nat) : Int) + (1 : Int)) (i + 1) (by omega) ?_
                  exact m_back 2 (i + 1, (⟨d.led, d.seed, d.start, d.lock, 2⟩ : EData)) [1, 1, 1] ⟨⟨(by omega), (by rw [hf, addP_more (by omega) (by omega) (by omega), h0 (by omega)]), ⟨okd.led, okd.seed, okd.start, okd.lock, (by first | omega | decide | exact nar_lt _ | with_reducible assumption | (dsimp only; first | omega | exact nar_lt _))⟩, (by show 2 ≤ i + 1 + 1; omega), (fun h => by exfalso; have h' : i + 1 = 0 := h; omega)⟩, (by omega)⟩
              · -- no
                refine m_thaw 9 ?_
                refine m_thaw 5 ?_
                refine m_ld 7 4 ?_
                refine m_st 2 1 ?_
                refine m_ld 5 3 ?_
                refine m_call 0 [] (rlocking_j ((l.getD i default).slot) (by first | with_reducible assumption | omega | decide)) .nil ?_
                rintro _ _ ⟨rfl, rfl⟩
                refine m_if 2 (((((l.getD i default).slot) % 24 : Nat) : Int) < 16) (fun c43 => absurd c43 (c7)) (fun c43 => ?_)
                refine m_i64 4 (((i : Nat) : Int) + (1 : Int)) (i + 1) (by omega) ?_
                exact m_back 2 (i + 1, (⟨d.led, d.seed, d.start, d.lock, 2⟩ : EData)) [1, 1, 1] ⟨⟨(by omega), (by rw [hf, addP_more (by omega) (by omega) (by omega), h0 (by omega)]), ⟨okd.led, okd.seed, okd.start, okd.lock, (by first | omega | decide | exact nar_lt _ | with_reducible assumption | (dsimp only; first | omega | exact nar_lt _))⟩, (by show 2 ≤ i + 1 + 1; omega), (fun h => by exfalso; have h' : i + 1 = 0 := h; omega)⟩, (by omega)⟩
          · -- no
            refine m_plan 4 [18, 19, 20] (.q 0 false (.q 1 false (.q 2 false (.q 3 false (.q 4 true (.e 5 (.q 6 false (.q 7 false (.q 8 false (.q 9 false (.q 10 false (.q 11 false (.q 12 false (.q 13 false (.q 14 false (.q 15 false (.q 16 false (.q 17 true (.q 19 false (.q 20 true (.e 18 (.e 21 (.q 22 false (.q 23 false (.q 24 false .n))))))))))))))))))))))))) [0] ?_
            refine m_sp 2 (((i : Nat) : Int) = (0 : Int)) (fun c44 => ?_) (fun c44 => absurd (c34) c44)
            refine m_ld 1 3 ?_
            refine m_call 0 [] (repoch_j ((l.getD i default).slot) (by first | with_reducible assumption | omega | decide)) .nil ?_
            rintro _ _ ⟨rfl, rfl⟩
            refine m_sp 2 (((((l.getD i default).slot) / 24 : Nat) : Int) > (0 : Int)) (fun c45 => ?_) (fun c45 => ?_)
            · -- yes
              refine m_thaw 12 ?_
              refine m_thaw 5 ?_
              refine m_ld 5 3 ?_
              refine m_ld 1 4 ?_
              refine m_ld 2 3 ?_
              refine m_st 1 1 ?_
              refine m_ld 5 4 ?_
              refine m_st 2 1 ?_
              refine m_ld 5 3 ?_
              refine m_call 0 [] (rlocking_j ((l.getD i default).slot) (by first | with_reducible assumption | omega | decide)) .nil ?_
              rintro _ _ ⟨rfl, rfl⟩
              refine m_if 2 (((((l.getD i default).slot) % 24 : Nat) : Int) < 16) (fun c46 => absurd c46 (c7)) (fun c46 => ?_)
              refine m_i64 4 (((i : Nat) : Int) + (1 : Int)) (i + 1) (by omega) ?_
              exact m_back 2 (i + 1, (⟨((l.getD i default).st).led, d.seed, ((l.getD i default).st).prev, Z32, 1⟩ : EData)) [1, 1, 1] ⟨⟨(by omega), (by rw [hf, addP_new (by omega) (by omega) (by omega)]), ⟨((AllSB.get hl (by omega)).st).led, okd.seed, ((AllSB.get hl (by omega)).st).prev, H32.zero, (by first | omega | decide | exact nar_lt _ | with_reducible assumption | (dsimp only; first | omega | exact nar_lt _))⟩, (by show 1 ≤ i + 1 + 1; omega), (fun h => by exfalso; have h' : i + 1 = 0 := h; omega)⟩, (by omega)⟩
            · -- no
              refine m_sp 2 (((i : Nat) : Int) > (0 : Int)) (fun c47 => ?_) (fun c47 => ?_)
              · -- yes
                refine m_i64 2 (((i : Nat) : Int) - (1 : Int)) (j) (by omega) ?_
                refine m_ix 0 1 98 l.length j (RL SBlk.cells l) .i64 (by omega) (by rw [RL_length SBlk.size]; omega) ?_
                refine m_lx 1 1 (j * 98) (RL SBlk.cells l) (.int .u32 (((l.getD j default).slot : Nat) : Int)) (RL_get0 (k := j) SBlk.size default (by omega) (by decide) (by kernel_rfl)) ?_
                refine m_ld 1 3 ?_
                refine m_call 0 [] (repoch_j ((l.getD j default).slot) (by first | with_reducible assumption | omega | decide)) .nil ?_
                rintro _ _ ⟨rfl, rfl⟩
                refine m_thaw 0 ?_
                refine m_call 0 [] (repoch_j ((l.getD i default).slot) (by first | with_reducible assumption | omega | decide)) .nil ?_
                rintro _ _ ⟨rfl, rfl⟩
                refine m_thaw 4 ?_
                refine m_if 1 (((((l.getD j default).slot) / 24 : Nat) : Int) < ((((l.getD i default).slot) / 24 : Nat) : Int)) (fun c48 => ?_) (fun c48 => ?_)
                · -- yes
                  refine m_ld 3 3 ?_
                  refine m_ld 1 4 ?_
                  refine m_ld 2 3 ?_
                  refine m_st 1 1 ?_
                  refine m_ld 5 4 ?_
                  refine m_st 2 1 ?_
                  refine m_ld 5 3 ?_
                  refine m_call 0 [] (rlocking_j ((l.getD i default).slot) (by first | with_reducible assumption | omega | decide)) .nil ?_
                  rintro _ _ ⟨rfl, rfl⟩
                  refine m_if 2 (((((l.getD i default).slot) % 24 : Nat) : Int) < 16) (fun c49 => absurd c49 (c7)) (fun c49 => ?_)
                  refine m_i64 4 (((i : Nat) : Int) + (1 : Int)) (i + 1) (by omega) ?_
                  exact m_back 2 (i + 1, (⟨((l.getD i default).st).led, d.seed, ((l.getD i default).st).prev, Z32, 1⟩ : EData)) [1, 1, 1] ⟨⟨(by omega), (by rw [hf, addP_new (by omega) (by omega) (by omega)]), ⟨((AllSB.get hl (by omega)).st).led, okd.seed, ((AllSB.get hl (by omega)).st).prev, H32.zero, (by first | omega | decide | exact nar_lt _ | with_reducible assumption | (dsimp only; first | omega | exact nar_lt _))⟩, (by show 1 ≤ i + 1 + 1; omega), (fun h => by exfalso; have h' : i + 1 = 0 := h; omega)⟩, (by omega)⟩
                · -- no
                  refine m_ld 5 4 ?_
                  refine m_u32 0 (((d.len : Nat) : Int) + (1 : Int)) (d.len + 1) (by omega) ?_
                  refine m_st 1 1 ?_
                  refine m_ld 5 3 ?_
                  refine m_call 0 [] (rlocking_j ((l.getD i default).slot) (by first | with_reducible assumption | omega | decide)) .nil ?_
                  rintro _ _ ⟨rfl, rfl⟩
                  refine m_if 2 (((((l.getD i default).slot) % 24 : Nat) : Int) < 16) (fun c50 => absurd c50 (c7)) (fun c50 => ?_)
                  refine m_i64 4 (((i : Nat) : Int) + (1 : Int)) (i + 1) (by omega) ?_
                  exact m_back 2 (i + 1, (⟨d.led, d.seed, d.start, d.lock, d.len + 1⟩ : EData)) [1, 1, 1] ⟨⟨(by omega), (by rw [hf, addP_more (by omega) (by omega) (by omega)]), ⟨okd.led, okd.seed, okd.start, okd.lock, (by first | omega | decide | exact nar_lt _ | with_reducible assumption | (dsimp only; first | omega | exact nar_lt _))⟩, (by show d.len + 1 ≤ i + 1 + 1; omega), (fun h => by exfalso; have h' : i + 1 = 0 := h; omega)⟩, (by omega)⟩
              · -- no
                refine m_thaw 9 ?_
                refine m_thaw 5 ?_
                refine m_ld 7 4 ?_
                refine m_u32 0 (((d.len : Nat) : Int) + (1 : Int)) (d.len + 1) (by omega) ?_
                refine m_st 1 1 ?_
                refine m_ld 5 3 ?_
                refine m_call 0 [] (rlocking_j ((l.getD i default).slot) (by first | with_reducible assumption | omega | decide)) .nil ?_
                rintro _ _ ⟨rfl, rfl⟩
                refine m_if 2 (((((l.getD i default).slot) % 24 : Nat) : Int) < 16) (fun c51 => absurd c51 (c7)) (fun c51 => ?_)
                refine m_i64 4 (((i : Nat) : Int) + (1 : Int)) (i + 1) (by omega) ?_
                exact m_back 2 (i + 1, (⟨d.led, d.seed, d.start, d.lock, d.len + 1⟩ : EData)) [1, 1, 1] ⟨⟨(by omega), (by rw [hf, addP_more (by omega) (by omega) (by omega)]), ⟨okd.led, okd.seed, okd.start, okd.lock, (by first | omega | decide | exact nar_lt _ | with_reducible assumption | (dsimp only; first | omega | exact nar_lt _))⟩, (by show d.len + 1 ≤ i + 1 + 1; omega), (fun h => by exfalso; have h' : i + 1 = 0 := h; omega)⟩, (by omega)⟩
        · -- no
          refine m_plan 12 [18, 19, 20] (.q 0 false (.q 1 false (.q 2 false (.q 3 false (.q 4 true (.e 5 (.q 6 false (.q 7 false (.q 8 false (.q 9 false (.q 10 false (.q 11 false (.q 12 false (.q 13 false (.q 14 false (.q 15 false (.q 16 false (.q 17 true (.q 19 false (.q 20 true (.e 18 (.e 21 (.q 22 false (.q 23 false (.q 24 false .n))))))))))))))))))))))))) [0] ?_
          refine m_sp 2 (((i : Nat) : Int) = (0 : Int)) (fun c52 => absurd c52 (c34)) (fun c52 => ?_)
          refine m_sp 8 (((i : Nat) : Int) > (0 : Int)) (fun c53 => ?_) (fun c53 => ?_)
          · -- yes
            refine m_i64 2 (((i : Nat) : Int) - (1 : Int)) (j) (by omega) ?_
            refine m_ix 0 1 98 l.length j (RL SBlk.cells l) .i64 (by omega) (by rw [RL_length SBlk.size]; omega) ?_
            refine m_lx 1 1 (j * 98) (RL SBlk.cells l) (.int .u32 (((l.getD j default).slot : Nat) : Int)) (RL_get0 (k := j) SBlk.size default (by omega) (by decide) (by kernel_rfl)) ?_
            refine m_ld 1 3 ?_
            refine m_call 0 [] (repoch_j ((l.getD j default).slot) (by first | with_reducible assumption | omega | decide)) .nil ?_
            rintro _ _ ⟨rfl, rfl⟩
            refine m_thaw 0 ?_
            refine m_call 0 [] (repoch_j ((l.getD i default).slot) (by first | with_reducible assumption | omega | decide)) .nil ?_
            rintro _ _ ⟨rfl, rfl⟩
            refine m_thaw 4 ?_
            refine m_if 1 (((((l.getD j default).slot) / 24 : Nat) : Int) < ((((l.getD i default).slot) / 24 : Nat) : Int)) (fun c54 => ?_) (fun c54 => ?_)
            · -- yes
              refine m_ld 3 3 ?_
              refine m_ld 1 4 ?_
              refine m_ld 2 3 ?_
              refine m_st 1 1 ?_
              refine m_ld 5 4 ?_
              refine m_st 2 1 ?_
              refine m_ld 5 3 ?_
              refine m_call 0 [] (rlocking_j ((l.getD i default).slot) (by first | with_reducible assumption | omega | decide)) .nil ?_
              rintro _ _ ⟨rfl, rfl⟩
              refine m_if 2 (((((l.getD i default).slot) % 24 : Nat) : Int) < 16) (fun c55 => absurd c55 (c7)) (fun c55 => ?_)
              refine m_i64 4 (((i : Nat) : Int) + (1 : Int)) (i + 1) (by omega) ?_
              exact m_back 2 (i + 1, (⟨((l.getD i default).st).led, d.seed, ((l.getD i default).st).prev, Z32, 1⟩ : EData)) [1, 1, 1] ⟨⟨(by omega), (by rw [hf, addP_new (by omega) (by omega) (by omega)]), ⟨((AllSB.get hl (by omega)).st).led, okd.seed, ((AllSB.get hl (by omega)).st).prev, H32.zero, (by first | omega | decide | exact nar_lt _ | with_reducible assumption | (dsimp only; first | omega | exact nar_lt _))⟩, (by show 1 ≤ i + 1 + 1; omega), (fun h => by exfalso; have h' : i + 1 = 0 := h; omega)⟩, (by omega)⟩
            · -- no
              refine m_ld 5 4 ?_
              refine m_u32 0 (((d.len : Nat) : Int) + (1 : Int)) (d.len + 1) (by omega) ?_
              refine m_st 1 1 ?_
              refine m_ld 5 3 ?_
              refine m_call 0 [] (rlocking_j ((l.getD i default).slot) (by first | with_reducible assumption | omega | decide)) .nil ?_
              rintro _ _ ⟨rfl, rfl⟩
              refine m_if 2 (((((l.getD i default).slot) % 24 : Nat) : Int) < 16) (fun c56 => absurd c56 (c7)) (fun c56 => ?_)
              refine m_i64 4 (((i : Nat) : Int) + (1 : Int)) (i + 1) (by omega) ?_
              exact m_back 2 (i + 1, (⟨d.led, d.seed, d.start, d.lock, d.len + 1⟩ : EData)) [1, 1, 1] ⟨⟨(by omega), (by rw [hf, addP_more (by omega) (by omega) (by omega)]), ⟨okd.led, okd.seed, okd.start, okd.lock, (by first | omega | decide | exact nar_lt _ | with_reducible assumption | (dsimp only; first | omega | exact nar_lt _))⟩, (by show d.len + 1 ≤ i + 1 + 1; omega), (fun h => by exfalso; have h' : i + 1 = 0 := h; omega)⟩, (by omega)⟩
          · -- no
            refine m_thaw 9 ?_
            refine m_thaw 5 ?_
            refine m_ld 7 4 ?_
            refine m_u32 0 (((d.len : Nat) : Int) + (1 : Int)) (d.len + 1) (by omega) ?_
            refine m_st 1 1 ?_
            refine m_ld 5 3 ?_
            refine m_call 0 [] (rlocking_j ((l.getD i default).slot) (by first | with_reducible assumption | omega | decide)) .nil ?_
            rintro _ _ ⟨rfl, rfl⟩
            refine m_if 2 (((((l.getD i default).slot) % 24 : Nat) : Int) < 16) (fun c57 => absurd c57 (c7)) (fun c57 => ?_)
            refine m_i64 4 (((i : Nat) : Int) + (1 : Int)) (i + 1) (by omega) ?_
            exact m_back 2 (i + 1, (⟨d.led, d.seed, d.start, d.lock, d.len + 1⟩ : EData)) [1, 1, 1] ⟨⟨(by omega), (by rw [hf, addP_more (by omega) (by omega) (by omega)]), ⟨okd.led, okd.seed, okd.start, okd.lock, (by first | omega | decide | exact nar_lt _ | with_reducible assumption | (dsimp only; first | omega | exact nar_lt _))⟩, (by show d.len + 1 ≤ i + 1 + 1; omega), (fun h => by exfalso; have h' : i + 1 = 0 := h; omega)⟩, (by omega)⟩
      · -- yes
        refine m_i64 5 (((i : Nat) : Int) + (1 : Int)) (i + 1) (by omega) ?_
        exact m_back 2 (i + 1, d) [1, 1, 1] ⟨⟨(by omega), (by rw [hf, addP_skip (by omega) (by omega)]), okd, (by show d.len ≤ i + 1 + 1; omega), (fun h => by exfalso; have h' : i + 1 = 0 := h; omega)⟩, (by omega)⟩
  · -- no
    refine m_ld 7 3 ?_
    refine m_st 0 1 ?_
    exact m_retC 3 [4] (.agg (d.cells)) [] ⟨(by rw [hd, fold_all (by omega)]; first | done | rfl), by kernel_rfl⟩

set_option maxRecDepth 100000 in
set_option maxHeartbeats 4000000 in
theorem epochHistory_j (led : List Nat) (ao : Option Addr) (cap : Nat) (l : List EStep) (hled : H32 led) (hes : AllES l) (hn : l.length ≤ 9223372036854775807) :
    Does Tryd.prog 4 #[(.agg (hv led)), (.slice ao l.length cap)] [(.rd ao (RL EStep.cells l)), (.rd (some ⟨0, 0, none⟩) ((hw KL).toList)), (.rd (some ⟨1, 0, none⟩) ((hw KL).toList))] [] (fun v H => v = (.bool true) ∧ H = []) := by
  refine m_fn fun F => ?_
  refine m_new 2 fun b1 => ?_
  refine m_call 6 [] (awake8_j) (.cons 2 (.refl) (.cons 3 (.refl) .nil)) ?_
  rintro _ _ ⟨rfl, rfl⟩
  refine m_if 14 (((l.length : Nat) : Int) > (100 : Int)) (fun c2 => ?_) (fun c2 => ?_)
  · -- yes
    exact m_ret 7 (.bool true) [] ⟨(rfl), by kernel_rfl⟩
  · -- no
    refine m_ld 4 4 ?_
    refine m_call 0 [] (efirst_j led hled) .nil ?_
    rintro _ _ ⟨rfl, rfl⟩
    refine m_new 0 fun b3 => ?_
    refine m_st 0 0 ?_
    refine m_ld 14 5 ?_
    refine m_call 0 [] (refirst_j led hled) .nil ?_
    rintro _ _ ⟨rfl, rfl⟩
    refine m_new 1 fun b4 => ?_
    refine m_st 0 0 ?_
    refine m_nil 54 98 ?_
    refine m_loop (X := Nat × Nat × EPair × EData × Option Addr × Nat × List SBlk) 11 [2, 5, 8, 25, 26] (fun (x : Nat × Nat × EPair × EData × Option Addr × Nat × List SBlk) => [(6, (.slice x.2.2.2.2.1 x.2.2.2.2.2.2.length x.2.2.2.2.2.1)), (7, (.int .u32 ((x.2.1 : Nat) : Int))), (27, (.int .i64 ((x.1 : Nat) : Int)))]) [0, 1, 0] (fun (x : Nat × Nat × EPair × EData × Option Addr × Nat × List SBlk) => [(.row 54 98 x.2.2.2.2.1 x.2.2.2.2.2.2.length x.2.2.2.2.2.1 (RL SBlk.cells x.2.2.2.2.2.2)), (.blk b3 (x.2.2.1.cells) 28), (.blk b4 (x.2.2.2.1.cells) 35)]) (fun (x : Nat × Nat × EPair × EData × Option Addr × Nat × List SBlk) => (x.1 ≤ l.length) ∧ (x.2.1 = lastS x.2.2.2.2.2.2) ∧ (x.2.2.1.next = nextH led x.2.2.2.2.2.2) ∧ (x.2.2.2.1 = x.2.2.1.now) ∧ (EPair.Ok x.2.2.1) ∧ (EData.Ok x.2.2.2.1) ∧ (AllSB x.2.2.2.2.2.2) ∧ (x.2.2.2.2.2.2.length ≤ x.1) ∧ (∀ y ∈ x.2.2.2.2.2.2, y.slot / 24 ≤ lastS x.2.2.2.2.2.2 / 24) ∧ (x.2.2.1.next.len ≤ x.2.2.2.2.2.2.length + 1) ∧ (x.2.1 < 4294967296)) (fun (x : Nat × Nat × EPair × EData × Option Addr × Nat × List SBlk) => l.length - x.1) (0, 0, pairF led, dataF led, none, 0, []) (⟨Nat.zero_le _, rfl, rfl, rfl, pairF_ok hled, dataF_ok hled, fun _ h => absurd (show _ ∈ ([] : List SBlk) from h) List.not_mem_nil, Nat.le_refl 0, fun _ h => absurd (show _ ∈ ([] : List SBlk) from h) List.not_mem_nil, Nat.le_refl 1, by show 0 < 4294967296; decide⟩) (fun x u6 hx => ?_)
    obtain ⟨i, a, p, nw, ao', cp, m⟩ := x; dsimp only at hx
    obtain ⟨hi, hat, hpn, hnow, okp, okn, hm, hml, hmono, hlen, ha⟩ := hx
    have hpl := okp.next.len; have hnl := okn.len
    refine m_if 6 (((i : Nat) : Int) < ((l.length : Nat) : Int)) (fun c7 => ?_) (fun c7 => ?_)
    · -- yes
      refine m_ix 6 1 97 l.length i (RL EStep.cells l) .i64 (by omega) (by rw [RL_length EStep.size]; omega) ?_
      refine m_lxN 0 1 (i * 97) 97 (RL EStep.cells l) ((l.getD i default).cells) (RL_whole (f := EStep.cells) (sz := 97) (l := l) (k := i) EStep.size default (by omega)) (EStep.size _) ?_
      refine m_new 0 fun b8 => ?_
      refine m_st 0 0 ?_
      refine m_ld 6 4 ?_
      refine m_call 0 [] (rlater_j a ((l.getD i default).by_) (by first | with_reducible assumption | omega | decide) ((hes.get (by omega)).by_)) .nil ?_
      rintro _ _ ⟨rfl, rfl⟩
      refine m_spn 12 (((morE a ((l.getD i default).by_) : Nat) : Int) = (0 : Int)) (fun c9 => ?_) (fun c9 => ?_)
      · -- no
        refine m_ld 1 4 ?_
        refine m_if 4 ((((l.getD i default).by_ : Nat) : Int) = (0 : Int)) (fun c10 => ?_) (fun c10 => ?_)
        · -- yes
          refine m_i64 5 (((i : Nat) : Int) + (1 : Int)) (i + 1) (by omega) ?_
          exact m_back 2 (i + 1, a, p, nw, ao', cp, m) [1, 1, 1, 1] ⟨⟨(by omega), hat, hpn, hnow, okp, okn, hm, (by show m.length ≤ i + 1; omega), hmono, hlen, ha⟩, (by omega)⟩
        · -- no
          obtain ⟨hv0, hv1⟩ := mor_fit (n := a) (k := (l.getD i default).by_) (by omega)
          refine m_call 6 [] (repoch_j (morV a ((l.getD i default).by_)) (by first | omega | exact morV_lt _ _)) .nil ?_
          rintro _ _ ⟨rfl, rfl⟩
          refine m_call 1 [] (repoch_j a (by first | omega | exact morV_lt _ _)) .nil ?_
          rintro _ _ ⟨rfl, rfl⟩
          refine m_if 3 ((((morV a ((l.getD i default).by_)) / 24 : Nat) : Int) > ((a / 24 : Nat) : Int)) (fun c11 => ?_) (fun c11 => ?_)
          · -- yes
            refine m_ld 3 6 ?_
            refine m_st 0 3 ?_
            refine m_plan 3 [5, 6, 7] (.q 0 false (.q 1 false (.q 2 false (.q 3 false (.q 4 true (.q 5 true (.q 6 false (.e 7 (.q 8 false (.q 9 false .n)))))))))) [3, 3] ?_
            refine m_sp 3 (((m.length : Nat) : Int) > (0 : Int)) (fun c12 => ?_) (fun c12 => ?_)
            · -- yes
              refine m_ld 0 4 ?_
              refine m_ld 0 5 ?_
              refine m_call 1 [] (next8_j led ao' cp m hled (hm) (by first | omega | (rw [List.length_append, List.length_singleton]; omega))) (.cons 7 (.rd) (.cons 2 (.refl) .nil)) ?_
              have okz13 : EData.Ok (nextH led m) := (nextH_ok hled hm (by first | omega | (rw [List.length_append, List.length_singleton]; omega)))
              refine bind_var (nextH led m) fun z13 hz13 => ?_
              rw [← hz13] at okz13; have hlz13 := okz13.len
              rintro _ _ ⟨hv14, rfl⟩
              rw [show ((.agg ((nextH led m).cells)) : Value) = (.agg (z13.cells)) from by rw [hz13]] at hv14; subst hv14
              refine m_eqs 0 false (p.next.cells) (z13.cells) (p.next = z13) (EData.inj okp.next okz13) (EData.wf okp.next) (EData.wf okz13) (fun _ => ?_) (fun c15 => absurd (hpn.trans hz13.symm) c15)
              refine m_thaw 2 ?_
              refine m_ld 6 8 ?_
              refine m_ld 3 6 ?_
              refine m_ld 1 6 ?_
              refine m_ld 1 6 ?_
              refine m_call 1 [] (efollow_j p (⟨a, morV a ((l.getD i default).by_), (l.getD i default).prev, (l.getD i default).led, (l.getD i default).draw⟩ : EBlk) okp ⟨(by first | omega | decide | exact nar_lt _ | with_reducible assumption | (dsimp only; first | omega | exact nar_lt _)), (by first | omega | decide | exact nar_lt _ | with_reducible assumption | (dsimp only; first | omega | exact nar_lt _)), (AllES.get hes (by omega)).prev, (AllES.get hes (by omega)).led, (AllES.get hes (by omega)).draw⟩) (.cons 3 (.refl) .nil) ?_
              have hist := hist_step (x := l.getD i default) (s := morV a (l.getD i default).by_) hpn hat hmono (by omega) (by omega); have hE := hist.1; have hN := hist.2.1; have hW := hist.2.2; clear hist
              have okq : EPair.Ok (folP p (⟨a, morV a ((l.getD i default).by_), (l.getD i default).prev, (l.getD i default).led, (l.getD i default).draw⟩ : EBlk)) := folP_ok okp ⟨(by first | omega | decide | exact nar_lt _ | with_reducible assumption | (dsimp only; first | omega | exact nar_lt _)), (by first | omega | decide | exact nar_lt _ | with_reducible assumption | (dsimp only; first | omega | exact nar_lt _)), (AllES.get hes (by omega)).prev, (AllES.get hes (by omega)).led, (AllES.get hes (by omega)).draw⟩
              refine bind_var (folP p (⟨a, morV a ((l.getD i default).by_), (l.getD i default).prev, (l.getD i default).led, (l.getD i default).draw⟩ : EBlk)) fun q hq => ?_
              rw [← hq] at okq hN hW; have hql := okq.next.len; have hqn := okq.now.len
              rintro _ _ ⟨hv16, rfl⟩
              rw [show ((.tuple #[(.agg ((folP p (⟨a, morV a ((l.getD i default).by_), (l.getD i default).prev, (l.getD i default).led, (l.getD i default).draw⟩ : EBlk)).cells)), (.int .i64 ((folE p (⟨a, morV a ((l.getD i default).by_), (l.getD i default).prev, (l.getD i default).led, (l.getD i default).draw⟩ : EBlk) : Nat) : Int))]) : Value) = (.tuple #[(.agg (q.cells)), (.int .i64 0)]) from by rw [hq, hE]; first | done | rfl] at hv16; subst hv16
              refine m_new 3 fun b17 => ?_
              refine m_st 0 0 ?_
              refine m_ld 7 7 ?_
              refine m_new 1 fun b18 => ?_
              refine m_appR 0 5 54 98 104 SBlk.cells m (⟨morV a ((l.getD i default).by_), l.getD i default⟩ : SBlk) ((SrcW.cut 4 0 1 1).news (by kernel_rfl)) (⟨(by simp only [maxLen]; omega), (by omega)⟩) fun ao19 cap20 => ?_
              refine m_plan 5 [5, 11, 12, 13] (.q 0 false (.q 1 false (.q 2 false (.q 3 false (.q 4 true (.q 5 true (.q 6 false (.q 7 false (.q 8 false (.q 9 false (.q 10 true (.q 11 true (.q 12 false (.e 13 (.q 14 false (.q 15 false .n)))))))))))))))) [1, 1, 1] ?_
              refine m_ld 4 4 ?_
              refine m_ld 0 5 ?_
              refine m_eqs 0 false (q.now.cells) (p.next.cells) (q.now = p.next) (EData.inj okq.now okp.next) (EData.wf okq.now) (EData.wf okp.next) (fun _ => ?_) (fun c21 => absurd (hW.trans (if_pos (by omega))) c21)
              refine m_ld 3 4 ?_
              refine m_ld 0 6 ?_
              refine m_call 1 [] (next8_j led ao19 cap20 (m ++ [(⟨morV a ((l.getD i default).by_), l.getD i default⟩ : SBlk)]) hled (hm.snoc ⟨by show morV _ _ < 4294967296; exact morV_lt _ _, hes.get (by omega)⟩) (by first | omega | (rw [List.length_append, List.length_singleton]; omega))) (.cons 9 (.rd) (.cons 2 (.refl) .nil)) ?_
              have okz22 : EData.Ok (nextH led (m ++ [(⟨morV a ((l.getD i default).by_), l.getD i default⟩ : SBlk)])) := (nextH_ok hled (hm.snoc ⟨by show morV _ _ < 4294967296; exact morV_lt _ _, hes.get (by omega)⟩) (by first | omega | (rw [List.length_append, List.length_singleton]; omega)))
              refine bind_var (nextH led (m ++ [(⟨morV a ((l.getD i default).by_), l.getD i default⟩ : SBlk)])) fun z22 hz22 => ?_
              rw [← hz22] at okz22; have hlz22 := okz22.len
              rintro _ _ ⟨hv23, rfl⟩
              rw [show ((.agg ((nextH led (m ++ [(⟨morV a ((l.getD i default).by_), l.getD i default⟩ : SBlk)])).cells)) : Value) = (.agg (z22.cells)) from by rw [hz22]] at hv23; subst hv23
              refine m_eqs 0 false (q.next.cells) (z22.cells) (q.next = z22) (EData.inj okq.next okz22) (EData.wf okq.next) (EData.wf okz22) (fun _ => ?_) (fun c24 => absurd (hN.trans hz22.symm) c24)
              refine m_thaw 2 ?_
              refine m_ld 5 4 ?_
              refine m_st 1 6 ?_
              refine m_i64 5 (((i : Nat) : Int) + (1 : Int)) (i + 1) (by omega) ?_
              exact m_back 2 (i + 1, morV a ((l.getD i default).by_), q, p.next, ao19, cap20, m ++ [(⟨morV a ((l.getD i default).by_), l.getD i default⟩ : SBlk)]) [5, 5, 1, 1] ⟨⟨(by omega), (by exact (lastS_snoc m ⟨morV a (l.getD i default).by_, l.getD i default⟩).symm), hN, (hW.trans (if_pos (by omega))).symm, okq, okp.next, (by exact hm.snoc ⟨by show morV _ _ < 4294967296; exact morV_lt _ _, hes.get (by omega)⟩), (by show (m ++ [_]).length ≤ i + 1; rw [List.length_append, List.length_singleton]; omega), (by exact mono_snoc hmono (by omega)), (by rw [hN]; exact nextH_len _ _), (by exact morV_lt _ _)⟩, (by omega)⟩
            · -- no
              refine m_thaw 7 ?_
              refine m_ld 6 8 ?_
              refine m_ld 3 6 ?_
              refine m_ld 1 6 ?_
              refine m_ld 1 6 ?_
              refine m_call 1 [] (efollow_j p (⟨a, morV a ((l.getD i default).by_), (l.getD i default).prev, (l.getD i default).led, (l.getD i default).draw⟩ : EBlk) okp ⟨(by first | omega | decide | exact nar_lt _ | with_reducible assumption | (dsimp only; first | omega | exact nar_lt _)), (by first | omega | decide | exact nar_lt _ | with_reducible assumption | (dsimp only; first | omega | exact nar_lt _)), (AllES.get hes (by omega)).prev, (AllES.get hes (by omega)).led, (AllES.get hes (by omega)).draw⟩) (.cons 3 (.refl) .nil) ?_
              have hist := hist_step (x := l.getD i default) (s := morV a (l.getD i default).by_) hpn hat hmono (by omega) (by omega); have hE := hist.1; have hN := hist.2.1; have hW := hist.2.2; clear hist
              have okq : EPair.Ok (folP p (⟨a, morV a ((l.getD i default).by_), (l.getD i default).prev, (l.getD i default).led, (l.getD i default).draw⟩ : EBlk)) := folP_ok okp ⟨(by first | omega | decide | exact nar_lt _ | with_reducible assumption | (dsimp only; first | omega | exact nar_lt _)), (by first | omega | decide | exact nar_lt _ | with_reducible assumption | (dsimp only; first | omega | exact nar_lt _)), (AllES.get hes (by omega)).prev, (AllES.get hes (by omega)).led, (AllES.get hes (by omega)).draw⟩
              refine bind_var (folP p (⟨a, morV a ((l.getD i default).by_), (l.getD i default).prev, (l.getD i default).led, (l.getD i default).draw⟩ : EBlk)) fun q hq => ?_
              rw [← hq] at okq hN hW; have hql := okq.next.len; have hqn := okq.now.len
              rintro _ _ ⟨hv25, rfl⟩
              rw [show ((.tuple #[(.agg ((folP p (⟨a, morV a ((l.getD i default).by_), (l.getD i default).prev, (l.getD i default).led, (l.getD i default).draw⟩ : EBlk)).cells)), (.int .i64 ((folE p (⟨a, morV a ((l.getD i default).by_), (l.getD i default).prev, (l.getD i default).led, (l.getD i default).draw⟩ : EBlk) : Nat) : Int))]) : Value) = (.tuple #[(.agg (q.cells)), (.int .i64 0)]) from by rw [hq, hE]; first | done | rfl] at hv25; subst hv25
              refine m_new 3 fun b26 => ?_
              refine m_st 0 0 ?_
              refine m_ld 7 7 ?_
              refine m_new 1 fun b27 => ?_
              refine m_appR 0 5 54 98 104 SBlk.cells m (⟨morV a ((l.getD i default).by_), l.getD i default⟩ : SBlk) ((SrcW.cut 4 0 1 1).news (by kernel_rfl)) (⟨(by simp only [maxLen]; omega), (by omega)⟩) fun ao28 cap29 => ?_
              refine m_plan 5 [5, 11, 12, 13] (.q 0 false (.q 1 false (.q 2 false (.q 3 false (.q 4 true (.q 5 true (.q 6 false (.q 7 false (.q 8 false (.q 9 false (.q 10 true (.q 11 true (.q 12 false (.e 13 (.q 14 false (.q 15 false .n)))))))))))))))) [1, 1, 1] ?_
              refine m_ld 4 4 ?_
              refine m_ld 0 5 ?_
              refine m_eqs 0 false (q.now.cells) (p.next.cells) (q.now = p.next) (EData.inj okq.now okp.next) (EData.wf okq.now) (EData.wf okp.next) (fun _ => ?_) (fun c30 => absurd (hW.trans (if_pos (by omega))) c30)
              refine m_ld 3 4 ?_
              refine m_ld 0 6 ?_
              refine m_call 1 [] (next8_j led ao28 cap29 (m ++ [(⟨morV a ((l.getD i default).by_), l.getD i default⟩ : SBlk)]) hled (hm.snoc ⟨by show morV _ _ < 4294967296; exact morV_lt _ _, hes.get (by omega)⟩) (by first | omega | (rw [List.length_append, List.length_singleton]; omega))) (.cons 9 (.rd) (.cons 2 (.refl) .nil)) ?_
              have okz31 : EData.Ok (nextH led (m ++ [(⟨morV a ((l.getD i default).by_), l.getD i default⟩ : SBlk)])) := (nextH_ok hled (hm.snoc ⟨by show morV _ _ < 4294967296; exact morV_lt _ _, hes.get (by omega)⟩) (by first | omega | (rw [List.length_append, List.length_singleton]; omega)))
              refine bind_var (nextH led (m ++ [(⟨morV a ((l.getD i default).by_), l.getD i default⟩ : SBlk)])) fun z31 hz31 => ?_
              rw [← hz31] at okz31; have hlz31 := okz31.len
              rintro _ _ ⟨hv32, rfl⟩
              rw [show ((.agg ((nextH led (m ++ [(⟨morV a ((l.getD i default).by_), l.getD i default⟩ : SBlk)])).cells)) : Value) = (.agg (z31.cells)) from by rw [hz31]] at hv32; subst hv32
              refine m_eqs 0 false (q.next.cells) (z31.cells) (q.next = z31) (EData.inj okq.next okz31) (EData.wf okq.next) (EData.wf okz31) (fun _ => ?_) (fun c33 => absurd (hN.trans hz31.symm) c33)
              refine m_thaw 2 ?_
              refine m_ld 5 4 ?_
              refine m_st 1 6 ?_
              refine m_i64 5 (((i : Nat) : Int) + (1 : Int)) (i + 1) (by omega) ?_
              exact m_back 2 (i + 1, morV a ((l.getD i default).by_), q, p.next, ao28, cap29, m ++ [(⟨morV a ((l.getD i default).by_), l.getD i default⟩ : SBlk)]) [5, 5, 1, 1] ⟨⟨(by omega), (by exact (lastS_snoc m ⟨morV a (l.getD i default).by_, l.getD i default⟩).symm), hN, (hW.trans (if_pos (by omega))).symm, okq, okp.next, (by exact hm.snoc ⟨by show morV _ _ < 4294967296; exact morV_lt _ _, hes.get (by omega)⟩), (by show (m ++ [_]).length ≤ i + 1; rw [List.length_append, List.length_singleton]; omega), (by exact mono_snoc hmono (by omega)), (by rw [hN]; exact nextH_len _ _), (by exact morV_lt _ _)⟩, (by omega)⟩
          · -- no
            refine m_ld 4 6 ?_
            refine m_ld 3 4 ?_
            refine m_ld 1 4 ?_
            refine m_ld 1 4 ?_
            refine m_call 1 [] (efollow_j p (⟨a, morV a ((l.getD i default).by_), (l.getD i default).prev, (l.getD i default).led, (l.getD i default).draw⟩ : EBlk) okp ⟨(by first | omega | decide | exact nar_lt _ | with_reducible assumption | (dsimp only; first | omega | exact nar_lt _)), (by first | omega | decide | exact nar_lt _ | with_reducible assumption | (dsimp only; first | omega | exact nar_lt _)), (AllES.get hes (by omega)).prev, (AllES.get hes (by omega)).led, (AllES.get hes (by omega)).draw⟩) (.cons 3 (.refl) .nil) ?_
            have hist := hist_step (x := l.getD i default) (s := morV a (l.getD i default).by_) hpn hat hmono (by omega) (by omega); have hE := hist.1; have hN := hist.2.1; have hW := hist.2.2; clear hist
            have okq : EPair.Ok (folP p (⟨a, morV a ((l.getD i default).by_), (l.getD i default).prev, (l.getD i default).led, (l.getD i default).draw⟩ : EBlk)) := folP_ok okp ⟨(by first | omega | decide | exact nar_lt _ | with_reducible assumption | (dsimp only; first | omega | exact nar_lt _)), (by first | omega | decide | exact nar_lt _ | with_reducible assumption | (dsimp only; first | omega | exact nar_lt _)), (AllES.get hes (by omega)).prev, (AllES.get hes (by omega)).led, (AllES.get hes (by omega)).draw⟩
            refine bind_var (folP p (⟨a, morV a ((l.getD i default).by_), (l.getD i default).prev, (l.getD i default).led, (l.getD i default).draw⟩ : EBlk)) fun q hq => ?_
            rw [← hq] at okq hN hW; have hql := okq.next.len; have hqn := okq.now.len
            rintro _ _ ⟨hv34, rfl⟩
            rw [show ((.tuple #[(.agg ((folP p (⟨a, morV a ((l.getD i default).by_), (l.getD i default).prev, (l.getD i default).led, (l.getD i default).draw⟩ : EBlk)).cells)), (.int .i64 ((folE p (⟨a, morV a ((l.getD i default).by_), (l.getD i default).prev, (l.getD i default).led, (l.getD i default).draw⟩ : EBlk) : Nat) : Int))]) : Value) = (.tuple #[(.agg (q.cells)), (.int .i64 0)]) from by rw [hq, hE]; first | done | rfl] at hv34; subst hv34
            refine m_new 3 fun b35 => ?_
            refine m_st 0 0 ?_
            refine m_ld 7 5 ?_
            refine m_new 1 fun b36 => ?_
            refine m_appR 0 3 54 98 104 SBlk.cells m (⟨morV a ((l.getD i default).by_), l.getD i default⟩ : SBlk) ((SrcW.cut 4 0 1 1).news (by kernel_rfl)) (⟨(by simp only [maxLen]; omega), (by omega)⟩) fun ao37 cap38 => ?_
            refine m_plan 5 [5, 11, 12, 13] (.q 0 false (.q 1 false (.q 2 false (.q 3 false (.q 4 true (.q 5 true (.q 6 false (.q 7 false (.q 8 false (.q 9 false (.q 10 true (.q 11 true (.q 12 false (.e 13 (.q 14 false (.q 15 false .n)))))))))))))))) [1, 4, 4] ?_
            refine m_ld 4 4 ?_
            refine m_ld 0 5 ?_
            refine m_eqs 0 false (q.now.cells) (nw.cells) (q.now = nw) (EData.inj okq.now okn) (EData.wf okq.now) (EData.wf okn) (fun _ => ?_) (fun c39 => absurd ((hW.trans (if_neg (by omega))).trans hnow.symm) c39)
            refine m_ld 3 4 ?_
            refine m_ld 0 6 ?_
            refine m_call 1 [] (next8_j led ao37 cap38 (m ++ [(⟨morV a ((l.getD i default).by_), l.getD i default⟩ : SBlk)]) hled (hm.snoc ⟨by show morV _ _ < 4294967296; exact morV_lt _ _, hes.get (by omega)⟩) (by first | omega | (rw [List.length_append, List.length_singleton]; omega))) (.cons 9 (.rd) (.cons 2 (.refl) .nil)) ?_
            have okz40 : EData.Ok (nextH led (m ++ [(⟨morV a ((l.getD i default).by_), l.getD i default⟩ : SBlk)])) := (nextH_ok hled (hm.snoc ⟨by show morV _ _ < 4294967296; exact morV_lt _ _, hes.get (by omega)⟩) (by first | omega | (rw [List.length_append, List.length_singleton]; omega)))
            refine bind_var (nextH led (m ++ [(⟨morV a ((l.getD i default).by_), l.getD i default⟩ : SBlk)])) fun z40 hz40 => ?_
            rw [← hz40] at okz40; have hlz40 := okz40.len
            rintro _ _ ⟨hv41, rfl⟩
            rw [show ((.agg ((nextH led (m ++ [(⟨morV a ((l.getD i default).by_), l.getD i default⟩ : SBlk)])).cells)) : Value) = (.agg (z40.cells)) from by rw [hz40]] at hv41; subst hv41
            refine m_eqs 0 false (q.next.cells) (z40.cells) (q.next = z40) (EData.inj okq.next okz40) (EData.wf okq.next) (EData.wf okz40) (fun _ => ?_) (fun c42 => absurd (hN.trans hz40.symm) c42)
            refine m_thaw 2 ?_
            refine m_ld 5 4 ?_
            refine m_st 1 6 ?_
            refine m_i64 5 (((i : Nat) : Int) + (1 : Int)) (i + 1) (by omega) ?_
            exact m_back 2 (i + 1, morV a ((l.getD i default).by_), q, nw, ao37, cap38, m ++ [(⟨morV a ((l.getD i default).by_), l.getD i default⟩ : SBlk)]) [5, 5, 1, 1] ⟨⟨(by omega), (by exact (lastS_snoc m ⟨morV a (l.getD i default).by_, l.getD i default⟩).symm), hN, hnow.trans (hW.trans (if_neg (by omega))).symm, okq, okn, (by exact hm.snoc ⟨by show morV _ _ < 4294967296; exact morV_lt _ _, hes.get (by omega)⟩), (by show (m ++ [_]).length ≤ i + 1; rw [List.length_append, List.length_singleton]; omega), (by exact mono_snoc hmono (by omega)), (by rw [hN]; exact nextH_len _ _), (by exact morV_lt _ _)⟩, (by omega)⟩
      · -- yes
        refine m_i64 12 (((i : Nat) : Int) + (1 : Int)) (i + 1) (by omega) ?_
        exact m_back 2 (i + 1, a, p, nw, ao', cp, m) [1, 1, 1, 1] ⟨⟨(by omega), hat, hpn, hnow, okp, okn, hm, (by show m.length ≤ i + 1; omega), hmono, hlen, ha⟩, (by omega)⟩
    · -- no
      exact m_ret 11 (.bool true) [] ⟨(rfl), by kernel_rfl⟩

end Go.Proofs.YtmnehhpfbmoahaaDoor
