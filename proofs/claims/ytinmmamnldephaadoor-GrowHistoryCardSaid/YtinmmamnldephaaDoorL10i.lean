/- Layer 10's history. -/
import Derived.Test.YtinmmamnldephaaDoorL10h
import Derived.Test.YtinmmamnldephaaDoorLib8
namespace Go.Proofs.YtinmmamnldephaaDoor
open Go Go.RowKit Go.Alm
set_option maxRecDepth 100000 in
theorem radd32_j (a : Nat) (b : Nat) (_ : a < 4294967296) (hb : b < 4294967296) :
    Does Tryd.prog 33 #[(.int .u32 ((a : Nat) : Int)), (.int .u32 ((b : Nat) : Int))] [] [] (fun v H => v = (.tuple #[(.int .u32 ((morV a b : Nat) : Int)), (.bool (decide (a + b < 4294967296)))]) ∧ H = []) := by
  refine m_fn fun F => ?_
  refine m_u32 11 ((4294967295 : Int) - ((b : Nat) : Int)) (4294967295 - b) (by omega) ?_
  refine m_if 3 (((a : Nat) : Int) > ((4294967295 - b : Nat) : Int)) (fun c1 => ?_) (fun c1 => ?_)
  · -- yes
    exact m_ret 8 (.tuple #[(.int .u32 0), (.bool false)]) [] ⟨(by rw [morV, if_neg (by omega), decide_eq_false (by omega)]; first | done | rfl), by kernel_rfl⟩
  · -- no
    refine m_u32 6 (((a : Nat) : Int) + ((b : Nat) : Int)) (a + b) (by omega) ?_
    exact m_ret 5 (.tuple #[(.int .u32 ((a + b : Nat) : Int)), (.bool true)]) [] ⟨(by rw [morV, if_pos (by omega), decide_eq_true (by omega)]), by kernel_rfl⟩

set_option maxRecDepth 100000 in
theorem rlater_j (a : Nat) (b : Nat) (ha : a < 4294967296) (hb : b < 4294967296) :
    Does Tryd.prog 10 #[(.int .u32 ((a : Nat) : Int)), (.int .u32 ((b : Nat) : Int))] [] [] (fun v H => v = (.tuple #[(.int .u32 ((morV a b : Nat) : Int)), (.int .i64 ((morE a b : Nat) : Int))]) ∧ H = []) := by
  refine m_fn fun F => ?_
  refine m_call 10 [] (radd32_j a b (by first | with_reducible assumption | omega | decide) (by first | with_reducible assumption | omega | decide)) .nil ?_
  rintro _ _ ⟨rfl, rfl⟩
  refine m_ifn 14 (a + b < 4294967296) (fun c1 => ?_) (fun c1 => ?_)
  · -- no
    exact m_ret 10 (.tuple #[(.int .u32 ((morV a b : Nat) : Int)), (.int .i64 0)]) [] ⟨(by rw [morE, if_pos (by omega)]; first | done | rfl), by kernel_rfl⟩
  · -- yes
    exact m_ret 8 (.tuple #[(.int .u32 0), (.int .i64 5)]) [] ⟨(by rw [morV, morE, if_neg (by omega), if_neg (by omega)]; first | done | rfl), by kernel_rfl⟩

set_option maxRecDepth 100000 in
set_option maxHeartbeats 4000000 in
theorem growHistory_j (led : List Nat) (ao : Option Addr) (cap : Nat) (l : List Nat) (aod : Option Addr) (capd : Nat) (d : List (List Nat)) (hled0 : H32 led) (hl : AllN l) (hn : l.length ≤ 9223372036854775807) (hd : AllH d) (_ : d.length ≤ 9223372036854775807) :
    Does Tryd.prog 3 #[(.agg (hv led)), (.slice ao l.length cap), (.slice aod d.length capd)] [(.rd ao (RL nC l)), (.rd aod (RL hv d)), (.rd (some ⟨0, 0, none⟩) ((hw KL).toList)), (.rd (some ⟨1, 0, none⟩) ((hw KL).toList))] [] (fun v H => v = (.bool true) ∧ H = []) := by
  refine m_fn fun F => ?_
  refine m_new 2 fun b1 => ?_
  refine m_call 6 [] (awake10_j) (.cons 4 (.refl) .nil) ?_
  rintro _ _ ⟨rfl, rfl⟩
  refine m_if 14 (((l.length : Nat) : Int) > (60 : Int)) (fun c2 => ?_) (fun c2 => ?_)
  · -- yes
    exact m_ret 7 (.bool true) [] ⟨(rfl), by kernel_rfl⟩
  · -- no
    refine m_ld 4 5 ?_
    refine m_call 0 [] (stateG_j led hled0) .nil ?_
    rintro _ _ ⟨rfl, rfl⟩
    refine m_new 0 fun b3 => ?_
    refine m_stW 0 0 363 ((stateF led).cells) (SState.size _) (SState.ones _) ?_
    refine m_new 4 fun b4 => ?_
    refine m_ldW 0 6 b3 38 363 ((stateF led).cells) (SState.size _) ?_
    refine m_call 0 [] (stH_j (stateF led) (stateF_ok hled0)) (.cons 4 (.refl) .nil) ?_
    rintro _ _ ⟨rfl, rfl⟩
    refine m_new 0 fun b5 => ?_
    refine m_cut (X := Nat × Nat × Nat) 5 [1, 2, 3, 7, 8, 9] (fun (x : Nat × Nat × Nat) => [(10, (.pointer (some ⟨x.1, 0, none⟩))), (11, (.pointer (some ⟨x.2.1, 0, none⟩))), (12, (.pointer (some ⟨x.2.2, 0, none⟩)))]) (fun (x : Nat × Nat × Nat) => [(.blk b3 ((stateF led).cells) 38), (.blk x.2.2 ((((stateF led).eps).next).cells) 34), (.blk x.2.1 ((((stateF led).eps).now).cells) 34), (.blk x.1 (hv Z32) 23), (.blk b5 (hv (stH (stateF led))) 23), (.blk b4 #[(.int .u32 0)] 27), (.blk b1 (hv led) 23)]) (fun (x : Nat × Nat × Nat) => True) ?_ (fun x u9 hx => ?_)
    · -- in each order
      refine m_plan 0 [4, 5, 6, 7, 8, 9, 10, 11] (.q 0 false (.q 1 false (.q 2 false (.q 3 true (.q 4 false (.q 5 false (.q 6 true (.f (.e 7 (.f (.e 8 (.e 9 (.e 10 (.e 11 (.e 12 .n))))) (.e 9 (.e 8 (.e 10 (.e 11 (.e 12 .n))))))) (.f (.e 8 (.f (.e 7 (.e 9 (.e 10 (.e 11 (.e 12 .n))))) (.e 9 (.e 7 (.e 10 (.e 11 (.e 12 .n))))))) (.e 9 (.f (.e 7 (.e 8 (.e 10 (.e 11 (.e 12 .n))))) (.e 8 (.e 7 (.e 10 (.e 11 (.e 12 .n)))))))))))))))) [2] ?_
      refine m_ld 3 5 ?_
      refine m_ld 2 5 ?_
      refine m_fork 0 ?_ ?_
      · -- one of them
        refine m_new 0 fun b10 => ?_
        refine m_fork 0 ?_ ?_
        · -- one of them
          refine m_new 0 fun b11 => ?_
          refine m_new 0 fun b12 => ?_
          refine m_st 0 2 ?_
          refine m_st 0 1 ?_
          refine m_thaw 0 ?_
          refine m_st 0 1 ?_
          refine m_thaw 1 ?_
          exact m_back 0 (b10, b11, b12) [0, 0, 0, 0, 0, 0, 0] trivial
        · -- one of them
          refine m_new 0 fun b13 => ?_
          refine m_new 0 fun b14 => ?_
          refine m_st 0 2 ?_
          refine m_st 0 0 ?_
          refine m_thaw 0 ?_
          refine m_st 0 2 ?_
          refine m_thaw 1 ?_
          exact m_back 0 (b10, b14, b13) [0, 1, 0, 0, 0, 0, 0] trivial
      · -- one of them
        refine m_fork 0 ?_ ?_
        · -- one of them
          refine m_new 0 fun b15 => ?_
          refine m_fork 0 ?_ ?_
          · -- one of them
            refine m_new 0 fun b16 => ?_
            refine m_new 0 fun b17 => ?_
            refine m_st 0 1 ?_
            refine m_st 0 2 ?_
            refine m_thaw 0 ?_
            refine m_st 0 1 ?_
            refine m_thaw 1 ?_
            exact m_back 0 (b16, b15, b17) [0, 0, 1, 0, 0, 0, 0] trivial
          · -- one of them
            refine m_new 0 fun b18 => ?_
            refine m_new 0 fun b19 => ?_
            refine m_st 0 0 ?_
            refine m_st 0 2 ?_
            refine m_thaw 0 ?_
            refine m_st 0 2 ?_
            refine m_thaw 1 ?_
            exact m_back 0 (b19, b15, b18) [0, 1, 1, 0, 0, 0, 0] trivial
        · -- one of them
          refine m_new 0 fun b20 => ?_
          refine m_fork 0 ?_ ?_
          · -- one of them
            refine m_new 0 fun b21 => ?_
            refine m_new 0 fun b22 => ?_
            refine m_st 0 1 ?_
            refine m_st 0 0 ?_
            refine m_thaw 0 ?_
            refine m_st 0 3 ?_
            refine m_thaw 1 ?_
            exact m_back 0 (b21, b22, b20) [0, 2, 0, 0, 0, 0, 0] trivial
          · -- one of them
            refine m_new 0 fun b23 => ?_
            refine m_new 0 fun b24 => ?_
            refine m_st 0 0 ?_
            refine m_st 0 1 ?_
            refine m_thaw 0 ?_
            refine m_st 0 3 ?_
            refine m_thaw 1 ?_
            exact m_back 0 (b24, b23, b20) [0, 2, 1, 0, 0, 0, 0] trivial
    · -- behind it
      obtain ⟨b6, b7, b8⟩ := x; try dsimp only at hx
      refine m_view 5 _ (.made 27 1 [0].length 1 (RL nC [0])) ?_
      refine m_view 4 _ (.made 23 32 [stH (stateF led)].length 1 (RL hv [stH (stateF led)])) ?_
      refine m_loop (X := Nat × Option Addr × Nat × List Nat × Option Addr × Nat × List (List Nat) × SState × Nat) 15 [2, 3, 7, 10, 11, 12, 43, 44] (fun (x : Nat × Option Addr × Nat × List Nat × Option Addr × Nat × List (List Nat) × SState × Nat) => [(8, (.slice x.2.1 x.2.2.2.1.length x.2.2.1)), (9, (.slice x.2.2.2.2.1 x.2.2.2.2.2.2.1.length x.2.2.2.2.2.1)), (13, (.int .u32 ((x.2.2.2.2.2.2.2.2 : Nat) : Int))), (45, (.int .i64 ((x.1 : Nat) : Int)))]) [5, 4, 0, 2, 1, 0] (fun (x : Nat × Option Addr × Nat × List Nat × Option Addr × Nat × List (List Nat) × SState × Nat) => [(.row 27 1 x.2.1 x.2.2.2.1.length x.2.2.1 (RL nC x.2.2.2.1)), (.row 23 32 x.2.2.2.2.1 x.2.2.2.2.2.2.1.length x.2.2.2.2.2.1 (RL hv x.2.2.2.2.2.2.1)), (.blk b3 (x.2.2.2.2.2.2.2.1.cells) 38), (.blk b6 (hv x.2.2.2.2.2.2.2.1.eps.next.seed) 23), (.blk b7 (x.2.2.2.2.2.2.2.1.eps.now.cells) 34), (.blk b8 (x.2.2.2.2.2.2.2.1.eps.next.cells) 34)]) (fun (x : Nat × Option Addr × Nat × List Nat × Option Addr × Nat × List (List Nat) × SState × Nat) => (x.1 ≤ l.length) ∧ (SState.Ok x.2.2.2.2.2.2.2.1) ∧ (Hist x.2.2.2.1 x.2.2.2.2.2.2.2.1 x.2.2.2.2.2.2.2.2) ∧ (x.2.2.2.2.2.2.2.1.led = led) ∧ (x.2.2.2.2.2.2.2.1.eps.next.led = led) ∧ (x.2.2.2.2.2.2.1.getD (x.2.2.2.2.2.2.1.length - 1) [] = stH x.2.2.2.2.2.2.2.1) ∧ (x.2.2.2.1.length ≤ x.1 + 1) ∧ (x.2.2.2.2.2.2.2.2 ≤ x.1) ∧ (0 < x.2.2.2.2.2.2.1.length ∧ x.2.2.2.2.2.2.1.length ≤ x.1 + 1)) (fun (x : Nat × Option Addr × Nat × List Nat × Option Addr × Nat × List (List Nat) × SState × Nat) => l.length - x.1) (0, (some ⟨b4, 0, none⟩), 1, [0], (some ⟨b5, 0, none⟩), 1, [stH (stateF led)], stateF led, 0) (⟨Nat.zero_le _, stateF_ok hled0, Hist.start hled0, rfl, rfl, rfl, Nat.le_refl _, Nat.le_refl 0, ⟨Nat.zero_lt_one, Nat.le_refl 1⟩⟩) (fun x u25 hx => ?_)
      obtain ⟨i, a1, c1, S, a2, c2, hs, s, ct⟩ := x; dsimp only at hx
      obtain ⟨hi, hso, hH, hled, hnl, hpar, hSl, hct, hhl⟩ := hx
      have hpos := hH.ne; have hsl32 := hso.slot; have hnn : s.eps.next.len ≤ 24 := (by obtain ⟨_, _, _, _, _, _, _, _, h9⟩ := hH.rt; have := Nat.mod_lt s.slot (show 0 < 24 by decide); omega); have hlg : i < l.length → l.getD i 0 < 4294967296 := fun h => hl.get h
      refine m_if 6 (((i : Nat) : Int) < ((l.length : Nat) : Int)) (fun c26 => ?_) (fun c26 => ?_)
      · -- yes
        refine m_ix 7 1 1 l.length i (RL nC l) .i64 (by omega) (by rw [RL_length nC_size]; omega) ?_
        refine m_lx 0 1 (i * 1) (RL nC l) (.int .u32 ((l.getD i 0 : Nat) : Int)) (RL_get0 (k := i) nC_size 0 (by omega) (by decide) (by kernel_rfl)) ?_
        refine m_i64 9 (((S.length : Nat) : Int) - (1 : Int)) (S.length - 1) (by omega) ?_
        refine m_ix 0 5 1 S.length (S.length - 1) (RL nC S) .i64 (by omega) (by rw [RL_length nC_size]; omega) ?_
        refine m_lx 0 5 ((S.length - 1) * 1) (RL nC S) (.int .u32 ((s.slot : Nat) : Int)) (RL_get0 (k := S.length - 1) nC_size 0 (by omega) (by decide) (by rw [hH.lst]; rfl)) ?_
        refine m_call 7 [] (rlater_j s.slot (l.getD i 0) (by omega) (hl.get (by omega))) .nil ?_
        refine bind_var (morV s.slot (l.getD i 0)) fun tt htt => ?_
        rintro _ _ ⟨hv27, rfl⟩
        rw [show ((.tuple #[(.int .u32 ((morV s.slot (l.getD i 0) : Nat) : Int)), (.int .i64 ((morE s.slot (l.getD i 0) : Nat) : Int))]) : Value) = (.tuple #[(.int .u32 ((tt : Nat) : Int)), (.int .i64 ((morE s.slot (l.getD i 0) : Nat) : Int))]) from by rw [htt]] at hv27; subst hv27
        refine m_spn 12 (((morE s.slot (l.getD i 0) : Nat) : Int) = (0 : Int)) (fun c28 => ?_) (fun c28 => ?_)
        · -- no
          refine m_if 5 (((l.getD i 0 : Nat) : Int) = (0 : Int)) (fun c29 => ?_) (fun c29 => ?_)
          · -- yes
            refine m_i64 5 (((i : Nat) : Int) + (1 : Int)) (i + 1) (by omega) ?_
            exact m_back 2 (i + 1, a1, c1, S, a2, c2, hs, s, ct) [0, 0, 0, 0, 0, 0, 0] ⟨⟨(by omega), hso, hH, hled, hnl, hpar, (show S.length ≤ i + 1 + 1 by omega), (show ct ≤ i + 1 by omega), (show 0 < hs.length ∧ hs.length ≤ i + 1 + 1 by omega)⟩, (by omega)⟩
          · -- no
            have hmf := mor_fit (n := s.slot) (k := l.getD i 0) (by omega); have hlt : s.slot < tt := (by rw [htt]; omega); have ht32 : tt < 4294967296 := (by rw [htt]; omega)
            refine m_ld 5 11 ?_
            refine m_new 1 fun b30 => ?_
            refine m_st 0 0 ?_
            refine m_cut (X := List Nat) 11 [2, 3, 7, 8, 9, 10, 11, 12, 13, 16, 17, 19, 43, 44, 45, 65, 66] (fun (x : List Nat) => []) (fun (x : List Nat) => [(.blk b30 ((aj (aj #[(.int .u32 ((tt : Nat) : Int))] (hv led)) (hv x))) 45), (.row 27 1 a1 S.length c1 (RL nC S)), (.row 23 32 a2 hs.length c2 (RL hv hs)), (.blk b3 (s.cells) 38), (.blk b6 (hv s.eps.next.seed) 23), (.blk b7 (s.eps.now.cells) 34), (.blk b8 (s.eps.next.cells) 34), (.blk b1 (hv led) 23)]) (fun (x : List Nat) => (H32 x)) ?_ (fun dr u31 hx => ?_)
            · -- each way
              refine m_if 0 (((i : Nat) : Int) < ((d.length : Nat) : Int)) (fun c32 => ?_) (fun c32 => ?_)
              · -- yes
                refine m_ix 3 2 32 d.length i (RL hv d) .i64 (by omega) (by rw [RL_length hv_size]; omega) ?_
                refine m_lxN 0 2 (i * 32) 32 (RL hv d) (hv (d.getD i [])) (RL_whole (f := hv) (sz := 32) (l := d) (k := i) hv_size [] (by omega)) (hv_size _) ?_
                refine m_st 1 0 ?_
                exact m_back 1 (d.getD i []) [0, 0, 0, 0, 0, 0, 0, 0] (hd.get (by omega))
              · -- no
                exact m_back 1 Z32 [0, 0, 0, 0, 0, 0, 0, 0] H32.zero
            · -- behind them
              have hdr := hx
              refine m_i64 6 (((hs.length : Nat) : Int) - (1 : Int)) (hs.length - 1) (by omega) ?_
              refine m_ix 0 7 32 hs.length (hs.length - 1) (RL hv hs) .i64 (by omega) (by rw [RL_length hv_size]; omega) ?_
              refine m_lxN 0 7 ((hs.length - 1) * 32) 32 (RL hv hs) (hv (stH s)) ((RL_whole (f := hv) (sz := 32) (l := hs) (k := hs.length - 1) hv_size [] (by omega)).trans (by rw [hpar])) (hv_size _) ?_
              refine m_new 0 fun b33 => ?_
              refine m_st 0 0 ?_
              refine m_call 6 [] (repoch_j tt (by first | with_reducible assumption | omega | decide)) .nil ?_
              rintro _ _ ⟨rfl, rfl⟩
              refine m_call 1 [] (repoch_j s.slot (by first | with_reducible assumption | omega | decide)) .nil ?_
              rintro _ _ ⟨rfl, rfl⟩
              refine m_cut (X := EData × EData × Nat) 3 [2, 3, 7, 8, 9, 10, 11, 12, 17, 19, 20, 43, 44, 45, 65, 66] (fun (x : EData × EData × Nat) => [(13, (.int .u32 ((x.2.2 : Nat) : Int)))]) (fun (x : EData × EData × Nat) => [(.blk b33 (hv (stH s)) 23), (.blk b30 ((aj (aj #[(.int .u32 ((tt : Nat) : Int))] (hv led)) (hv dr))) 45), (.row 27 1 a1 S.length c1 (RL nC S)), (.row 23 32 a2 hs.length c2 (RL hv hs)), (.blk b3 (s.cells) 38), (.blk b6 (hv s.eps.next.seed) 23), (.blk b7 (x.1.cells) 34), (.blk b8 (x.2.1.cells) 34), (.blk b1 (hv led) 23)]) (fun (x : EData × EData × Nat) => (TurnD s tt ct x.1 x.2.1 x.2.2) ∧ (EData.Ok x.1) ∧ (EData.Ok x.2.1)) ?_ (fun x u34 hx => ?_)
              · -- each way
                refine m_if 0 (((tt / 24 : Nat) : Int) > ((s.slot / 24 : Nat) : Int)) (fun c35 => ?_) (fun c35 => ?_)
                · -- yes
                  refine m_u32 3 (((ct : Nat) : Int) + (1 : Int)) (ct + 1) (by omega) ?_
                  refine m_ld 5 12 ?_
                  refine m_st 0 6 ?_
                  refine m_ld 3 5 ?_
                  refine m_st 2 7 ?_
                  refine m_st 1 7 ?_
                  refine m_st 1 7 ?_
                  exact m_back 1 (s.eps.next, (⟨s.eps.next.led, s.eps.next.seed, stH s, Z32, 0⟩ : EData), ct + 1) [0, 0, 0, 0, 0, 0, 0, 0, 0] ⟨Or.inl ⟨by omega, rfl, rfl, rfl⟩, hso.eps.next, ⟨hso.eps.next.led, hso.eps.next.seed, (stH_ok _), H32.zero, (by first | omega | decide | exact nar_lt _ | with_reducible assumption | (dsimp only; first | omega | exact nar_lt _))⟩⟩
                · -- no
                  exact m_back 1 (s.eps.now, s.eps.next, ct) [0, 0, 0, 0, 0, 0, 0, 0, 0] ⟨Or.inr ⟨by omega, rfl, rfl, rfl⟩, hso.eps.now, hso.eps.next⟩
              · -- behind them
                obtain ⟨nw, nx, cn⟩ := x; dsimp only at hx
                obtain ⟨hT, oknw, oknx⟩ := hx
                have hnxl := hT.len hnn; have hcn := hT.cnt
                refine m_ld 4 12 ?_
                refine m_u32 0 (((nx.len : Nat) : Int) + (1 : Int)) (nx.len + 1) (by omega) ?_
                refine m_st 1 7 ?_
                refine m_call 6 [] (rlocking_j tt (by first | with_reducible assumption | omega | decide)) .nil ?_
                rintro _ _ ⟨rfl, rfl⟩
                have okB : GBlk.Ok (⟨tt, led, dr⟩ : GBlk) := ⟨ht32, hled0, hdr⟩; have hfit := hH.fits (b := (⟨tt, led, dr⟩ : GBlk)) (by omega) (by omega) (show s.slot < tt from hlt); have hW := hT.now (led := led) (dr := dr) hH.rt hlt hfit
                refine m_cut (X := EData × List Nat) 2 [2, 3, 7, 8, 9, 10, 11, 12, 13, 17, 19, 20, 43, 44, 45, 65, 66] (fun (x : EData × List Nat) => []) (fun (x : EData × List Nat) => [(.blk b33 (hv (stH s)) 23), (.blk b30 ((aj (aj #[(.int .u32 ((tt : Nat) : Int))] (hv led)) (hv dr))) 45), (.row 27 1 a1 S.length c1 (RL nC S)), (.row 23 32 a2 hs.length c2 (RL hv hs)), (.blk b3 (s.cells) 38), (.blk b6 (hv x.2) 23), (.blk b7 (nw.cells) 34), (.blk b8 (x.1.cells) 34), (.blk b1 (hv led) 23)]) (fun (x : EData × List Nat) => ((childS s (⟨tt, led, dr⟩ : GBlk)).eps.next = ⟨led, x.2, x.1.start, x.1.lock, x.1.len⟩) ∧ (H32 x.2) ∧ (EData.Ok x.1)) ?_ (fun x u36 hx => ?_)
                · -- each way
                  refine m_if 0 (((tt % 24 : Nat) : Int) < 16) (fun c37 => ?_) (fun c37 => ?_)
                  · -- yes
                    refine m_ld 2 10 ?_
                    refine m_ld 1 6 ?_
                    refine m_call 0 [] (rseed_j s.eps.next.seed dr hso.eps.next.seed hdr) (.cons 3 (.refl) .nil) ?_
                    rintro _ _ ⟨rfl, rfl⟩
                    refine m_st 0 5 ?_
                    refine m_ld 3 5 ?_
                    refine m_st 1 7 ?_
                    exact m_back 1 ((⟨nx.led, nx.seed, nx.start, stH s, nx.len + 1⟩ : EData), seedL s.eps.next.seed dr) [0, 0, 0, 0, 0, 0, 0, 0, 0] ⟨(hT.lock hH.rt hlt hled hnl hfit (by omega)), (seedL_ok _ _), ⟨oknx.led, oknx.seed, oknx.start, (stH_ok _), (by first | omega | decide | exact nar_lt _ | with_reducible assumption | (dsimp only; first | omega | exact nar_lt _))⟩⟩
                  · -- no
                    exact m_back 1 ((⟨nx.led, nx.seed, nx.start, nx.lock, nx.len + 1⟩ : EData), s.eps.next.seed) [0, 0, 0, 0, 0, 0, 0, 0, 0] ⟨(hT.free hH.rt hlt hled hnl hfit (by omega)), hso.eps.next.seed, ⟨oknx.led, oknx.seed, oknx.start, oknx.lock, (by first | omega | decide | exact nar_lt _ | with_reducible assumption | (dsimp only; first | omega | exact nar_lt _))⟩⟩
                · -- behind them
                  obtain ⟨ny, sd⟩ := x; dsimp only at hx
                  obtain ⟨hX, hsd, okny⟩ := hx
                  have hnyl := okny.len
                  refine m_plan 2 [1, 2, 3] (.q 0 true (.q 1 true (.q 2 false (.e 3 (.q 4 false (.e 5 .n)))))) [5, 7] ?_
                  refine m_ld 0 5 ?_
                  refine m_ld 0 6 ?_
                  refine m_st 1 6 ?_
                  refine m_thaw 0 ?_
                  refine m_st 1 8 ?_
                  refine m_thaw 1 ?_
                  refine m_ldW 3 11 b3 38 363 (s.cells) (SState.size _) ?_
                  refine m_ld 0 8 ?_
                  refine m_call 0 [] (child_j s (⟨tt, led, dr⟩ : GBlk) hso (hH.rt) ⟨(by first | omega | decide | exact nar_lt _ | with_reducible assumption | (dsimp only; first | omega | exact nar_lt _)), hled0, hdr⟩) (.cons 4 (.refl) .nil) ?_
                  have hst := hH.step (b := (⟨tt, led, dr⟩ : GBlk)) okB hfit; have hfa := childS_facts hfit
                  refine bind_var (childS s (⟨tt, led, dr⟩ : GBlk)) fun c hc => ?_
                  rw [← hc] at hst hfa hW hX
                  have hstall := hst.all; have hslen : (S ++ [tt]).length = S.length + 1 := (by rw [List.length_append]; rfl)
                  rintro _ _ ⟨hv38, rfl⟩
                  rw [show ((.tuple #[(.agg ((childS s (⟨tt, led, dr⟩ : GBlk)).cells)), (.int .i64 ((childE s (⟨tt, led, dr⟩ : GBlk) : Nat) : Int))]) : Value) = (.tuple #[(.agg (c.cells)), (.int .i64 0)]) from by rw [hc, hfit]; rfl] at hv38; subst hv38
                  refine m_new 3 fun b39 => ?_
                  refine m_stW 0 0 363 (c.cells) (SState.size _) (SState.ones _) ?_
                  refine m_new 7 fun b40 => ?_
                  refine m_appR 0 6 27 1 4 nC S tt ((SrcW.cut 5 0 1 1).news (by kernel_rfl)) ⟨(by simp only [maxLen]; omega), (by omega)⟩ fun ao41 cap42 => ?_
                  refine m_rowle 11 (S ++ [tt]).length cap42 fun hc1 hc2 => ?_
                  refine m_plan 5 [5, 6, 7, 13, 20, 27, 34, 35, 38, 39, 40, 41, 42, 43] (.q 0 false (.q 1 false (.q 2 false (.q 3 false (.q 4 true (.q 5 false (.q 6 false (.q 7 false (.q 8 false (.q 9 false (.q 10 false (.q 11 false (.q 12 true (.q 13 false (.q 14 false (.q 15 false (.q 16 false (.q 17 false (.q 18 false (.q 19 true (.q 20 true (.q 21 false (.q 22 false (.q 23 false (.q 24 false (.q 25 false (.q 26 true (.q 27 true (.q 28 false (.q 29 false (.q 30 false (.q 31 false (.q 32 false (.q 33 true (.q 34 false (.e 35 (.q 36 false (.q 37 false (.q 38 false (.q 39 false (.q 40 true (.q 41 true (.q 42 false (.q 43 false .n)))))))))))))))))))))))))))))))))))))))))))) [1, 8, 8, 3] ?_
                  refine m_ld 4 5 ?_
                  refine m_u32 2 ((((S ++ [tt]).length : Nat) : Int)) ((S ++ [tt]).length) (by omega) ?_
                  refine m_spn 2 (((c.len : Nat) : Int) = (((S ++ [tt]).length : Nat) : Int)) (fun c43 => ?_) (fun c43 => absurd (by rw [hst.len]) c43)
                  refine m_ld 1 5 ?_
                  refine m_spn 3 (((c.count : Nat) : Int) = ((cn : Nat) : Int)) (fun c44 => ?_) (fun c44 => absurd (by rw [hst.cnt, hcn.1]) c44)
                  refine m_ld 2 5 ?_
                  refine m_ld 0 6 ?_
                  refine m_eqs 0 false (c.eps.now.cells) (nw.cells) (c.eps.now = nw) (EData.inj hst.ok.eps.now oknw) (EData.wf hst.ok.eps.now) (EData.wf oknw) (fun _ => ?_) (fun c45 => absurd (hW) c45)
                  refine m_ld 4 5 ?_
                  refine m_ld 0 7 ?_
                  refine m_eqs 0 false (c.eps.next.cells) ((⟨led, sd, ny.start, ny.lock, ny.len⟩ : EData).cells) (c.eps.next = (⟨led, sd, ny.start, ny.lock, ny.len⟩ : EData)) (EData.inj hst.ok.eps.next ⟨hled0, hsd, okny.start, okny.lock, (by first | omega | decide | exact nar_lt _ | with_reducible assumption | (dsimp only; first | omega | exact nar_lt _))⟩) (EData.wf hst.ok.eps.next) (EData.wf ⟨hled0, hsd, okny.start, okny.lock, (by first | omega | decide | exact nar_lt _ | with_reducible assumption | (dsimp only; first | omega | exact nar_lt _))⟩) (fun _ => ?_) (fun c46 => absurd (hX) c46)
                  refine m_ld 4 5 ?_
                  refine m_call 1 [] (whole_j ao41 cap42 (S ++ [tt]) (hstall) (by omega) (hc1) (hc2)) (.cons 13 (.rd) .nil) ?_
                  rintro _ _ ⟨rfl, rfl⟩
                  refine m_spn 2 (((c.win.min : Nat) : Int) = ((wholeN (S ++ [tt]) (S ++ [tt]).length : Nat) : Int)) (fun c47 => ?_) (fun c47 => absurd (by rw [hst.min]) c47)
                  refine m_ld 1 5 ?_
                  refine m_ld 0 8 ?_
                  refine m_eqs 0 false (hv c.prev) (hv (stH s)) (c.prev = stH s) (hv_iff hst.ok.prev.len (stH_ok _).len) (H32.wf hst.ok.prev) (H32.wf (stH_ok _)) (fun _ => ?_) (fun c48 => absurd (hfa.2.2.1) c48)
                  refine m_thaw 2 ?_
                  refine m_call 27 [] (rsub_j tt (by first | with_reducible assumption | omega | decide)) .nil ?_
                  rintro _ _ ⟨rfl, rfl⟩
                  refine m_i64 0 (((tt / 3 : Nat) : Int)) (tt / 3) (by omega) ?_
                  refine m_i 1 .i64 (IntKind.i64.wrap (((tt / 3 : Nat) : Int) - (0 : Int))) (((tt / 3 : Nat) : Int) - (0 : Int)) (wrapN_i64 (by omega) (by omega)) ?_
                  refine m_plan 4 [9, 10, 11] (.q 0 false (.q 1 false (.q 2 false (.q 3 false (.q 4 false (.q 5 false (.q 6 false (.q 7 false (.q 8 true (.q 9 false (.q 10 false (.e 11 (.q 12 false .n))))))))))))) [0] ?_
                  refine m_i 1 .i64 (Int.tmod (((tt / 3 : Nat) : Int) - (0 : Int)) 4) (Int.tmod (((tt / 3 : Nat) : Int) - (0 : Int)) 4) rfl ?_
                  have htm := tm4 (((tt / 3 : Nat) : Int) - (0 : Int))
                  refine m_i 0 .i64 (IntKind.i64.wrap ((Int.tmod (((tt / 3 : Nat) : Int) - (0 : Int)) 4) + (4 : Int))) ((Int.tmod (((tt / 3 : Nat) : Int) - (0 : Int)) 4) + (4 : Int)) (wrapN_i64 (by omega) (by omega)) ?_
                  refine m_i 0 .i64 (Int.tmod (((Int.tmod (((tt / 3 : Nat) : Int) - (0 : Int)) 4) + (4 : Int))) 4) ((((((tt / 3 : Nat) : Int) - (0 : Int)) % 4).toNat : Nat) : Int) (tm44 _) ?_
                  have hk4 : ((((tt / 3 : Nat) : Int) - (0 : Int)) % 4).toNat < 4 := (by omega)
                  refine m_ixA 3 b39 101 1 4 (((((tt / 3 : Nat) : Int) - (0 : Int)) % 4).toNat) .i64 (by omega) ?_
                  refine m_ldA 0 5 b39 (101 + (((((tt / 3 : Nat) : Int) - (0 : Int)) % 4).toNat) * 1) 38 (SState.cells c) (.int .u32 ((c.win.ring.counts.getD (((((tt / 3 : Nat) : Int) - (0 : Int)) % 4).toNat) 0 : Nat) : Int)) (st_cnt (by omega)) ?_
                  refine m_call 2 [] (counted_j ao41 cap42 (S ++ [tt]) (((tt / 3 : Nat) : Int) - (0 : Int)) (hstall) (by omega) (by omega)) (.cons 13 (.rd) .nil) ?_
                  rintro _ _ ⟨rfl, rfl⟩
                  refine m_thaw 2 ?_
                  refine m_ifn 1 (((c.win.ring.counts.getD (((((tt / 3 : Nat) : Int) - (0 : Int)) % 4).toNat) 0 : Nat) : Int) = ((subC (S ++ [tt]) (((tt / 3 : Nat) : Int) - (0 : Int)) : Nat) : Int)) (fun c49 => ?_) (fun c49 => absurd (congrArg (fun n : Nat => (n : Int)) (hist_cnt hst (by rw [show c.slot = tt from hfa.2.1]) (by omega) (by omega))) c49)
                  refine m_call 24 [] (rsub_j tt (by first | with_reducible assumption | omega | decide)) .nil ?_
                  rintro _ _ ⟨rfl, rfl⟩
                  refine m_i64 0 (((tt / 3 : Nat) : Int)) (tt / 3) (by omega) ?_
                  refine m_i 1 .i64 (IntKind.i64.wrap (((tt / 3 : Nat) : Int) - (1 : Int))) (((tt / 3 : Nat) : Int) - (1 : Int)) (wrapN_i64 (by omega) (by omega)) ?_
                  refine m_plan 4 [9, 10, 11] (.q 0 false (.q 1 false (.q 2 false (.q 3 false (.q 4 false (.q 5 false (.q 6 false (.q 7 false (.q 8 true (.q 9 false (.q 10 false (.e 11 (.q 12 false .n))))))))))))) [0] ?_
                  refine m_i 1 .i64 (Int.tmod (((tt / 3 : Nat) : Int) - (1 : Int)) 4) (Int.tmod (((tt / 3 : Nat) : Int) - (1 : Int)) 4) rfl ?_
                  have htm := tm4 (((tt / 3 : Nat) : Int) - (1 : Int))
                  refine m_i 0 .i64 (IntKind.i64.wrap ((Int.tmod (((tt / 3 : Nat) : Int) - (1 : Int)) 4) + (4 : Int))) ((Int.tmod (((tt / 3 : Nat) : Int) - (1 : Int)) 4) + (4 : Int)) (wrapN_i64 (by omega) (by omega)) ?_
                  refine m_i 0 .i64 (Int.tmod (((Int.tmod (((tt / 3 : Nat) : Int) - (1 : Int)) 4) + (4 : Int))) 4) ((((((tt / 3 : Nat) : Int) - (1 : Int)) % 4).toNat : Nat) : Int) (tm44 _) ?_
                  have hk4 : ((((tt / 3 : Nat) : Int) - (1 : Int)) % 4).toNat < 4 := (by omega)
                  refine m_ixA 3 b39 101 1 4 (((((tt / 3 : Nat) : Int) - (1 : Int)) % 4).toNat) .i64 (by omega) ?_
                  refine m_ldA 0 5 b39 (101 + (((((tt / 3 : Nat) : Int) - (1 : Int)) % 4).toNat) * 1) 38 (SState.cells c) (.int .u32 ((c.win.ring.counts.getD (((((tt / 3 : Nat) : Int) - (1 : Int)) % 4).toNat) 0 : Nat) : Int)) (st_cnt (by omega)) ?_
                  refine m_call 2 [] (counted_j ao41 cap42 (S ++ [tt]) (((tt / 3 : Nat) : Int) - (1 : Int)) (hstall) (by omega) (by omega)) (.cons 13 (.rd) .nil) ?_
                  rintro _ _ ⟨rfl, rfl⟩
                  refine m_thaw 2 ?_
                  refine m_ifn 1 (((c.win.ring.counts.getD (((((tt / 3 : Nat) : Int) - (1 : Int)) % 4).toNat) 0 : Nat) : Int) = ((subC (S ++ [tt]) (((tt / 3 : Nat) : Int) - (1 : Int)) : Nat) : Int)) (fun c50 => ?_) (fun c50 => absurd (congrArg (fun n : Nat => (n : Int)) (hist_cnt hst (by rw [show c.slot = tt from hfa.2.1]) (by omega) (by omega))) c50)
                  refine m_call 24 [] (rsub_j tt (by first | with_reducible assumption | omega | decide)) .nil ?_
                  rintro _ _ ⟨rfl, rfl⟩
                  refine m_i64 0 (((tt / 3 : Nat) : Int)) (tt / 3) (by omega) ?_
                  refine m_i 1 .i64 (IntKind.i64.wrap (((tt / 3 : Nat) : Int) - (2 : Int))) (((tt / 3 : Nat) : Int) - (2 : Int)) (wrapN_i64 (by omega) (by omega)) ?_
                  refine m_plan 4 [9, 10, 11] (.q 0 false (.q 1 false (.q 2 false (.q 3 false (.q 4 false (.q 5 false (.q 6 false (.q 7 false (.q 8 true (.q 9 false (.q 10 false (.e 11 (.q 12 false .n))))))))))))) [0] ?_
                  refine m_i 1 .i64 (Int.tmod (((tt / 3 : Nat) : Int) - (2 : Int)) 4) (Int.tmod (((tt / 3 : Nat) : Int) - (2 : Int)) 4) rfl ?_
                  have htm := tm4 (((tt / 3 : Nat) : Int) - (2 : Int))
                  refine m_i 0 .i64 (IntKind.i64.wrap ((Int.tmod (((tt / 3 : Nat) : Int) - (2 : Int)) 4) + (4 : Int))) ((Int.tmod (((tt / 3 : Nat) : Int) - (2 : Int)) 4) + (4 : Int)) (wrapN_i64 (by omega) (by omega)) ?_
                  refine m_i 0 .i64 (Int.tmod (((Int.tmod (((tt / 3 : Nat) : Int) - (2 : Int)) 4) + (4 : Int))) 4) ((((((tt / 3 : Nat) : Int) - (2 : Int)) % 4).toNat : Nat) : Int) (tm44 _) ?_
                  have hk4 : ((((tt / 3 : Nat) : Int) - (2 : Int)) % 4).toNat < 4 := (by omega)
                  refine m_ixA 3 b39 101 1 4 (((((tt / 3 : Nat) : Int) - (2 : Int)) % 4).toNat) .i64 (by omega) ?_
                  refine m_ldA 0 5 b39 (101 + (((((tt / 3 : Nat) : Int) - (2 : Int)) % 4).toNat) * 1) 38 (SState.cells c) (.int .u32 ((c.win.ring.counts.getD (((((tt / 3 : Nat) : Int) - (2 : Int)) % 4).toNat) 0 : Nat) : Int)) (st_cnt (by omega)) ?_
                  refine m_call 2 [] (counted_j ao41 cap42 (S ++ [tt]) (((tt / 3 : Nat) : Int) - (2 : Int)) (hstall) (by omega) (by omega)) (.cons 13 (.rd) .nil) ?_
                  rintro _ _ ⟨rfl, rfl⟩
                  refine m_thaw 2 ?_
                  refine m_ifn 1 (((c.win.ring.counts.getD (((((tt / 3 : Nat) : Int) - (2 : Int)) % 4).toNat) 0 : Nat) : Int) = ((subC (S ++ [tt]) (((tt / 3 : Nat) : Int) - (2 : Int)) : Nat) : Int)) (fun c51 => ?_) (fun c51 => absurd (congrArg (fun n : Nat => (n : Int)) (hist_cnt hst (by rw [show c.slot = tt from hfa.2.1]) (by omega) (by omega))) c51)
                  refine m_call 24 [] (rsub_j tt (by first | with_reducible assumption | omega | decide)) .nil ?_
                  rintro _ _ ⟨rfl, rfl⟩
                  refine m_i64 0 (((tt / 3 : Nat) : Int)) (tt / 3) (by omega) ?_
                  refine m_i 1 .i64 (IntKind.i64.wrap (((tt / 3 : Nat) : Int) - (3 : Int))) (((tt / 3 : Nat) : Int) - (3 : Int)) (wrapN_i64 (by omega) (by omega)) ?_
                  refine m_plan 4 [9, 10, 11] (.q 0 false (.q 1 false (.q 2 false (.q 3 false (.q 4 false (.q 5 false (.q 6 false (.q 7 false (.q 8 true (.q 9 false (.q 10 false (.e 11 (.q 12 false .n))))))))))))) [0] ?_
                  refine m_i 1 .i64 (Int.tmod (((tt / 3 : Nat) : Int) - (3 : Int)) 4) (Int.tmod (((tt / 3 : Nat) : Int) - (3 : Int)) 4) rfl ?_
                  have htm := tm4 (((tt / 3 : Nat) : Int) - (3 : Int))
                  refine m_i 0 .i64 (IntKind.i64.wrap ((Int.tmod (((tt / 3 : Nat) : Int) - (3 : Int)) 4) + (4 : Int))) ((Int.tmod (((tt / 3 : Nat) : Int) - (3 : Int)) 4) + (4 : Int)) (wrapN_i64 (by omega) (by omega)) ?_
                  refine m_i 0 .i64 (Int.tmod (((Int.tmod (((tt / 3 : Nat) : Int) - (3 : Int)) 4) + (4 : Int))) 4) ((((((tt / 3 : Nat) : Int) - (3 : Int)) % 4).toNat : Nat) : Int) (tm44 _) ?_
                  have hk4 : ((((tt / 3 : Nat) : Int) - (3 : Int)) % 4).toNat < 4 := (by omega)
                  refine m_ixA 3 b39 101 1 4 (((((tt / 3 : Nat) : Int) - (3 : Int)) % 4).toNat) .i64 (by omega) ?_
                  refine m_ldA 0 5 b39 (101 + (((((tt / 3 : Nat) : Int) - (3 : Int)) % 4).toNat) * 1) 38 (SState.cells c) (.int .u32 ((c.win.ring.counts.getD (((((tt / 3 : Nat) : Int) - (3 : Int)) % 4).toNat) 0 : Nat) : Int)) (st_cnt (by omega)) ?_
                  refine m_call 2 [] (counted_j ao41 cap42 (S ++ [tt]) (((tt / 3 : Nat) : Int) - (3 : Int)) (hstall) (by omega) (by omega)) (.cons 13 (.rd) .nil) ?_
                  rintro _ _ ⟨rfl, rfl⟩
                  refine m_thaw 2 ?_
                  refine m_ifn 1 (((c.win.ring.counts.getD (((((tt / 3 : Nat) : Int) - (3 : Int)) % 4).toNat) 0 : Nat) : Int) = ((subC (S ++ [tt]) (((tt / 3 : Nat) : Int) - (3 : Int)) : Nat) : Int)) (fun c52 => ?_) (fun c52 => absurd (congrArg (fun n : Nat => (n : Int)) (hist_cnt hst (by rw [show c.slot = tt from hfa.2.1]) (by omega) (by omega))) c52)
                  refine m_ldW 24 5 b39 38 363 (c.cells) (SState.size _) ?_
                  refine m_stW 0 10 363 (c.cells) (SState.size _) (SState.ones _) ?_
                  refine m_ldW 4 15 b3 38 363 (c.cells) (SState.size _) ?_
                  refine m_call 0 [] (stH_j c hst.ok) (.cons 4 (.refl) .nil) ?_
                  rintro _ _ ⟨rfl, rfl⟩
                  refine m_new 0 fun b53 => ?_
                  refine m_appR 0 10 23 32 32 hv hs (stH c) ((SrcW.cut 5 0 1 1).news (by kernel_rfl)) ⟨(by simp only [maxLen]; omega), (by omega)⟩ fun ao54 cap55 => ?_
                  refine m_i64 5 (((i : Nat) : Int) + (1 : Int)) (i + 1) (by omega) ?_
                  refine m_cells 6 b6 23 (hv sd) (hv (c.eps.next.seed)) (by rw [hX]) ?_
                  refine m_cells 2 b7 34 (nw.cells) ((c.eps.now).cells) (by rw [hW]) ?_
                  refine m_cells 3 b8 34 ((aj (aj (aj (aj (hv led) (hv sd)) (hv ny.start)) (hv ny.lock)) #[(.int .u32 ((ny.len : Nat) : Int))])) ((c.eps.next).cells) (by rw [hX]; rfl) ?_
                  exact m_back 2 (i + 1, ao41, cap42, S ++ [tt], ao54, cap55, hs ++ [stH c], c, cn) [9, 9, 9, 6, 2, 2, 4] ⟨⟨(by omega), hst.ok, (by rw [hcn.1]; exact hst), hfa.2.2.2.1, (by rw [hX]), last_snoc _ _, (show (S ++ [tt]).length ≤ i + 1 + 1 by omega), (show cn ≤ i + 1 by omega), (show 0 < (hs ++ [stH c]).length ∧ (hs ++ [stH c]).length ≤ i + 1 + 1 by rw [List.length_append, List.length_singleton]; omega)⟩, (by omega)⟩
        · -- yes
          refine m_i64 11 (((i : Nat) : Int) + (1 : Int)) (i + 1) (by omega) ?_
          exact m_back 2 (i + 1, a1, c1, S, a2, c2, hs, s, ct) [0, 0, 0, 0, 0, 0, 0] ⟨⟨(by omega), hso, hH, hled, hnl, hpar, (show S.length ≤ i + 1 + 1 by omega), (show ct ≤ i + 1 by omega), (show 0 < hs.length ∧ hs.length ≤ i + 1 + 1 by omega)⟩, (by omega)⟩
      · -- no
        exact m_ret 11 (.bool true) [] ⟨(rfl), by kernel_rfl⟩

end Go.Proofs.YtinmmamnldephaaDoor
