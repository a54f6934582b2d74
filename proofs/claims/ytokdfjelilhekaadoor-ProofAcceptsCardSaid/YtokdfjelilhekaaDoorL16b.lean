/- Layer 16's laws. -/
import Derived.Test.YtokdfjelilhekaaDoorL16s
import Derived.Test.YtokdfjelilhekaaDoorLib8
import Derived.Test.YtokdfjelilhekaaDoorLib7
namespace Go.Proofs.YtokdfjelilhekaaDoor
open Go Go.RowKit Go.Alm
set_option maxRecDepth 100000 in
set_option maxHeartbeats 4000000 in
theorem proofAccepts_j (ao : Option Addr) (cap : Nat) (l : List APut) (hl : AllU l) (hn : l.length ≤ 9223372036854775807) :
    Does Tryd.prog 10 #[(.slice ao l.length cap)] [(.rd ao (RL APut.cells l)), (.rd (some ⟨1, 0, none⟩) ((hw KL).toList))] [] (fun v H => v = (.bool true) ∧ H = []) := by
  refine m_fn fun F => ?_
  refine m_call 8 [] (awake16_j) (.cons 2 (.refl) .nil) ?_
  rintro _ _ ⟨rfl, rfl⟩
  refine m_if 14 (((l.length : Nat) : Int) > (20 : Int)) (fun c1 => ?_) (fun c1 => ?_)
  · -- yes
    exact m_ret 7 (.bool true) [] ⟨(rfl), by kernel_rfl⟩
  · -- no
    refine m_call 4 [] (tnew_j) (.cons 2 (.refl) .nil) ?_
    rintro _ _ ⟨tb2, mb3, rfl, rfl⟩
    refine m_loop (X := Nat × TM) 12 [3, 22, 23] (fun (x : Nat × TM) => [(24, (.int .i64 ((x.1 : Nat) : Int)))]) [1] (fun (x : Nat × TM) => [(.gen (mapRe intK (fun _ => True) accV mb3 x.2))]) (fun (x : Nat × TM) => (x.1 ≤ l.length) ∧ (TrOk x.2)) (fun (x : Nat × TM) => l.length - x.1) (0, []) (⟨Nat.zero_le _, TrOk.nil⟩) (fun x u4 hx => ?_)
    obtain ⟨i, m⟩ := x; dsimp only at hx
    obtain ⟨hi, hm⟩ := hx
    refine m_if 6 (((i : Nat) : Int) < ((l.length : Nat) : Int)) (fun c5 => ?_) (fun c5 => ?_)
    · -- yes
      refine m_ix 6 1 4 l.length i (RL APut.cells l) .i64 (by omega) (by rw [RL_length APut.size]; omega) ?_
      refine m_lxN 0 1 (i * 4) 4 (RL APut.cells l) ((l.getD i default).cells) (RL_whole (f := APut.cells) (sz := 4) (l := l) (k := i) APut.size default (by omega)) (APut.size _) ?_
      refine m_new 0 fun b6 => ?_
      refine m_st 0 0 ?_
      refine m_ld 7 3 ?_
      refine m_if 4 ((((((l.getD i default).a).s).size : Nat) : Int) > (300 : Int)) (fun c7 => ?_) (fun c7 => ?_)
      · -- yes
        exact m_ret 12 (.bool true) [] ⟨(rfl), by kernel_rfl⟩
      · -- no
        refine m_ld 5 3 ?_
        refine m_ld 1 3 ?_
        refine m_call 0 [1] (tset_j tb2 mb3 m ((l.getD i default).place) ((l.getD i default).a) ((AllU.get hl (by omega)).a)) (.cons 4 (.refl) .nil) ?_
        rintro _ _ ⟨rfl, rfl⟩
        refine m_i64 4 (((i : Nat) : Int) + (1 : Int)) (i + 1) (by omega) ?_
        exact m_back 2 (i + 1, setT m ((l.getD i default).place) ((l.getD i default).a)) [0, 1] ⟨⟨(by omega), setT_ok hm (hl.get (by omega)).a⟩, (by omega)⟩
    · -- no
      refine m_call 8 [] (root_j tb2 mb3 m (by first | with_reducible assumption | omega | decide)) (.cons 4 (.refl) (.cons 3 (.refl) (.cons 2 (.refl) .nil))) ?_
      refine bind_var (nodeL (getM m) 4 0) fun rt hrt => ?_
      have okrt : H32 rt := by rw [hrt]; exact nodeL_ok _ _ _
      rintro _ _ ⟨hv8, rfl⟩
      rw [show ((.agg (hv (nodeL (getM m) 4 0))) : Value) = (.agg (hv rt)) from by rw [hrt]] at hv8; subst hv8
      refine m_new 0 fun b9 => ?_
      refine m_st 0 0 ?_
      refine m_trim 9 ?_
      refine m_loop (X := Nat) 0 [3, 6] (fun (x : Nat) => [(42, (.int .i64 ((x : Nat) : Int)))]) [] (fun (x : Nat) => []) (fun (x : Nat) => (x ≤ 16)) (fun (x : Nat) => 16 - x) 0 (by omega) (fun q u10 hx => ?_)
      have hq := hx
      refine m_if 6 (((q : Nat) : Int) < (16 : Int)) (fun c11 => ?_) (fun c11 => ?_)
      · -- yes
        refine m_call 14 [] (tget_j tb2 mb3 m ((q : Nat) : Int)) (.cons 5 (.refl) (.cons 4 (.refl) .nil)) ?_
        rintro _ _ ⟨rfl, rfl⟩
        refine m_new 3 fun b12 => ?_
        refine m_st 0 0 ?_
        refine m_call 7 [] (path_j tb2 mb3 m ((q : Nat) : Int) (by first | with_reducible assumption | omega | decide)) (.cons 6 (.refl) (.cons 5 (.refl) (.cons 2 (.refl) .nil))) ?_
        refine bind_var (pathP (getM m) ((q : Nat) : Int)) fun P hP => ?_
        have okP : P.Ok := by rw [hP]; exact pathP_ok _ _
        rintro _ _ ⟨hv13, rfl⟩
        rw [show ((.tuple #[(.agg ((pathP (getM m) ((q : Nat) : Int)).cells)), (.int .i64 ((pathE ((q : Nat) : Int) : Nat) : Int))]) : Value) = (.tuple #[(.agg (P.cells)), (.int .i64 0)]) from by rw [hP, pathE_yes (placeOk_nat (by omega))]; rfl] at hv13; subst hv13
        refine m_new 3 fun b14 => ?_
        refine m_st 0 0 ?_
        refine m_ld 5 3 ?_
        refine m_call 0 [] (pbytes_j P okP) .nil ?_
        rintro _ _ ⟨ao15, cap16, rfl, rfl⟩
        refine m_rowle 3 ((pbL P).length) cap16 fun hc1 hc2 => ?_
        refine m_call 0 [] (pread_j ao15 cap16 (pbL P) (pbL_byt okP) (by rw [pbL_len okP]; decide) (hc1) (hc2)) (.cons 3 (.rd) .nil) ?_
        rintro _ _ ⟨hv17, rfl⟩
        rw [show ((.tuple #[(.agg ((rdP (pbL P)).cells)), (.int .i64 ((rdE (pbL P) : Nat) : Int))]) : Value) = (.tuple #[(.agg (P.cells)), (.int .i64 0)]) from by rw [(rd_bytes okP).1, (rd_bytes okP).2]; rfl] at hv17; subst hv17
        refine m_new 3 fun b18 => ?_
        refine m_st 0 0 ?_
        refine m_ld 13 3 ?_
        refine m_ld 0 5 ?_
        refine m_eqT 0 false (P.cells) (Path4.wf okP) ?_
        refine m_spb 10 (hasAt m ((q : Nat) : Int)) (fun c19 => ?_) (fun c19 => ?_)
        · -- yes
          refine m_ld 0 7 ?_
          refine m_ld 1 6 ?_
          refine m_ld 0 5 ?_
          refine m_call 0 [] (chk_j rt ((q : Nat) : Int) (acctAt m ((q : Nat) : Int)) P okrt (acctAt_ok hm _) okP) (.cons 2 (.refl) .nil) ?_
          rintro _ _ ⟨hv20, rfl⟩
          rw [show ((.int .i64 ((chkE rt ((q : Nat) : Int) (acctAt m ((q : Nat) : Int)) P : Nat) : Int)) : Value) = (.int .i64 0) from by rw [hrt, chk_yes (accE_at hm c19) (placeOk_nat (by omega)) (acc_lead (by omega) c19 hP)]; rfl] at hv20; subst hv20
          refine m_spb 5 (!(hasAt m ((q : Nat) : Int))) (fun c21 => absurd (c21.symm.trans (show _ = false from by rw [c19]; rfl)) (by decide)) (fun c21 => ?_)
          refine m_cut (X := Nat) 14 [3, 6, 9, 42, 66, 67, 70, 71, 72, 76, 77, 78, 79, 80, 81, 84, 85, 86, 93] (fun (x : Nat) => [(14, (.pointer (some ⟨x, 0, none⟩))), (15, (.int .i64 0))]) (fun (x : Nat) => [(.blk b14 (P.cells) 52), (.blk x (hv (leadL ((q : Nat) : Int) accNone P)) 50), (.blk b18 (P.cells) 52), (.row 5 1 ao15 ((pbL P).length) cap16 (B (pbL P))), (.blk b12 ((acctAt m ((q : Nat) : Int)).cells) 36), (.blk b9 (hv rt) 50), (.gen (mapRe intK (fun _ => True) accV mb3 m)), (.blk tb2 ((aj (aj (aj (aj (aj #[(.map (some mb3))] (hv (bareL 0))) (hv (bareL 1))) (hv (bareL 2))) (hv (bareL 3))) (hv (bareL 4)))) 93)]) (fun (x : Nat) => True) ?_ (fun b23 u24 hx => ?_)
          · -- in each order
            refine m_plan 0 [1, 7] (.q 0 false (.q 2 true (.f (.e 1 (.f (.e 3 (.q 4 false (.q 5 false (.q 6 false (.e 7 (.e 8 (.q 9 false .n))))))) (.e 7 (.e 3 (.q 4 false (.q 5 false (.q 6 false (.e 8 (.q 9 false .n))))))))) (.e 7 (.e 1 (.e 3 (.q 4 false (.q 5 false (.q 6 false (.e 8 (.q 9 false .n))))))))))) [2] ?_
            refine m_ld 1 3 ?_
            refine m_fork 0 ?_ ?_
            · -- one of them
              refine m_call 0 [] (anone_j) (.cons 2 (.refl) .nil) ?_
              rintro _ _ ⟨rfl, rfl⟩
              refine m_fork 0 ?_ ?_
              · -- one of them
                refine m_call 0 [] (lead_j ((q : Nat) : Int) accNone P accNone_ok okP) (.cons 2 (.refl) .nil) ?_
                rintro _ _ ⟨hv25, rfl⟩
                rw [show ((.tuple #[(.agg (hv (leadL ((q : Nat) : Int) accNone P))), (.int .i64 ((pathE ((q : Nat) : Int) : Nat) : Int))]) : Value) = (.tuple #[(.agg (hv (leadL ((q : Nat) : Int) accNone P))), (.int .i64 0)]) from by rw [pathE_yes (placeOk_nat (by omega))]; rfl] at hv25; subst hv25
                refine m_new 3 fun b26 => ?_
                refine m_thaw 0 ?_
                refine m_st 0 1 ?_
                refine m_thaw 2 ?_
                exact m_back 0 b26 [0, 0, 0, 0, 0, 0, 0, 0] trivial
              · -- one of them
                refine m_new 0 fun b27 => ?_
                refine m_thaw 0 ?_
                refine m_call 0 [] (lead_j ((q : Nat) : Int) accNone P accNone_ok okP) (.cons 2 (.refl) .nil) ?_
                rintro _ _ ⟨hv28, rfl⟩
                rw [show ((.tuple #[(.agg (hv (leadL ((q : Nat) : Int) accNone P))), (.int .i64 ((pathE ((q : Nat) : Int) : Nat) : Int))]) : Value) = (.tuple #[(.agg (hv (leadL ((q : Nat) : Int) accNone P))), (.int .i64 0)]) from by rw [pathE_yes (placeOk_nat (by omega))]; rfl] at hv28; subst hv28
                refine m_st 3 1 ?_
                refine m_thaw 2 ?_
                exact m_back 0 b27 [0, 0, 0, 0, 0, 0, 0, 0] trivial
            · -- one of them
              refine m_new 0 fun b29 => ?_
              refine m_call 0 [] (anone_j) (.cons 2 (.refl) .nil) ?_
              rintro _ _ ⟨rfl, rfl⟩
              refine m_thaw 0 ?_
              refine m_call 0 [] (lead_j ((q : Nat) : Int) accNone P accNone_ok okP) (.cons 2 (.refl) .nil) ?_
              rintro _ _ ⟨hv30, rfl⟩
              rw [show ((.tuple #[(.agg (hv (leadL ((q : Nat) : Int) accNone P))), (.int .i64 ((pathE ((q : Nat) : Int) : Nat) : Int))]) : Value) = (.tuple #[(.agg (hv (leadL ((q : Nat) : Int) accNone P))), (.int .i64 0)]) from by rw [pathE_yes (placeOk_nat (by omega))]; rfl] at hv30; subst hv30
              refine m_st 3 1 ?_
              refine m_thaw 2 ?_
              exact m_back 0 b29 [0, 0, 0, 0, 0, 0, 0, 0] trivial
          · -- behind it
            refine m_spb 8 (!(hasAt m ((q : Nat) : Int))) (fun c31 => absurd (c31.symm.trans (show _ = false from by rw [c19]; rfl)) (by decide)) (fun c31 => ?_)
            refine m_i64 12 (((q : Nat) : Int) + (1 : Int)) (q + 1) (by omega) ?_
            exact m_back 2 (q + 1) [5, 5, 5] ⟨(by omega), (by omega)⟩
        · -- no
          refine m_spb 10 (!(hasAt m ((q : Nat) : Int))) (fun c32 => ?_) (fun c32 => absurd (c32.symm.trans (show _ = true from by rw [c19]; rfl)) (by decide))
          refine m_ld 0 7 ?_
          refine m_ld 1 6 ?_
          refine m_ld 0 5 ?_
          refine m_call 0 [] (chk_j rt ((q : Nat) : Int) (acctAt m ((q : Nat) : Int)) P okrt (acctAt_ok hm _) okP) (.cons 2 (.refl) .nil) ?_
          rintro _ _ ⟨hv33, rfl⟩
          rw [show ((.int .i64 ((chkE rt ((q : Nat) : Int) (acctAt m ((q : Nat) : Int)) P : Nat) : Int)) : Value) = (.int .i64 1) from by rw [chk_acc (by rw [accE_none c19]; decide), accE_none c19]; rfl] at hv33; subst hv33
          refine m_cut (X := Nat) 9 [3, 6, 9, 42, 66, 67, 70, 71, 72, 84, 85, 86, 87, 88, 89, 90, 91, 92, 93] (fun (x : Nat) => [(14, (.pointer (some ⟨x, 0, none⟩))), (15, (.int .i64 0))]) (fun (x : Nat) => [(.blk b14 (P.cells) 52), (.blk x (hv rt) 50), (.blk b18 (P.cells) 52), (.row 5 1 ao15 ((pbL P).length) cap16 (B (pbL P))), (.blk b12 ((acctAt m ((q : Nat) : Int)).cells) 36), (.blk b9 (hv rt) 50), (.gen (mapRe intK (fun _ => True) accV mb3 m)), (.blk tb2 ((aj (aj (aj (aj (aj #[(.map (some mb3))] (hv (bareL 0))) (hv (bareL 1))) (hv (bareL 2))) (hv (bareL 3))) (hv (bareL 4)))) 93)]) (fun (x : Nat) => True) ?_ (fun b35 u36 hx => ?_)
          · -- in each order
            refine m_plan 0 [1, 7] (.q 0 false (.q 2 true (.f (.e 1 (.f (.e 3 (.q 4 false (.q 5 false (.q 6 false (.e 7 (.e 8 (.q 9 false .n))))))) (.e 7 (.e 3 (.q 4 false (.q 5 false (.q 6 false (.e 8 (.q 9 false .n))))))))) (.e 7 (.e 1 (.e 3 (.q 4 false (.q 5 false (.q 6 false (.e 8 (.q 9 false .n))))))))))) [2] ?_
            refine m_ld 1 3 ?_
            refine m_fork 0 ?_ ?_
            · -- one of them
              refine m_call 0 [] (anone_j) (.cons 2 (.refl) .nil) ?_
              rintro _ _ ⟨rfl, rfl⟩
              refine m_fork 0 ?_ ?_
              · -- one of them
                refine m_call 0 [] (lead_j ((q : Nat) : Int) accNone P accNone_ok okP) (.cons 2 (.refl) .nil) ?_
                rintro _ _ ⟨hv37, rfl⟩
                rw [show ((.tuple #[(.agg (hv (leadL ((q : Nat) : Int) accNone P))), (.int .i64 ((pathE ((q : Nat) : Int) : Nat) : Int))]) : Value) = (.tuple #[(.agg (hv rt)), (.int .i64 0)]) from by rw [hrt, none_lead (by omega) c19 hP, pathE_yes (placeOk_nat (by omega))]; rfl] at hv37; subst hv37
                refine m_new 3 fun b38 => ?_
                refine m_thaw 0 ?_
                refine m_st 0 1 ?_
                refine m_thaw 2 ?_
                exact m_back 0 b38 [0, 0, 0, 0, 0, 0, 0, 0] trivial
              · -- one of them
                refine m_new 0 fun b39 => ?_
                refine m_thaw 0 ?_
                refine m_call 0 [] (lead_j ((q : Nat) : Int) accNone P accNone_ok okP) (.cons 2 (.refl) .nil) ?_
                rintro _ _ ⟨hv40, rfl⟩
                rw [show ((.tuple #[(.agg (hv (leadL ((q : Nat) : Int) accNone P))), (.int .i64 ((pathE ((q : Nat) : Int) : Nat) : Int))]) : Value) = (.tuple #[(.agg (hv rt)), (.int .i64 0)]) from by rw [hrt, none_lead (by omega) c19 hP, pathE_yes (placeOk_nat (by omega))]; rfl] at hv40; subst hv40
                refine m_st 3 1 ?_
                refine m_thaw 2 ?_
                exact m_back 0 b39 [0, 0, 0, 0, 0, 0, 0, 0] trivial
            · -- one of them
              refine m_new 0 fun b41 => ?_
              refine m_call 0 [] (anone_j) (.cons 2 (.refl) .nil) ?_
              rintro _ _ ⟨rfl, rfl⟩
              refine m_thaw 0 ?_
              refine m_call 0 [] (lead_j ((q : Nat) : Int) accNone P accNone_ok okP) (.cons 2 (.refl) .nil) ?_
              rintro _ _ ⟨hv42, rfl⟩
              rw [show ((.tuple #[(.agg (hv (leadL ((q : Nat) : Int) accNone P))), (.int .i64 ((pathE ((q : Nat) : Int) : Nat) : Int))]) : Value) = (.tuple #[(.agg (hv rt)), (.int .i64 0)]) from by rw [hrt, none_lead (by omega) c19 hP, pathE_yes (placeOk_nat (by omega))]; rfl] at hv42; subst hv42
              refine m_st 3 1 ?_
              refine m_thaw 2 ?_
              exact m_back 0 b41 [0, 0, 0, 0, 0, 0, 0, 0] trivial
          · -- behind it
            refine m_spb 8 (!(hasAt m ((q : Nat) : Int))) (fun c43 => ?_) (fun c43 => absurd (c43.symm.trans (show _ = true from by rw [c19]; rfl)) (by decide))
            refine m_ld 0 4 ?_
            refine m_ld 0 8 ?_
            refine m_eqT 0 false (hv rt) (H32.wf okrt) ?_
            refine m_i64 9 (((q : Nat) : Int) + (1 : Int)) (q + 1) (by omega) ?_
            exact m_back 2 (q + 1) [5, 5, 5] ⟨(by omega), (by omega)⟩
      · -- no
        exact m_ret 11 (.bool true) [] ⟨(rfl), by kernel_rfl⟩

end Go.Proofs.YtokdfjelilhekaaDoor
