/- Layer 11's laws: one thing changed. -/
import Derived.Test.YtinmmamnldephaaDoorL11
import Derived.Test.YtinmmamnldephaaDoorLib8
namespace Go.Proofs.YtinmmamnldephaaDoor
open Go Go.RowKit Go.Alm
set_option maxRecDepth 100000 in
theorem linkOne_j (p : SState) (b : GBlk) (part : Nat) (hp : SState.Ok p) (hb : GBlk.Ok b) (_ : part < 256) :
    Does Tryd.prog 4 #[(.agg (p.cells)), (.agg (b.cells)), (.int .u8 ((part : Nat) : Int))] [(.rd (some ⟨1, 0, none⟩) ((hw KL).toList))] [] (fun v H => v = (.bool true) ∧ H = []) := by
  have hhp_slot := hp.slot; have hhp_len := hp.len; have hhp_count := hp.count; have hhp_win_min := hp.win.min; have hhp_win_ring_last := hp.win.ring.last; have hhp_win_ring_counts := hp.win.ring.counts; have hhp_eps_now_len := hp.eps.now.len; have hhp_eps_next_len := hp.eps.next.len; have hhb_slot := hb.slot
  refine m_fn fun F => ?_
  refine m_new 2 fun b1 => ?_
  refine m_new 0 fun b2 => ?_
  refine m_call 6 [] (awake11_j) (.cons 1 (.refl) .nil) ?_
  rintro _ _ ⟨rfl, rfl⟩
  refine m_ldW 9 3 b1 38 363 (p.cells) (SState.size _) ?_
  refine m_call 0 [] (stR_j p hp) .nil ?_
  rintro _ _ ⟨rfl, rfl⟩
  refine m_ifn 3 (SState.Right p) (fun c3 => ?_) (fun c3 => ?_)
  · -- no
    have okC : SState.Ok (childS p b) := childS_ok hp c3 hb
    refine m_ldW 4 3 b1 38 363 (p.cells) (SState.size _) ?_
    refine m_ld 0 2 ?_
    refine m_call 0 [] (child_j p b hp (by assumption) hb) (.cons 1 (.refl) .nil) ?_
    rintro _ _ ⟨rfl, rfl⟩
    refine m_new 3 fun b4 => ?_
    refine m_stW 0 0 363 ((childS p b).cells) (SState.size _) (SState.ones _) ?_
    refine m_ifn 10 (((childE p b : Nat) : Int) = (0 : Int)) (fun c5 => ?_) (fun c5 => ?_)
    · -- no
      refine m_ldW 4 2 b4 38 363 ((childS p b).cells) (SState.size _) ?_
      refine m_new 0 fun b6 => ?_
      refine m_stW 0 0 363 ((childS p b).cells) (SState.size _) (SState.ones _) ?_
      refine m_rem 6 .u8 (part) 9 ?_
      refine m_if 9 (((part % 9 : Nat) : Int) = (0 : Int)) (fun c7 => ?_) (fun c7 => ?_)
      · -- yes
        refine m_ld 3 2 ?_
        refine m_i 0 .u8 (IntKind.u8.wrap (((((childS p b).prev).getD 0 0 : Nat) : Int) + 1)) (((((((childS p b).prev).getD 0 0) + 1) % 256 : Nat) : Int)) (wrap1_u8 _) ?_
        refine m_stX 2 0 b6 0 38 (SState.cells (childS p b)) (SState.cells (chg (childS p b) 0)) #[(.int .u8 ((((((childS p b).prev).getD 0 0) + 1) % 256 : Nat) : Int))] (by rw [SState.size]; show 0 + 1 ≤ 363; decide) (chgc0 okC) (by kernel_rfl) ?_
        refine m_ldW 5 5 b1 38 363 (p.cells) (SState.size _) ?_
        refine m_ldW 0 3 b4 38 363 ((childS p b).cells) (SState.size _) ?_
        refine m_call 0 [] (follows_j p (childS p b) hp (childS_ok hp (by assumption) hb) (by assumption)) (.cons 1 (.refl) .nil) ?_
        rintro _ _ ⟨hv8, rfl⟩
        rw [show ((.int .i64 ((folwE p (childS p b) : Nat) : Int)) : Value) = (.int .i64 0) from by rw [folw_child (by omega)]; rfl] at hv8; subst hv8
        refine m_ldW 2 5 b1 38 363 (p.cells) (SState.size _) ?_
        refine m_ldW 0 2 b6 38 363 ((chg (childS p b) 0).cells) (SState.size _) ?_
        refine m_call 0 [] (follows_j p (chg (childS p b) 0) hp (chg_ok okC 0) (by assumption)) (.cons 1 (.refl) .nil) ?_
        rintro _ _ ⟨hv9, rfl⟩
        rw [show ((.int .i64 ((folwE p (chg (childS p b) 0) : Nat) : Int)) : Value) = (.int .i64 7) from by rw [chg_folw (by omega) okC]; rfl] at hv9; subst hv9
        exact m_ret 6 (.bool true) [] ⟨(rfl), by kernel_rfl⟩
      · -- no
        refine m_if 6 (((part % 9 : Nat) : Int) = (1 : Int)) (fun c10 => ?_) (fun c10 => ?_)
        · -- yes
          refine m_ld 2 2 ?_
          refine m_i 0 .u32 (IntKind.u32.wrap ((((childS p b).len : Nat) : Int) + 1)) ((((((childS p b).len) + 1) % 4294967296 : Nat) : Int)) (wrap1_u32 _) ?_
          refine m_stX 1 0 b6 97 38 (SState.cells (childS p b)) (SState.cells (chg (childS p b) 1)) #[(.int .u32 (((((childS p b).len) + 1) % 4294967296 : Nat) : Int))] (by rw [SState.size]; show 97 + 1 ≤ 363; decide) (chgc1 okC) (by kernel_rfl) ?_
          refine m_ldW 5 5 b1 38 363 (p.cells) (SState.size _) ?_
          refine m_ldW 0 3 b4 38 363 ((childS p b).cells) (SState.size _) ?_
          refine m_call 0 [] (follows_j p (childS p b) hp (childS_ok hp (by assumption) hb) (by assumption)) (.cons 1 (.refl) .nil) ?_
          rintro _ _ ⟨hv11, rfl⟩
          rw [show ((.int .i64 ((folwE p (childS p b) : Nat) : Int)) : Value) = (.int .i64 0) from by rw [folw_child (by omega)]; rfl] at hv11; subst hv11
          refine m_ldW 2 5 b1 38 363 (p.cells) (SState.size _) ?_
          refine m_ldW 0 2 b6 38 363 ((chg (childS p b) 1).cells) (SState.size _) ?_
          refine m_call 0 [] (follows_j p (chg (childS p b) 1) hp (chg_ok okC 1) (by assumption)) (.cons 1 (.refl) .nil) ?_
          rintro _ _ ⟨hv12, rfl⟩
          rw [show ((.int .i64 ((folwE p (chg (childS p b) 1) : Nat) : Int)) : Value) = (.int .i64 7) from by rw [chg_folw (by omega) okC]; rfl] at hv12; subst hv12
          exact m_ret 6 (.bool true) [] ⟨(rfl), by kernel_rfl⟩
        · -- no
          refine m_if 6 (((part % 9 : Nat) : Int) = (2 : Int)) (fun c13 => ?_) (fun c13 => ?_)
          · -- yes
            refine m_ld 2 2 ?_
            refine m_i 0 .u32 (IntKind.u32.wrap ((((childS p b).count : Nat) : Int) + 1)) ((((((childS p b).count) + 1) % 4294967296 : Nat) : Int)) (wrap1_u32 _) ?_
            refine m_stX 1 0 b6 98 38 (SState.cells (childS p b)) (SState.cells (chg (childS p b) 2)) #[(.int .u32 (((((childS p b).count) + 1) % 4294967296 : Nat) : Int))] (by rw [SState.size]; show 98 + 1 ≤ 363; decide) (chgc2 okC) (by kernel_rfl) ?_
            refine m_ldW 5 5 b1 38 363 (p.cells) (SState.size _) ?_
            refine m_ldW 0 3 b4 38 363 ((childS p b).cells) (SState.size _) ?_
            refine m_call 0 [] (follows_j p (childS p b) hp (childS_ok hp (by assumption) hb) (by assumption)) (.cons 1 (.refl) .nil) ?_
            rintro _ _ ⟨hv14, rfl⟩
            rw [show ((.int .i64 ((folwE p (childS p b) : Nat) : Int)) : Value) = (.int .i64 0) from by rw [folw_child (by omega)]; rfl] at hv14; subst hv14
            refine m_ldW 2 5 b1 38 363 (p.cells) (SState.size _) ?_
            refine m_ldW 0 2 b6 38 363 ((chg (childS p b) 2).cells) (SState.size _) ?_
            refine m_call 0 [] (follows_j p (chg (childS p b) 2) hp (chg_ok okC 2) (by assumption)) (.cons 1 (.refl) .nil) ?_
            rintro _ _ ⟨hv15, rfl⟩
            rw [show ((.int .i64 ((folwE p (chg (childS p b) 2) : Nat) : Int)) : Value) = (.int .i64 7) from by rw [chg_folw (by omega) okC]; rfl] at hv15; subst hv15
            exact m_ret 6 (.bool true) [] ⟨(rfl), by kernel_rfl⟩
          · -- no
            refine m_if 6 (((part % 9 : Nat) : Int) = (3 : Int)) (fun c16 => ?_) (fun c16 => ?_)
            · -- yes
              refine m_ld 3 2 ?_
              refine m_i 0 .u32 (IntKind.u32.wrap (((((childS p b).win).min : Nat) : Int) + 1)) (((((((childS p b).win).min) + 1) % 4294967296 : Nat) : Int)) (wrap1_u32 _) ?_
              refine m_stX 2 0 b6 99 38 (SState.cells (childS p b)) (SState.cells (chg (childS p b) 3)) #[(.int .u32 ((((((childS p b).win).min) + 1) % 4294967296 : Nat) : Int))] (by rw [SState.size]; show 99 + 1 ≤ 363; decide) (chgc3 okC) (by kernel_rfl) ?_
              refine m_ldW 5 5 b1 38 363 (p.cells) (SState.size _) ?_
              refine m_ldW 0 3 b4 38 363 ((childS p b).cells) (SState.size _) ?_
              refine m_call 0 [] (follows_j p (childS p b) hp (childS_ok hp (by assumption) hb) (by assumption)) (.cons 1 (.refl) .nil) ?_
              rintro _ _ ⟨hv17, rfl⟩
              rw [show ((.int .i64 ((folwE p (childS p b) : Nat) : Int)) : Value) = (.int .i64 0) from by rw [folw_child (by omega)]; rfl] at hv17; subst hv17
              refine m_ldW 2 5 b1 38 363 (p.cells) (SState.size _) ?_
              refine m_ldW 0 2 b6 38 363 ((chg (childS p b) 3).cells) (SState.size _) ?_
              refine m_call 0 [] (follows_j p (chg (childS p b) 3) hp (chg_ok okC 3) (by assumption)) (.cons 1 (.refl) .nil) ?_
              rintro _ _ ⟨hv18, rfl⟩
              rw [show ((.int .i64 ((folwE p (chg (childS p b) 3) : Nat) : Int)) : Value) = (.int .i64 7) from by rw [chg_folw (by omega) okC]; rfl] at hv18; subst hv18
              exact m_ret 6 (.bool true) [] ⟨(rfl), by kernel_rfl⟩
            · -- no
              refine m_if 6 (((part % 9 : Nat) : Int) = (4 : Int)) (fun c19 => ?_) (fun c19 => ?_)
              · -- yes
                refine m_ld 5 2 ?_
                refine m_i 0 .u32 (IntKind.u32.wrap (((((((childS p b).win).ring).counts).getD 0 0 : Nat) : Int) + 1)) (((((((((childS p b).win).ring).counts).getD 0 0) + 1) % 4294967296 : Nat) : Int)) (wrap1_u32 _) ?_
                refine m_stX 4 0 b6 101 38 (SState.cells (childS p b)) (SState.cells (chg (childS p b) 4)) #[(.int .u32 ((((((((childS p b).win).ring).counts).getD 0 0) + 1) % 4294967296 : Nat) : Int))] (by rw [SState.size]; show 101 + 1 ≤ 363; decide) (chgc4 okC) (by kernel_rfl) ?_
                refine m_ldW 5 5 b1 38 363 (p.cells) (SState.size _) ?_
                refine m_ldW 0 3 b4 38 363 ((childS p b).cells) (SState.size _) ?_
                refine m_call 0 [] (follows_j p (childS p b) hp (childS_ok hp (by assumption) hb) (by assumption)) (.cons 1 (.refl) .nil) ?_
                rintro _ _ ⟨hv20, rfl⟩
                rw [show ((.int .i64 ((folwE p (childS p b) : Nat) : Int)) : Value) = (.int .i64 0) from by rw [folw_child (by omega)]; rfl] at hv20; subst hv20
                refine m_ldW 2 5 b1 38 363 (p.cells) (SState.size _) ?_
                refine m_ldW 0 2 b6 38 363 ((chg (childS p b) 4).cells) (SState.size _) ?_
                refine m_call 0 [] (follows_j p (chg (childS p b) 4) hp (chg_ok okC 4) (by assumption)) (.cons 1 (.refl) .nil) ?_
                rintro _ _ ⟨hv21, rfl⟩
                rw [show ((.int .i64 ((folwE p (chg (childS p b) 4) : Nat) : Int)) : Value) = (.int .i64 7) from by rw [chg_folw (by omega) okC]; rfl] at hv21; subst hv21
                exact m_ret 6 (.bool true) [] ⟨(rfl), by kernel_rfl⟩
              · -- no
                refine m_if 6 (((part % 9 : Nat) : Int) = (5 : Int)) (fun c22 => ?_) (fun c22 => ?_)
                · -- yes
                  refine m_ld 5 2 ?_
                  refine m_i 0 .u8 (IntKind.u8.wrap (((((((childS p b).eps).now).seed).getD 3 0 : Nat) : Int) + 1)) (((((((((childS p b).eps).now).seed).getD 3 0) + 1) % 256 : Nat) : Int)) (wrap1_u8 _) ?_
                  refine m_stX 4 0 b6 140 38 (SState.cells (childS p b)) (SState.cells (chg (childS p b) 5)) #[(.int .u8 ((((((((childS p b).eps).now).seed).getD 3 0) + 1) % 256 : Nat) : Int))] (by rw [SState.size]; show 140 + 1 ≤ 363; decide) (chgc5 okC) (by kernel_rfl) ?_
                  refine m_ldW 5 5 b1 38 363 (p.cells) (SState.size _) ?_
                  refine m_ldW 0 3 b4 38 363 ((childS p b).cells) (SState.size _) ?_
                  refine m_call 0 [] (follows_j p (childS p b) hp (childS_ok hp (by assumption) hb) (by assumption)) (.cons 1 (.refl) .nil) ?_
                  rintro _ _ ⟨hv23, rfl⟩
                  rw [show ((.int .i64 ((folwE p (childS p b) : Nat) : Int)) : Value) = (.int .i64 0) from by rw [folw_child (by omega)]; rfl] at hv23; subst hv23
                  refine m_ldW 2 5 b1 38 363 (p.cells) (SState.size _) ?_
                  refine m_ldW 0 2 b6 38 363 ((chg (childS p b) 5).cells) (SState.size _) ?_
                  refine m_call 0 [] (follows_j p (chg (childS p b) 5) hp (chg_ok okC 5) (by assumption)) (.cons 1 (.refl) .nil) ?_
                  rintro _ _ ⟨hv24, rfl⟩
                  rw [show ((.int .i64 ((folwE p (chg (childS p b) 5) : Nat) : Int)) : Value) = (.int .i64 7) from by rw [chg_folw (by omega) okC]; rfl] at hv24; subst hv24
                  exact m_ret 6 (.bool true) [] ⟨(rfl), by kernel_rfl⟩
                · -- no
                  refine m_if 6 (((part % 9 : Nat) : Int) = (6 : Int)) (fun c25 => ?_) (fun c25 => ?_)
                  · -- yes
                    refine m_ld 5 2 ?_
                    refine m_i 0 .u8 (IntKind.u8.wrap (((((((childS p b).eps).next).lock).getD 31 0 : Nat) : Int) + 1)) (((((((((childS p b).eps).next).lock).getD 31 0) + 1) % 256 : Nat) : Int)) (wrap1_u8 _) ?_
                    refine m_stX 4 0 b6 361 38 (SState.cells (childS p b)) (SState.cells (chg (childS p b) 6)) #[(.int .u8 ((((((((childS p b).eps).next).lock).getD 31 0) + 1) % 256 : Nat) : Int))] (by rw [SState.size]; show 361 + 1 ≤ 363; decide) (chgc6 okC) (by kernel_rfl) ?_
                    refine m_ldW 5 5 b1 38 363 (p.cells) (SState.size _) ?_
                    refine m_ldW 0 3 b4 38 363 ((childS p b).cells) (SState.size _) ?_
                    refine m_call 0 [] (follows_j p (childS p b) hp (childS_ok hp (by assumption) hb) (by assumption)) (.cons 1 (.refl) .nil) ?_
                    rintro _ _ ⟨hv26, rfl⟩
                    rw [show ((.int .i64 ((folwE p (childS p b) : Nat) : Int)) : Value) = (.int .i64 0) from by rw [folw_child (by omega)]; rfl] at hv26; subst hv26
                    refine m_ldW 2 5 b1 38 363 (p.cells) (SState.size _) ?_
                    refine m_ldW 0 2 b6 38 363 ((chg (childS p b) 6).cells) (SState.size _) ?_
                    refine m_call 0 [] (follows_j p (chg (childS p b) 6) hp (chg_ok okC 6) (by assumption)) (.cons 1 (.refl) .nil) ?_
                    rintro _ _ ⟨hv27, rfl⟩
                    rw [show ((.int .i64 ((folwE p (chg (childS p b) 6) : Nat) : Int)) : Value) = (.int .i64 7) from by rw [chg_folw (by omega) okC]; rfl] at hv27; subst hv27
                    exact m_ret 6 (.bool true) [] ⟨(rfl), by kernel_rfl⟩
                  · -- no
                    refine m_if 6 (((part % 9 : Nat) : Int) = (7 : Int)) (fun c28 => ?_) (fun c28 => ?_)
                    · -- yes
                      refine m_ld 4 2 ?_
                      refine m_i 0 .u32 (IntKind.u32.wrap ((((((childS p b).eps).next).len : Nat) : Int) + 1)) ((((((((childS p b).eps).next).len) + 1) % 4294967296 : Nat) : Int)) (wrap1_u32 _) ?_
                      refine m_stX 3 0 b6 362 38 (SState.cells (childS p b)) (SState.cells (chg (childS p b) 7)) #[(.int .u32 (((((((childS p b).eps).next).len) + 1) % 4294967296 : Nat) : Int))] (by rw [SState.size]; show 362 + 1 ≤ 363; decide) (chgc7 okC) (by kernel_rfl) ?_
                      refine m_ldW 5 5 b1 38 363 (p.cells) (SState.size _) ?_
                      refine m_ldW 0 3 b4 38 363 ((childS p b).cells) (SState.size _) ?_
                      refine m_call 0 [] (follows_j p (childS p b) hp (childS_ok hp (by assumption) hb) (by assumption)) (.cons 1 (.refl) .nil) ?_
                      rintro _ _ ⟨hv29, rfl⟩
                      rw [show ((.int .i64 ((folwE p (childS p b) : Nat) : Int)) : Value) = (.int .i64 0) from by rw [folw_child (by omega)]; rfl] at hv29; subst hv29
                      refine m_ldW 2 5 b1 38 363 (p.cells) (SState.size _) ?_
                      refine m_ldW 0 2 b6 38 363 ((chg (childS p b) 7).cells) (SState.size _) ?_
                      refine m_call 0 [] (follows_j p (chg (childS p b) 7) hp (chg_ok okC 7) (by assumption)) (.cons 1 (.refl) .nil) ?_
                      rintro _ _ ⟨hv30, rfl⟩
                      rw [show ((.int .i64 ((folwE p (chg (childS p b) 7) : Nat) : Int)) : Value) = (.int .i64 7) from by rw [chg_folw (by omega) okC]; rfl] at hv30; subst hv30
                      exact m_ret 6 (.bool true) [] ⟨(rfl), by kernel_rfl⟩
                    · -- no
                      refine m_if 6 (((part % 9 : Nat) : Int) = (8 : Int)) (fun c31 => ?_) (fun c31 => absurd (by omega) c31)
                      refine m_ld 4 2 ?_
                      refine m_i 0 .u32 (IntKind.u32.wrap ((((((childS p b).win).ring).last : Nat) : Int) + 1)) ((((((((childS p b).win).ring).last) + 1) % 4294967296 : Nat) : Int)) (wrap1_u32 _) ?_
                      refine m_stX 3 0 b6 100 38 (SState.cells (childS p b)) (SState.cells (chg (childS p b) 8)) #[(.int .u32 (((((((childS p b).win).ring).last) + 1) % 4294967296 : Nat) : Int))] (by rw [SState.size]; show 100 + 1 ≤ 363; decide) (chgc8 okC) (by kernel_rfl) ?_
                      refine m_ldW 5 5 b1 38 363 (p.cells) (SState.size _) ?_
                      refine m_ldW 0 3 b4 38 363 ((childS p b).cells) (SState.size _) ?_
                      refine m_call 0 [] (follows_j p (childS p b) hp (childS_ok hp (by assumption) hb) (by assumption)) (.cons 1 (.refl) .nil) ?_
                      rintro _ _ ⟨hv32, rfl⟩
                      rw [show ((.int .i64 ((folwE p (childS p b) : Nat) : Int)) : Value) = (.int .i64 0) from by rw [folw_child (by omega)]; rfl] at hv32; subst hv32
                      refine m_ldW 2 5 b1 38 363 (p.cells) (SState.size _) ?_
                      refine m_ldW 0 2 b6 38 363 ((chg (childS p b) 8).cells) (SState.size _) ?_
                      refine m_call 0 [] (follows_j p (chg (childS p b) 8) hp (chg_ok okC 8) (by assumption)) (.cons 1 (.refl) .nil) ?_
                      rintro _ _ ⟨hv33, rfl⟩
                      rw [show ((.int .i64 ((folwE p (chg (childS p b) 8) : Nat) : Int)) : Value) = (.int .i64 7) from by rw [chg_folw (by omega) okC]; rfl] at hv33; subst hv33
                      exact m_ret 6 (.bool true) [] ⟨(rfl), by kernel_rfl⟩
    · -- yes
      refine m_ldW 2 4 b1 38 363 (p.cells) (SState.size _) ?_
      refine m_ld 1 3 ?_
      refine m_ld 1 3 ?_
      refine m_ld 1 3 ?_
      refine m_call 1 [] (follows_j p (⟨Z32, b.led, b.draw, b.slot, 0, 0, (⟨0, (⟨0, [0, 0, 0, 0]⟩ : RRing)⟩ : RWin), (⟨(⟨Z32, Z32, Z32, Z32, 0⟩ : EData), (⟨Z32, Z32, Z32, Z32, 0⟩ : EData)⟩ : EPair)⟩ : SState) hp ⟨H32.zero, hb.led, hb.draw, (by first | omega | decide | exact nar_lt _ | with_reducible assumption | (dsimp only; first | omega | exact nar_lt _)), (by first | omega | decide | exact nar_lt _ | with_reducible assumption | (dsimp only; first | omega | exact nar_lt _)), (by first | omega | decide | exact nar_lt _ | with_reducible assumption | (dsimp only; first | omega | exact nar_lt _)), ⟨(by first | omega | decide | exact nar_lt _ | with_reducible assumption | (dsimp only; first | omega | exact nar_lt _)), ⟨(by first | omega | decide | exact nar_lt _ | with_reducible assumption | (dsimp only; first | omega | exact nar_lt _)), (show N4 [0, 0, 0, 0] from by decide)⟩⟩, ⟨⟨H32.zero, H32.zero, H32.zero, H32.zero, (by first | omega | decide | exact nar_lt _ | with_reducible assumption | (dsimp only; first | omega | exact nar_lt _))⟩, ⟨H32.zero, H32.zero, H32.zero, H32.zero, (by first | omega | decide | exact nar_lt _ | with_reducible assumption | (dsimp only; first | omega | exact nar_lt _))⟩⟩⟩ (by assumption)) (.cons 1 (.refl) .nil) ?_
      rintro _ _ ⟨rfl, rfl⟩
      exact m_ret 7 (.bool (decide (((folwE p (⟨Z32, b.led, b.draw, b.slot, 0, 0, (⟨0, (⟨0, [0, 0, 0, 0]⟩ : RRing)⟩ : RWin), (⟨(⟨Z32, Z32, Z32, Z32, 0⟩ : EData), (⟨Z32, Z32, Z32, Z32, 0⟩ : EData)⟩ : EPair)⟩ : SState) : Nat) : Int) = ((childE p b : Nat) : Int)))) [] ⟨(by rw [folw_blk (b := b) rfl (by omega)]; first | done | exact congrArg Value.bool (decide_eq_true rfl)), by kernel_rfl⟩
  · -- yes
    exact m_ret 7 (.bool true) [] ⟨(rfl), by kernel_rfl⟩

end Go.Proofs.YtinmmamnldephaaDoor
