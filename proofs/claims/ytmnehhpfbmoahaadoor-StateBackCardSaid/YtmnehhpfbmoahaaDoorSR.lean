/- Layer 9's readers by the machine. -/
import Derived.Test.YtmnehhpfbmoahaaDoorSJ
import Derived.Test.YtmnehhpfbmoahaaDoorWP9
import Derived.Test.YtmnehhpfbmoahaaDoorLib5
import Derived.Test.YtmnehhpfbmoahaaDoorLib6
namespace Go.Proofs.YtmnehhpfbmoahaaDoor
open Go Go.RowKit Go.Alm
set_option maxRecDepth 100000 in
theorem stread_j (ao : Option Addr) (cap : Nat) (l : List Nat) (hB : Byt l) (hl : l.length ≤ 2000000) :
    Does Tryd.prog 70 #[(.slice ao l.length cap)] [(.rd ao (B l))] [] (fun v H => v = (.tuple #[(.agg ((stRd l).cells)), (.int .i64 ((stE l : Nat) : Int))]) ∧ H = []) := by
  refine m_fnM fun F => ?_
  refine m_new 2 fun b1 => ?_
  refine m_new 5 fun b2 => ?_
  refine m_call 5 [] (rnew_o ao cap l (by first | with_reducible assumption | omega | decide)) (.cons 1 (.refl) .nil) ?_
  rintro _ _ ⟨br3, ao4, cap5, rfl, rfl⟩
  refine m_new 0 fun b6 => ?_
  refine m_st 0 0 ?_
  refine m_call 5 [] (parts_j b2) .nil ?_
  rintro _ _ ⟨b7, rfl, rfl⟩
  refine m_range (X := Option Addr × Nat) 3 156 22 #[(.pointer (some ⟨b7, 0, none⟩))] (ptsV b2) (fun i x => [(.blk b6 #[(.pointer (some ⟨br3, 0, none⟩))] 204), (.gen (rrRe 255 br3 x.1 x.2 (rsAt l i))), (.blk b2 ((stAt l i).cells) 101)]) [(.blk b7 #[(.pointer (some ⟨b2, 0, none⟩))] 243)] [1, 1, 1, 0] (ao4, cap5) (fun l I hY x => (iter_j (Option Addr × Nat) l b2 b7 I x hY).mono fun _ _ ⟨y, _, h⟩ => ⟨y, h⟩) (Up.s (Up.s (Up.s (Up.s (Up.s (Up.s (Up.s (Up.s (Up.s (Up.s (Up.s (Up.s (Up.s (Up.s (Up.s (Up.s (Up.s (Up.s (Up.s (Up.s (Up.s (Up.s Up.z ?_) ?_) ?_) ?_) ?_) ?_) ?_) ?_) ?_) ?_) ?_) ?_) ?_) ?_) ?_) ?_) ?_) ?_) ?_) ?_) ?_) ?_) (fun D x => ?_)
  · -- round 0
    intro x F' lp'; refine ⟨by kernel_rfl, ?_⟩
    obtain ⟨a, c⟩ := x
    refine m_ld 10 3 ?_
    refine m_call 0 [1] (rhash_o br3 a c (rsAt l 0)) .nil ?_
    rintro _ _ ⟨ao8, cap9, rfl, rfl⟩
    refine m_stX 1 2 b2 0 101 (SState.cells (stAt l 0)) (SState.cells (stAt l 1)) (hv (rsAt l 0).hash) (by rw [hv_size, SState.size]; decide) (setc0 (stAt_ok hB 0) (rsAt l 0).hash ((rsAt l 0).num 4)) (by kernel_rfl) ?_
    refine m_pick [1, 0, 0] ?_
    exact m_rend 2 (ao8, cap9)
  · -- round 1
    intro x F' lp'; refine ⟨by kernel_rfl, ?_⟩
    obtain ⟨a, c⟩ := x
    refine m_ld 10 3 ?_
    refine m_call 0 [1] (rhash_o br3 a c (rsAt l 1)) .nil ?_
    rintro _ _ ⟨ao10, cap11, rfl, rfl⟩
    refine m_stX 1 2 b2 32 101 (SState.cells (stAt l 1)) (SState.cells (stAt l 2)) (hv (rsAt l 1).hash) (by rw [hv_size, SState.size]; decide) (setc1 (stAt_ok hB 1) (rsAt l 1).hash ((rsAt l 1).num 4)) (by kernel_rfl) ?_
    refine m_pick [1, 0, 0] ?_
    exact m_rend 2 (ao10, cap11)
  · -- round 2
    intro x F' lp'; refine ⟨by kernel_rfl, ?_⟩
    obtain ⟨a, c⟩ := x
    refine m_ld 10 3 ?_
    refine m_call 0 [1] (rhash_o br3 a c (rsAt l 2)) .nil ?_
    rintro _ _ ⟨ao12, cap13, rfl, rfl⟩
    refine m_stX 1 2 b2 64 101 (SState.cells (stAt l 2)) (SState.cells (stAt l 3)) (hv (rsAt l 2).hash) (by rw [hv_size, SState.size]; decide) (setc2 (stAt_ok hB 2) (rsAt l 2).hash ((rsAt l 2).num 4)) (by kernel_rfl) ?_
    refine m_pick [1, 0, 0] ?_
    exact m_rend 2 (ao12, cap13)
  · -- round 3
    intro x F' lp'; refine ⟨by kernel_rfl, ?_⟩
    obtain ⟨a, c⟩ := x
    refine m_ld 10 3 ?_
    refine m_call 0 [1] (rnum_o br3 a c (rsAt l 3) (rsAt_byt hB _)) .nil ?_
    rintro _ _ ⟨ao14, cap15, rfl, rfl⟩
    refine m_stX 1 2 b2 96 101 (SState.cells (stAt l 3)) (SState.cells (stAt l 4)) #[.int .u32 (((rsAt l 3).num 4 : Nat) : Int)] (by rw [SState.size]; show 96 + 1 ≤ 363; decide) (setc3 (stAt_ok hB 3) (rsAt l 3).hash ((rsAt l 3).num 4)) (by kernel_rfl) ?_
    refine m_pick [1, 0, 0] ?_
    exact m_rend 2 (ao14, cap15)
  · -- round 4
    intro x F' lp'; refine ⟨by kernel_rfl, ?_⟩
    obtain ⟨a, c⟩ := x
    refine m_ld 10 3 ?_
    refine m_call 0 [1] (rnum_o br3 a c (rsAt l 4) (rsAt_byt hB _)) .nil ?_
    rintro _ _ ⟨ao16, cap17, rfl, rfl⟩
    refine m_stX 1 2 b2 97 101 (SState.cells (stAt l 4)) (SState.cells (stAt l 5)) #[.int .u32 (((rsAt l 4).num 4 : Nat) : Int)] (by rw [SState.size]; show 97 + 1 ≤ 363; decide) (setc4 (stAt_ok hB 4) (rsAt l 4).hash ((rsAt l 4).num 4)) (by kernel_rfl) ?_
    refine m_pick [1, 0, 0] ?_
    exact m_rend 2 (ao16, cap17)
  · -- round 5
    intro x F' lp'; refine ⟨by kernel_rfl, ?_⟩
    obtain ⟨a, c⟩ := x
    refine m_ld 10 3 ?_
    refine m_call 0 [1] (rnum_o br3 a c (rsAt l 5) (rsAt_byt hB _)) .nil ?_
    rintro _ _ ⟨ao18, cap19, rfl, rfl⟩
    refine m_stX 1 2 b2 98 101 (SState.cells (stAt l 5)) (SState.cells (stAt l 6)) #[.int .u32 (((rsAt l 5).num 4 : Nat) : Int)] (by rw [SState.size]; show 98 + 1 ≤ 363; decide) (setc5 (stAt_ok hB 5) (rsAt l 5).hash ((rsAt l 5).num 4)) (by kernel_rfl) ?_
    refine m_pick [1, 0, 0] ?_
    exact m_rend 2 (ao18, cap19)
  · -- round 6
    intro x F' lp'; refine ⟨by kernel_rfl, ?_⟩
    obtain ⟨a, c⟩ := x
    refine m_ld 10 3 ?_
    refine m_call 0 [1] (rnum_o br3 a c (rsAt l 6) (rsAt_byt hB _)) .nil ?_
    rintro _ _ ⟨ao20, cap21, rfl, rfl⟩
    refine m_stX 1 2 b2 99 101 (SState.cells (stAt l 6)) (SState.cells (stAt l 7)) #[.int .u32 (((rsAt l 6).num 4 : Nat) : Int)] (by rw [SState.size]; show 99 + 1 ≤ 363; decide) (setc6 (stAt_ok hB 6) (rsAt l 6).hash ((rsAt l 6).num 4)) (by kernel_rfl) ?_
    refine m_pick [1, 0, 0] ?_
    exact m_rend 2 (ao20, cap21)
  · -- round 7
    intro x F' lp'; refine ⟨by kernel_rfl, ?_⟩
    obtain ⟨a, c⟩ := x
    refine m_ld 10 3 ?_
    refine m_call 0 [1] (rnum_o br3 a c (rsAt l 7) (rsAt_byt hB _)) .nil ?_
    rintro _ _ ⟨ao22, cap23, rfl, rfl⟩
    refine m_stX 1 2 b2 100 101 (SState.cells (stAt l 7)) (SState.cells (stAt l 8)) #[.int .u32 (((rsAt l 7).num 4 : Nat) : Int)] (by rw [SState.size]; show 100 + 1 ≤ 363; decide) (setc7 (stAt_ok hB 7) (rsAt l 7).hash ((rsAt l 7).num 4)) (by kernel_rfl) ?_
    refine m_pick [1, 0, 0] ?_
    exact m_rend 2 (ao22, cap23)
  · -- round 8
    intro x F' lp'; refine ⟨by kernel_rfl, ?_⟩
    obtain ⟨a, c⟩ := x
    refine m_ld 10 3 ?_
    refine m_call 0 [1] (rnum_o br3 a c (rsAt l 8) (rsAt_byt hB _)) .nil ?_
    rintro _ _ ⟨ao24, cap25, rfl, rfl⟩
    refine m_stX 1 2 b2 101 101 (SState.cells (stAt l 8)) (SState.cells (stAt l 9)) #[.int .u32 (((rsAt l 8).num 4 : Nat) : Int)] (by rw [SState.size]; show 101 + 1 ≤ 363; decide) (setc8 (stAt_ok hB 8) (rsAt l 8).hash ((rsAt l 8).num 4)) (by kernel_rfl) ?_
    refine m_pick [1, 0, 0] ?_
    exact m_rend 2 (ao24, cap25)
  · -- round 9
    intro x F' lp'; refine ⟨by kernel_rfl, ?_⟩
    obtain ⟨a, c⟩ := x
    refine m_ld 10 3 ?_
    refine m_call 0 [1] (rnum_o br3 a c (rsAt l 9) (rsAt_byt hB _)) .nil ?_
    rintro _ _ ⟨ao26, cap27, rfl, rfl⟩
    refine m_stX 1 2 b2 102 101 (SState.cells (stAt l 9)) (SState.cells (stAt l 10)) #[.int .u32 (((rsAt l 9).num 4 : Nat) : Int)] (by rw [SState.size]; show 102 + 1 ≤ 363; decide) (setc9 (stAt_ok hB 9) (rsAt l 9).hash ((rsAt l 9).num 4)) (by kernel_rfl) ?_
    refine m_pick [1, 0, 0] ?_
    exact m_rend 2 (ao26, cap27)
  · -- round 10
    intro x F' lp'; refine ⟨by kernel_rfl, ?_⟩
    obtain ⟨a, c⟩ := x
    refine m_ld 10 3 ?_
    refine m_call 0 [1] (rnum_o br3 a c (rsAt l 10) (rsAt_byt hB _)) .nil ?_
    rintro _ _ ⟨ao28, cap29, rfl, rfl⟩
    refine m_stX 1 2 b2 103 101 (SState.cells (stAt l 10)) (SState.cells (stAt l 11)) #[.int .u32 (((rsAt l 10).num 4 : Nat) : Int)] (by rw [SState.size]; show 103 + 1 ≤ 363; decide) (setc10 (stAt_ok hB 10) (rsAt l 10).hash ((rsAt l 10).num 4)) (by kernel_rfl) ?_
    refine m_pick [1, 0, 0] ?_
    exact m_rend 2 (ao28, cap29)
  · -- round 11
    intro x F' lp'; refine ⟨by kernel_rfl, ?_⟩
    obtain ⟨a, c⟩ := x
    refine m_ld 10 3 ?_
    refine m_call 0 [1] (rnum_o br3 a c (rsAt l 11) (rsAt_byt hB _)) .nil ?_
    rintro _ _ ⟨ao30, cap31, rfl, rfl⟩
    refine m_stX 1 2 b2 104 101 (SState.cells (stAt l 11)) (SState.cells (stAt l 12)) #[.int .u32 (((rsAt l 11).num 4 : Nat) : Int)] (by rw [SState.size]; show 104 + 1 ≤ 363; decide) (setc11 (stAt_ok hB 11) (rsAt l 11).hash ((rsAt l 11).num 4)) (by kernel_rfl) ?_
    refine m_pick [1, 0, 0] ?_
    exact m_rend 2 (ao30, cap31)
  · -- round 12
    intro x F' lp'; refine ⟨by kernel_rfl, ?_⟩
    obtain ⟨a, c⟩ := x
    refine m_ld 10 3 ?_
    refine m_call 0 [1] (rhash_o br3 a c (rsAt l 12)) .nil ?_
    rintro _ _ ⟨ao32, cap33, rfl, rfl⟩
    refine m_stX 1 2 b2 105 101 (SState.cells (stAt l 12)) (SState.cells (stAt l 13)) (hv (rsAt l 12).hash) (by rw [hv_size, SState.size]; decide) (setc12 (stAt_ok hB 12) (rsAt l 12).hash ((rsAt l 12).num 4)) (by kernel_rfl) ?_
    refine m_pick [1, 0, 0] ?_
    exact m_rend 2 (ao32, cap33)
  · -- round 13
    intro x F' lp'; refine ⟨by kernel_rfl, ?_⟩
    obtain ⟨a, c⟩ := x
    refine m_ld 10 3 ?_
    refine m_call 0 [1] (rhash_o br3 a c (rsAt l 13)) .nil ?_
    rintro _ _ ⟨ao34, cap35, rfl, rfl⟩
    refine m_stX 1 2 b2 137 101 (SState.cells (stAt l 13)) (SState.cells (stAt l 14)) (hv (rsAt l 13).hash) (by rw [hv_size, SState.size]; decide) (setc13 (stAt_ok hB 13) (rsAt l 13).hash ((rsAt l 13).num 4)) (by kernel_rfl) ?_
    refine m_pick [1, 0, 0] ?_
    exact m_rend 2 (ao34, cap35)
  · -- round 14
    intro x F' lp'; refine ⟨by kernel_rfl, ?_⟩
    obtain ⟨a, c⟩ := x
    refine m_ld 10 3 ?_
    refine m_call 0 [1] (rhash_o br3 a c (rsAt l 14)) .nil ?_
    rintro _ _ ⟨ao36, cap37, rfl, rfl⟩
    refine m_stX 1 2 b2 169 101 (SState.cells (stAt l 14)) (SState.cells (stAt l 15)) (hv (rsAt l 14).hash) (by rw [hv_size, SState.size]; decide) (setc14 (stAt_ok hB 14) (rsAt l 14).hash ((rsAt l 14).num 4)) (by kernel_rfl) ?_
    refine m_pick [1, 0, 0] ?_
    exact m_rend 2 (ao36, cap37)
  · -- round 15
    intro x F' lp'; refine ⟨by kernel_rfl, ?_⟩
    obtain ⟨a, c⟩ := x
    refine m_ld 10 3 ?_
    refine m_call 0 [1] (rhash_o br3 a c (rsAt l 15)) .nil ?_
    rintro _ _ ⟨ao38, cap39, rfl, rfl⟩
    refine m_stX 1 2 b2 201 101 (SState.cells (stAt l 15)) (SState.cells (stAt l 16)) (hv (rsAt l 15).hash) (by rw [hv_size, SState.size]; decide) (setc15 (stAt_ok hB 15) (rsAt l 15).hash ((rsAt l 15).num 4)) (by kernel_rfl) ?_
    refine m_pick [1, 0, 0] ?_
    exact m_rend 2 (ao38, cap39)
  · -- round 16
    intro x F' lp'; refine ⟨by kernel_rfl, ?_⟩
    obtain ⟨a, c⟩ := x
    refine m_ld 10 3 ?_
    refine m_call 0 [1] (rnum_o br3 a c (rsAt l 16) (rsAt_byt hB _)) .nil ?_
    rintro _ _ ⟨ao40, cap41, rfl, rfl⟩
    refine m_stX 1 2 b2 233 101 (SState.cells (stAt l 16)) (SState.cells (stAt l 17)) #[.int .u32 (((rsAt l 16).num 4 : Nat) : Int)] (by rw [SState.size]; show 233 + 1 ≤ 363; decide) (setc16 (stAt_ok hB 16) (rsAt l 16).hash ((rsAt l 16).num 4)) (by kernel_rfl) ?_
    refine m_pick [1, 0, 0] ?_
    exact m_rend 2 (ao40, cap41)
  · -- round 17
    intro x F' lp'; refine ⟨by kernel_rfl, ?_⟩
    obtain ⟨a, c⟩ := x
    refine m_ld 10 3 ?_
    refine m_call 0 [1] (rhash_o br3 a c (rsAt l 17)) .nil ?_
    rintro _ _ ⟨ao42, cap43, rfl, rfl⟩
    refine m_stX 1 2 b2 234 101 (SState.cells (stAt l 17)) (SState.cells (stAt l 18)) (hv (rsAt l 17).hash) (by rw [hv_size, SState.size]; decide) (setc17 (stAt_ok hB 17) (rsAt l 17).hash ((rsAt l 17).num 4)) (by kernel_rfl) ?_
    refine m_pick [1, 0, 0] ?_
    exact m_rend 2 (ao42, cap43)
  · -- round 18
    intro x F' lp'; refine ⟨by kernel_rfl, ?_⟩
    obtain ⟨a, c⟩ := x
    refine m_ld 10 3 ?_
    refine m_call 0 [1] (rhash_o br3 a c (rsAt l 18)) .nil ?_
    rintro _ _ ⟨ao44, cap45, rfl, rfl⟩
    refine m_stX 1 2 b2 266 101 (SState.cells (stAt l 18)) (SState.cells (stAt l 19)) (hv (rsAt l 18).hash) (by rw [hv_size, SState.size]; decide) (setc18 (stAt_ok hB 18) (rsAt l 18).hash ((rsAt l 18).num 4)) (by kernel_rfl) ?_
    refine m_pick [1, 0, 0] ?_
    exact m_rend 2 (ao44, cap45)
  · -- round 19
    intro x F' lp'; refine ⟨by kernel_rfl, ?_⟩
    obtain ⟨a, c⟩ := x
    refine m_ld 10 3 ?_
    refine m_call 0 [1] (rhash_o br3 a c (rsAt l 19)) .nil ?_
    rintro _ _ ⟨ao46, cap47, rfl, rfl⟩
    refine m_stX 1 2 b2 298 101 (SState.cells (stAt l 19)) (SState.cells (stAt l 20)) (hv (rsAt l 19).hash) (by rw [hv_size, SState.size]; decide) (setc19 (stAt_ok hB 19) (rsAt l 19).hash ((rsAt l 19).num 4)) (by kernel_rfl) ?_
    refine m_pick [1, 0, 0] ?_
    exact m_rend 2 (ao46, cap47)
  · -- round 20
    intro x F' lp'; refine ⟨by kernel_rfl, ?_⟩
    obtain ⟨a, c⟩ := x
    refine m_ld 10 3 ?_
    refine m_call 0 [1] (rhash_o br3 a c (rsAt l 20)) .nil ?_
    rintro _ _ ⟨ao48, cap49, rfl, rfl⟩
    refine m_stX 1 2 b2 330 101 (SState.cells (stAt l 20)) (SState.cells (stAt l 21)) (hv (rsAt l 20).hash) (by rw [hv_size, SState.size]; decide) (setc20 (stAt_ok hB 20) (rsAt l 20).hash ((rsAt l 20).num 4)) (by kernel_rfl) ?_
    refine m_pick [1, 0, 0] ?_
    exact m_rend 2 (ao48, cap49)
  · -- round 21
    intro x F' lp'; refine ⟨by kernel_rfl, ?_⟩
    obtain ⟨a, c⟩ := x
    refine m_ld 10 3 ?_
    refine m_call 0 [1] (rnum_o br3 a c (rsAt l 21) (rsAt_byt hB _)) .nil ?_
    rintro _ _ ⟨ao50, cap51, rfl, rfl⟩
    refine m_stX 1 2 b2 362 101 (SState.cells (stAt l 21)) (SState.cells (stAt l 22)) #[.int .u32 (((rsAt l 21).num 4 : Nat) : Int)] (by rw [SState.size]; show 362 + 1 ≤ 363; decide) (setc21 (stAt_ok hB 21) (rsAt l 21).hash ((rsAt l 21).num 4)) (by kernel_rfl) ?_
    refine m_pick [1, 0, 0] ?_
    exact m_rend 2 (ao50, cap51)
  obtain ⟨a, c⟩ := x
  refine m_ld 4 3 ?_
  refine m_call 0 [] (rend_o br3 a c (rsAt l 22)) (.cons 4 (.refl) .nil) ?_
  rintro _ _ ⟨rfl, rfl⟩
  refine m_sp 8 ((((rsAt l 22).end : Nat) : Int) = (0 : Int)) (fun c52 => ?_) (fun c52 => ?_)
  · -- yes
    refine m_ld 0 5 ?_
    refine m_call 0 [] (stR_j (stAt l 22) (stAt_ok hB 22)) .nil ?_
    rintro _ _ ⟨rfl, rfl⟩
    refine m_ifn 4 (SState.Right (stAt l 22)) (fun c53 => ?_) (fun c53 => ?_)
    · -- no
      refine m_ifn 9 ((((rsAt l 22).end : Nat) : Int) = (0 : Int)) (fun c54 => ?_) (fun c54 => absurd (c52) c54)
      refine m_ld 4 5 ?_
      refine m_st 0 4 ?_
      exact m_retMC 4 D 0 [6, 0] (.tuple #[(.agg ((stAt l 22).cells)), (.int .i64 0)]) [] ⟨(by rw [(st_good (by omega) (by assumption)).1, (st_good (by omega) (by assumption)).2]; kernel_rfl), by kernel_rfl⟩
    · -- yes
      refine m_st 16 4 ?_
      exact m_retMC 5 D 0 [6, 0] (.tuple #[(.agg ((⟨Z32, Z32, Z32, 0, 0, 0, (⟨0, (⟨0, [0, 0, 0, 0]⟩ : RRing)⟩ : RWin), (⟨(⟨Z32, Z32, Z32, Z32, 0⟩ : EData), (⟨Z32, Z32, Z32, Z32, 0⟩ : EData)⟩ : EPair)⟩ : SState).cells)), (.int .i64 2)]) [] ⟨(by rw [(st_form (by omega) (by assumption)).1, (st_form (by omega) (by assumption)).2]; kernel_rfl), by kernel_rfl⟩
  · -- no
    refine m_ifn 16 ((((rsAt l 22).end : Nat) : Int) = (0 : Int)) (fun c55 => absurd c55 (c52)) (fun c55 => ?_)
    refine m_st 4 4 ?_
    exact m_retMC 5 D 0 [6, 0] (.tuple #[(.agg ((⟨Z32, Z32, Z32, 0, 0, 0, (⟨0, (⟨0, [0, 0, 0, 0]⟩ : RRing)⟩ : RWin), (⟨(⟨Z32, Z32, Z32, Z32, 0⟩ : EData), (⟨Z32, Z32, Z32, Z32, 0⟩ : EData)⟩ : EPair)⟩ : SState).cells)), (.int .i64 (((rsAt l 22).end : Nat) : Int))]) [] ⟨(by rw [(st_bad (by omega)).1, (st_bad (by omega)).2]; kernel_rfl), by kernel_rfl⟩

set_option maxRecDepth 100000 in
theorem back9_j (pb : Nat) (ao : Option Addr) (cap : Nat) (l : List Nat) (r : Rs) (hc : l.length ≤ cap) (hl : l.length ≤ 1000000) (hB : Byt l) (hrB : Byt r.l) :
    Does Tryd.prog 127 #[(.pointer (some ⟨pb, 0, none⟩))] [(.rd ao (B l))] [(.gen (rfRe 210 pb ao cap l r))] (fun v H => v = (.agg ((⟨r.hash, (r.take 32).hash, ((r.take 32).take 32).hash, (((r.take 32).take 32).take 32).hash, ((((r.take 32).take 32).take 32).take 32).num 4⟩ : EData).cells)) ∧ H = [(.gen (rfRe 210 pb ao cap l (((((r.take 32).take 32).take 32).take 32).take 4)))]) := by
  have hq := Rs.num_lt (Byt.rtake (Byt.rtake (Byt.rtake (Byt.rtake hrB 32) 32) 32) 32) (Nat.le_refl 4)
  refine m_fn fun F => ?_
  refine m_new 2 fun b1 => ?_
  refine m_new 5 fun b2 => ?_
  refine m_st 0 0 ?_
  refine m_call 5 [2] (rhash_f pb ao cap l r (by first | with_reducible assumption | omega | decide) (by first | with_reducible assumption | omega | decide)) (.cons 1 (.refl) .nil) ?_
  rintro _ _ ⟨rfl, rfl⟩
  refine m_st 1 1 ?_
  refine m_call 5 [0] (rhash_f pb ao cap l (r.take 32) (by first | with_reducible assumption | omega | decide) (by first | with_reducible assumption | omega | decide)) (.cons 1 (.refl) .nil) ?_
  rintro _ _ ⟨rfl, rfl⟩
  refine m_st 1 1 ?_
  refine m_call 5 [0] (rhash_f pb ao cap l ((r.take 32).take 32) (by first | with_reducible assumption | omega | decide) (by first | with_reducible assumption | omega | decide)) (.cons 1 (.refl) .nil) ?_
  rintro _ _ ⟨rfl, rfl⟩
  refine m_st 1 1 ?_
  refine m_call 5 [0] (rhash_f pb ao cap l (((r.take 32).take 32).take 32) (by first | with_reducible assumption | omega | decide) (by first | with_reducible assumption | omega | decide)) (.cons 1 (.refl) .nil) ?_
  rintro _ _ ⟨rfl, rfl⟩
  refine m_st 1 1 ?_
  refine m_call 5 [0] (rnumber_f pb ao cap l ((((r.take 32).take 32).take 32).take 32) (by first | with_reducible assumption | omega | decide) (by first | with_reducible assumption | omega | decide) hB) (.cons 1 (.refl) .nil) ?_
  rintro _ _ ⟨rfl, rfl⟩
  refine m_u32 0 (((((((r.take 32).take 32).take 32).take 32).num 4 : Nat) : Int)) (((((r.take 32).take 32).take 32).take 32).num 4) (by omega) ?_
  refine m_st 1 1 ?_
  refine m_ld 4 3 ?_
  refine m_st 0 2 ?_
  exact m_retC 3 [4] (.agg ((⟨r.hash, (r.take 32).hash, ((r.take 32).take 32).hash, (((r.take 32).take 32).take 32).hash, ((((r.take 32).take 32).take 32).take 32).num 4⟩ : EData).cells)) [0] ⟨(rfl), by kernel_rfl⟩

set_option maxRecDepth 100000 in
theorem r9read_j (ao : Option Addr) (cap : Nat) (l : List Nat) (hB : Byt l) (hl : l.length ≤ 1000000) (hc : l.length ≤ cap) :
    Does Tryd.prog 71 #[(.slice ao l.length cap)] [(.rd ao (B l))] [] (fun v H => v = (.tuple #[(.agg ((stRd l).cells)), (.int .i64 ((stE l : Nat) : Int))]) ∧ H = []) := by
  have hn := rsAt_n32 hB
  have hn3 := hn 3
  have hn4 := hn 4
  have hn5 := hn 5
  have hn6 := hn 6
  have hn7 := hn 7
  have hn8 := hn 8
  have hn9 := hn 9
  have hn10 := hn 10
  have hn11 := hn 11
  have hn16 := hn 16
  have hn21 := hn 21
  refine m_fn fun F => ?_
  refine m_new 2 fun b1 => ?_
  refine m_new 7 fun b2 => ?_
  refine m_new 6 fun b3 => ?_
  refine m_st 0 0 ?_
  refine m_view 1 (.gen (rfRe 210 b2 ao cap l ⟨0, l⟩)) (.rf (by kernel_rfl)) ?_
  refine m_call 5 [1] (rhash_f b2 ao cap l (rsAt l 0) (by first | with_reducible assumption | omega | decide) (by first | with_reducible assumption | omega | decide)) (.cons 1 (.refl) .nil) ?_
  rintro _ _ ⟨rfl, rfl⟩
  refine m_st 1 1 ?_
  refine m_call 5 [0] (rhash_f b2 ao cap l (rsAt l 1) (by first | with_reducible assumption | omega | decide) (by first | with_reducible assumption | omega | decide)) (.cons 1 (.refl) .nil) ?_
  rintro _ _ ⟨rfl, rfl⟩
  refine m_st 1 1 ?_
  refine m_call 5 [0] (rhash_f b2 ao cap l (rsAt l 2) (by first | with_reducible assumption | omega | decide) (by first | with_reducible assumption | omega | decide)) (.cons 1 (.refl) .nil) ?_
  rintro _ _ ⟨rfl, rfl⟩
  refine m_st 1 1 ?_
  refine m_call 5 [0] (rnumber_f b2 ao cap l (rsAt l 3) (by first | with_reducible assumption | omega | decide) (by first | with_reducible assumption | omega | decide) hB) (.cons 1 (.refl) .nil) ?_
  rintro _ _ ⟨rfl, rfl⟩
  refine m_u32 0 ((((rsAt l 3).num 4 : Nat) : Int)) ((rsAt l 3).num 4) (by omega) ?_
  refine m_st 1 1 ?_
  refine m_call 5 [0] (rnumber_f b2 ao cap l (rsAt l 4) (by first | with_reducible assumption | omega | decide) (by first | with_reducible assumption | omega | decide) hB) (.cons 1 (.refl) .nil) ?_
  rintro _ _ ⟨rfl, rfl⟩
  refine m_u32 0 ((((rsAt l 4).num 4 : Nat) : Int)) ((rsAt l 4).num 4) (by omega) ?_
  refine m_st 1 1 ?_
  refine m_call 5 [0] (rnumber_f b2 ao cap l (rsAt l 5) (by first | with_reducible assumption | omega | decide) (by first | with_reducible assumption | omega | decide) hB) (.cons 1 (.refl) .nil) ?_
  rintro _ _ ⟨rfl, rfl⟩
  refine m_u32 0 ((((rsAt l 5).num 4 : Nat) : Int)) ((rsAt l 5).num 4) (by omega) ?_
  refine m_st 1 1 ?_
  refine m_call 5 [0] (rnumber_f b2 ao cap l (rsAt l 6) (by first | with_reducible assumption | omega | decide) (by first | with_reducible assumption | omega | decide) hB) (.cons 1 (.refl) .nil) ?_
  rintro _ _ ⟨rfl, rfl⟩
  refine m_u32 0 ((((rsAt l 6).num 4 : Nat) : Int)) ((rsAt l 6).num 4) (by omega) ?_
  refine m_st 2 1 ?_
  refine m_call 5 [0] (rnumber_f b2 ao cap l (rsAt l 7) (by first | with_reducible assumption | omega | decide) (by first | with_reducible assumption | omega | decide) hB) (.cons 1 (.refl) .nil) ?_
  rintro _ _ ⟨rfl, rfl⟩
  refine m_u32 0 ((((rsAt l 7).num 4 : Nat) : Int)) ((rsAt l 7).num 4) (by omega) ?_
  refine m_new 1 fun b4 => ?_
  refine m_st 0 0 ?_
  refine m_call 25 [1] (rnumber_f b2 ao cap l (rsAt l 8) (by first | with_reducible assumption | omega | decide) (by first | with_reducible assumption | omega | decide) hB) (.cons 1 (.refl) .nil) ?_
  rintro _ _ ⟨rfl, rfl⟩
  refine m_u32 0 ((((rsAt l 8).num 4 : Nat) : Int)) ((rsAt l 8).num 4) (by omega) ?_
  refine m_st 2 1 ?_
  refine m_call 24 [0] (rnumber_f b2 ao cap l (rsAt l 9) (by first | with_reducible assumption | omega | decide) (by first | with_reducible assumption | omega | decide) hB) (.cons 1 (.refl) .nil) ?_
  rintro _ _ ⟨rfl, rfl⟩
  refine m_u32 0 ((((rsAt l 9).num 4 : Nat) : Int)) ((rsAt l 9).num 4) (by omega) ?_
  refine m_st 2 1 ?_
  refine m_call 24 [0] (rnumber_f b2 ao cap l (rsAt l 10) (by first | with_reducible assumption | omega | decide) (by first | with_reducible assumption | omega | decide) hB) (.cons 1 (.refl) .nil) ?_
  rintro _ _ ⟨rfl, rfl⟩
  refine m_u32 0 ((((rsAt l 10).num 4 : Nat) : Int)) ((rsAt l 10).num 4) (by omega) ?_
  refine m_st 2 1 ?_
  refine m_call 24 [0] (rnumber_f b2 ao cap l (rsAt l 11) (by first | with_reducible assumption | omega | decide) (by first | with_reducible assumption | omega | decide) hB) (.cons 1 (.refl) .nil) ?_
  rintro _ _ ⟨rfl, rfl⟩
  refine m_u32 0 ((((rsAt l 11).num 4 : Nat) : Int)) ((rsAt l 11).num 4) (by omega) ?_
  refine m_st 2 1 ?_
  refine m_ld 24 3 ?_
  refine m_st 2 2 ?_
  refine m_call 5 [0] (back9_j b2 ao cap l (rsAt l 12) (by first | with_reducible assumption | omega | decide) (by first | with_reducible assumption | omega | decide) hB (rsAt_byt hB _)) (.cons 1 (.refl) .nil) ?_
  rintro _ _ ⟨rfl, rfl⟩
  refine m_st 2 2 ?_
  refine m_call 5 [0] (back9_j b2 ao cap l (rsAt l 17) (by first | with_reducible assumption | omega | decide) (by first | with_reducible assumption | omega | decide) hB (rsAt_byt hB _)) (.cons 1 (.refl) .nil) ?_
  rintro _ _ ⟨rfl, rfl⟩
  refine m_st 2 2 ?_
  refine m_call 6 [] (rend_f b2 ao cap l (rsAt l 22) (by first | with_reducible assumption | omega | decide) (by first | with_reducible assumption | omega | decide)) (.cons 2 (.refl) (.cons 1 (.refl) .nil)) ?_
  rintro _ _ ⟨rfl, rfl⟩
  refine m_ifn 3 ((((rsAt l 22).end : Nat) : Int) = (0 : Int)) (fun c5 => ?_) (fun c5 => ?_)
  · -- no
    refine m_go 4 ?_
    refine m_cells 2 b3 113 ((aj (aj (aj (aj (aj (hv ((rsAt l 0).hash)) (hv ((rsAt l 1).hash))) (hv ((rsAt l 2).hash))) #[(.int .u32 (((rsAt l 3).num 4 : Nat) : Int)), (.int .u32 (((rsAt l 4).num 4 : Nat) : Int)), (.int .u32 (((rsAt l 5).num 4 : Nat) : Int)), (.int .u32 (((rsAt l 6).num 4 : Nat) : Int)), (.int .u32 (((rsAt l 7).num 4 : Nat) : Int)), (.int .u32 (((rsAt l 8).num 4 : Nat) : Int)), (.int .u32 (((rsAt l 9).num 4 : Nat) : Int)), (.int .u32 (((rsAt l 10).num 4 : Nat) : Int)), (.int .u32 (((rsAt l 11).num 4 : Nat) : Int))]) ((⟨(rsAt l 12).hash, ((rsAt l 12).take 32).hash, (((rsAt l 12).take 32).take 32).hash, ((((rsAt l 12).take 32).take 32).take 32).hash, (((((rsAt l 12).take 32).take 32).take 32).take 32).num 4⟩ : EData).cells)) ((⟨(rsAt l 17).hash, ((rsAt l 17).take 32).hash, (((rsAt l 17).take 32).take 32).hash, ((((rsAt l 17).take 32).take 32).take 32).hash, (((((rsAt l 17).take 32).take 32).take 32).take 32).num 4⟩ : EData).cells))) (SState.cells (stAt l 22)) (by kernel_rfl) ?_
    refine m_ld 1 4 ?_
    refine m_call 0 [] (rstR_j (stAt l 22) (stAt_ok hB 22)) .nil ?_
    rintro _ _ ⟨rfl, rfl⟩
    refine m_ifn 3 (SState.Right (stAt l 22)) (fun c6 => ?_) (fun c6 => ?_)
    · -- no
      refine m_ld 4 4 ?_
      refine m_st 0 3 ?_
      exact m_retC 4 [5, 0] (.tuple #[(.agg ((stAt l 22).cells)), (.int .i64 0)]) [] ⟨(by rw [(st_good (by omega) (by assumption)).1, (st_good (by omega) (by assumption)).2]; kernel_rfl), by kernel_rfl⟩
    · -- yes
      refine m_st 3 3 ?_
      exact m_retC 5 [5, 0] (.tuple #[(.agg ((⟨Z32, Z32, Z32, 0, 0, 0, (⟨0, (⟨0, [0, 0, 0, 0]⟩ : RRing)⟩ : RWin), (⟨(⟨Z32, Z32, Z32, Z32, 0⟩ : EData), (⟨Z32, Z32, Z32, Z32, 0⟩ : EData)⟩ : EPair)⟩ : SState).cells)), (.int .i64 2)]) [] ⟨(by rw [(st_form (by omega) (by assumption)).1, (st_form (by omega) (by assumption)).2]; kernel_rfl), by kernel_rfl⟩
  · -- yes
    refine m_call 4 [] (rend_f b2 ao cap l (rsAt l 22) (by first | with_reducible assumption | omega | decide) (by first | with_reducible assumption | omega | decide)) (.cons 2 (.refl) (.cons 1 (.refl) .nil)) ?_
    rintro _ _ ⟨rfl, rfl⟩
    refine m_st 0 3 ?_
    exact m_retC 5 [5, 0] (.tuple #[(.agg ((⟨Z32, Z32, Z32, 0, 0, 0, (⟨0, (⟨0, [0, 0, 0, 0]⟩ : RRing)⟩ : RWin), (⟨(⟨Z32, Z32, Z32, Z32, 0⟩ : EData), (⟨Z32, Z32, Z32, Z32, 0⟩ : EData)⟩ : EPair)⟩ : SState).cells)), (.int .i64 (((rsAt l 22).end : Nat) : Int))]) [] ⟨(by rw [(st_bad (by omega)).1, (st_bad (by omega)).2]; kernel_rfl), by kernel_rfl⟩

end Go.Proofs.YtmnehhpfbmoahaaDoor
