/- Layer 11's laws. -/
import Derived.Test.YtinmmamnldephaaDoorLJ
import Derived.Test.YtinmmamnldephaaDoorLib7
import Derived.Test.YtinmmamnldephaaDoorLib5
namespace Go.Proofs.YtinmmamnldephaaDoor
open Go Go.RowKit Go.Alm

set_option maxRecDepth 100000 in
theorem awake11_j :
    Does Tryd.prog 18 #[] [(.rd (some ⟨1, 0, none⟩) ((hw KL).toList))] [] (fun v H => v = (.bool true) ∧ H = []) := by
  refine m_fn fun F => ?_
  refine m_call 8 [] (stateG_j (hlit 1) (hlit_ok (n := 1) (by decide))) .nil ?_
  refine bind_var awg fun g hg => ?_
  have okg : SState.Ok g := by rw [hg]; exact awg_ok
  have rg : SState.Right g := by rw [hg]; exact awg_right
  rintro _ _ ⟨hv1, rfl⟩
  rw [show ((.agg ((stateF (hlit 1)).cells)) : Value) = (.agg (g.cells)) from by rw [hg]; rfl] at hv1; subst hv1
  refine m_new 0 fun b2 => ?_
  refine m_stW 0 0 363 (g.cells) (SState.size _) (SState.ones _) ?_
  refine m_ldW 4 2 b2 38 363 (g.cells) (SState.size _) ?_
  refine m_call 1 [] (child_j g (⟨3, Z32, Z32⟩ : GBlk) okg (rg) ⟨(by first | omega | decide | exact nar_lt _ | with_reducible assumption | (dsimp only; first | omega | exact nar_lt _)), H32.zero, H32.zero⟩) (.cons 1 (.refl) .nil) ?_
  refine bind_var awa fun ya hya => ?_
  have okya : SState.Ok ya := by rw [hya]; exact awa_ok
  have rya : SState.Right ya := by rw [hya]; exact awa_right
  rintro _ _ ⟨hv3, rfl⟩
  rw [show ((.tuple #[(.agg ((childS g (⟨3, Z32, Z32⟩ : GBlk)).cells)), (.int .i64 ((childE g (⟨3, Z32, Z32⟩ : GBlk) : Nat) : Int))]) : Value) = (.tuple #[(.agg (ya.cells)), (.int .i64 0)]) from by rw [hya, hg, show childE awg (⟨3, Z32, Z32⟩ : GBlk) = 0 from awE1]; rfl] at hv3; subst hv3
  refine m_new 3 fun b4 => ?_
  refine m_stW 0 0 363 (ya.cells) (SState.size _) (SState.ones _) ?_
  refine m_ldW 5 2 b4 38 363 (ya.cells) (SState.size _) ?_
  refine m_call 1 [] (child_j ya (⟨9, Z32, Z32⟩ : GBlk) okya (rya) ⟨(by first | omega | decide | exact nar_lt _ | with_reducible assumption | (dsimp only; first | omega | exact nar_lt _)), H32.zero, H32.zero⟩) (.cons 1 (.refl) .nil) ?_
  refine bind_var awb fun yb hyb => ?_
  have okyb : SState.Ok yb := by rw [hyb]; exact awb_ok
  have ryb : SState.Right yb := by rw [hyb]; exact awb_right
  rintro _ _ ⟨hv5, rfl⟩
  rw [show ((.tuple #[(.agg ((childS ya (⟨9, Z32, Z32⟩ : GBlk)).cells)), (.int .i64 ((childE ya (⟨9, Z32, Z32⟩ : GBlk) : Nat) : Int))]) : Value) = (.tuple #[(.agg (yb.cells)), (.int .i64 0)]) from by rw [hyb, hya, show childE awa (⟨9, Z32, Z32⟩ : GBlk) = 0 from awE2]; rfl] at hv5; subst hv5
  refine m_new 3 fun b6 => ?_
  refine m_stW 0 0 363 (yb.cells) (SState.size _) (SState.ones _) ?_
  refine m_ldW 5 4 b2 38 363 (g.cells) (SState.size _) ?_
  refine m_ldW 0 3 b4 38 363 (ya.cells) (SState.size _) ?_
  refine m_ldW 0 2 b6 38 363 (yb.cells) (SState.size _) ?_
  refine m_slit 0 38 363 SState.cells [g, ya, yb] SState.size fun b7 => ?_
  refine m_call 0 [] (line_j (some ⟨b7, 0, none⟩) 3 [g, ya, yb] (by rw [hg, hya, hyb]; exact aw3_all) (by simp) (fun _ => rg)) (.cons 2 (.rd) (.cons 1 (.refl) .nil)) ?_
  rintro _ _ ⟨hv8, rfl⟩
  rw [show ((.tuple #[(.int .i64 (((lineL [g, ya, yb]).1 : Nat) : Int)), (.int .i64 (((lineL [g, ya, yb]).2 : Nat) : Int))]) : Value) = (.tuple #[(.int .i64 3), (.int .i64 0)]) from by rw [hg, hya, hyb, awLn1]; rfl] at hv8; subst hv8
  refine m_ldW 9 5 b2 38 363 (g.cells) (SState.size _) ?_
  refine m_ldW 0 3 b6 38 363 (yb.cells) (SState.size _) ?_
  refine m_slit 0 38 363 SState.cells [g, yb] SState.size fun b9 => ?_
  refine m_call 0 [] (line_j (some ⟨b9, 0, none⟩) 2 [g, yb] (by rw [hg, hyb]; exact aw2_all) (by simp) (fun _ => rg)) (.cons 2 (.rd) (.cons 1 (.refl) .nil)) ?_
  rintro _ _ ⟨hv10, rfl⟩
  rw [show ((.tuple #[(.int .i64 (((lineL [g, yb]).1 : Nat) : Int)), (.int .i64 (((lineL [g, yb]).2 : Nat) : Int))]) : Value) = (.tuple #[(.int .i64 1), (.int .i64 7)]) from by rw [hg, hyb, awLn2]; rfl] at hv10; subst hv10
  refine m_ldW 9 6 b2 38 363 (g.cells) (SState.size _) ?_
  refine m_ldW 0 5 b4 38 363 (ya.cells) (SState.size _) ?_
  refine m_call 0 [] (follows_j g ya okg okya (rg)) (.cons 1 (.refl) .nil) ?_
  rintro _ _ ⟨hv11, rfl⟩
  rw [show ((.int .i64 ((folwE g ya : Nat) : Int)) : Value) = (.int .i64 0) from by rw [hg, hya, awF1]; rfl] at hv11; subst hv11
  refine m_ldW 2 5 b4 38 363 (ya.cells) (SState.size _) ?_
  refine m_ldW 0 4 b6 38 363 (yb.cells) (SState.size _) ?_
  refine m_call 0 [] (follows_j ya yb okya okyb (rya)) (.cons 1 (.refl) .nil) ?_
  rintro _ _ ⟨hv12, rfl⟩
  rw [show ((.int .i64 ((folwE ya yb : Nat) : Int)) : Value) = (.int .i64 0) from by rw [hya, hyb, awF2]; rfl] at hv12; subst hv12
  refine m_ldW 3 6 b2 38 363 (g.cells) (SState.size _) ?_
  refine m_ldW 0 4 b6 38 363 (yb.cells) (SState.size _) ?_
  refine m_call 0 [] (follows_j g yb okg okyb (rg)) (.cons 1 (.refl) .nil) ?_
  rintro _ _ ⟨hv13, rfl⟩
  rw [show ((.int .i64 ((folwE g yb : Nat) : Int)) : Value) = (.int .i64 7) from by rw [hg, hyb, awF3]; rfl] at hv13; subst hv13
  refine m_ldW 3 4 b6 38 363 (yb.cells) (SState.size _) ?_
  refine m_ldW 0 5 b4 38 363 (ya.cells) (SState.size _) ?_
  refine m_call 0 [] (follows_j yb ya okyb okya (ryb)) (.cons 1 (.refl) .nil) ?_
  rintro _ _ ⟨hv14, rfl⟩
  rw [show ((.int .i64 ((folwE yb ya : Nat) : Int)) : Value) = (.int .i64 6) from by rw [hyb, hya, awF4]; rfl] at hv14; subst hv14
  exact m_ret 22 (.bool true) [] ⟨(rfl), by kernel_rfl⟩


end Go.Proofs.YtinmmamnldephaaDoor
