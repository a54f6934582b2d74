/- The row of WireParts: whatever the input is, the law returns true and leaves all as it was. -/
import Derived.Test.YtboggbknebepdaaRows
import Derived.Test.YtboggbknebepdaaWP
import Derived.Test.YtboggbknebepdaaReadT
import Derived.ProofKit
namespace Go.Proofs.Ytboggbknebepdaa
open Go Go.ChangeShapes Go.WideShapes Go.ChangeAt Go.RowKit Go.Alm

theorem Try.own_wireParts : ownKnob Try.prog.godebug = none := by kernel_rfl
theorem Try.laidOut_wireParts : laidOutB Try.prog = true := by kernel_rfl
set_option maxRecDepth 100000 in
theorem wireParts_lifted (os : Os) (started : os.Started) (H : Type) (enc : TypeId × Value → H) :
    ReturnsInHanded {} Try.checked os 6 .any (Rows.wirePartsSpec.pre6 enc Try.prog Try.f6 Rows.wirePartsRow.domain false) (Rows.wirePartsSpec.post enc Try.prog Try.f6 false true false false) := by
  refine returnsInHanded_of_change (C := Try.checked) Try.own_wireParts started (by kernel_rfl) Try.func6
    (ChangeSpec.witness6 (enc := enc) (C := Try.checked) false ⟨#[], #[.slice none 0 0, .slice none 0 0], []⟩ 8 (by kernel_rfl) (by kernel_rfl) (by kernel_rfl) (by kernel_rfl)) ?_
  intro W base args ds gs before hval0 hW hcnd _
  have hval : ∀ (j : Nat) t v, Try.f6.params[j]? = some t → args[j]? = some v → Value.okWide Try.prog W .any base t v := hval0
  have hW' := hW
  obtain ⟨p, q, hA0, hV, rfl, hfz, hnd⟩ := hW
  have hA : DataW.TrodAll enc Try.prog W 0 (fun _ => true) true Try.f6.params.toList args.toList ds p := hA0
  rw [Try.params6] at hA hval
  obtain ⟨v0, v1, d0, d1, p0, p1, rfl, rfl, rfl, h0, h1⟩ := trodAll_two hA
  obtain ⟨rfl, rfl⟩ := trodVars_none hV
  obtain ⟨a0, len0, c0, rfl⟩ := okWide_slice Try.underlying22 (hval 0 22 v0 rfl rfl)
  obtain ⟨fu0, hf0⟩ := id h0; obtain ⟨ao0, ts0, cap0, e0, hT0, hlc0, hcm0⟩ := things_of_trod (t := 22) (e := 33) (fs := Try.prog.fieldsOf 33) (ti := 3) (tu := 29) (th := 31) (tb := 26) (e8 := 5) (e8' := 5) (by kernel_rfl) (by kernel_rfl) (by kernel_rfl) (by kernel_rfl) (by kernel_rfl) (by kernel_rfl) (by kernel_rfl) (by kernel_rfl) (by kernel_rfl) (by kernel_rfl) (by kernel_rfl) (by kernel_rfl) (by kernel_rfl) (by kernel_rfl) (by kernel_rfl) (by kernel_rfl) hf0
  have e0' : Value.slice a0 len0 c0 = .slice ao0 ts0.length cap0 := by simpa [Value.cells] using e0
  rw [e0'] at hW' h0 ⊢
  obtain ⟨a1, len1, c1, rfl⟩ := okWide_slice Try.underlying22 (hval 1 22 v1 rfl rfl)
  obtain ⟨fu1, hf1⟩ := id h1; obtain ⟨ao1, ts1, cap1, e1, hT1, hlc1, hcm1⟩ := things_of_trod (t := 22) (e := 33) (fs := Try.prog.fieldsOf 33) (ti := 3) (tu := 29) (th := 31) (tb := 26) (e8 := 5) (e8' := 5) (by kernel_rfl) (by kernel_rfl) (by kernel_rfl) (by kernel_rfl) (by kernel_rfl) (by kernel_rfl) (by kernel_rfl) (by kernel_rfl) (by kernel_rfl) (by kernel_rfl) (by kernel_rfl) (by kernel_rfl) (by kernel_rfl) (by kernel_rfl) (by kernel_rfl) (by kernel_rfl) hf1
  have e1' : Value.slice a1 len1 c1 = .slice ao1 ts1.length cap1 := by simpa [Value.cells] using e1
  rw [e1'] at hW' h1 ⊢
  clear hA0 hval0 hval hA
  simp only [List.append_nil] at hW'
  have hlt : ∀ x ∈ p0 ++ p1, x.block < W.heap.size := fun x hx => by simpa using hW'.lt x hx
  refine (wireParts_c W.heap.size ao0 cap0 ts0 ao1 cap1 ts1 W hT0 hT1 (by simp only [maxLen] at hcm0; omega) (by simp only [maxLen] at hcm1; omega)).mono fun e W' ⟨he, hF⟩ => ?_
  subst he
  exact ⟨_, rfl, post_of_fr (pa := p0 ++ (p1)) (pv := []) hW' (fun _ _ _ => trodAll_mk1 (shut_bool Try.underlying4 true)) (fun sp hsp => trodAll_mk2 (WideElems.Trod_stays Try.laidOut_wireParts (by kernel_rfl) (of_decide_eq_true (by kernel_rfl)) h0 (fun x hx => hF.below.same (hlt x (by simp [hx]))) (fun x hx => hsp x (by simp [hx]))) (WideElems.Trod_stays Try.laidOut_wireParts (by kernel_rfl) (of_decide_eq_true (by kernel_rfl)) h1 (fun x hx => hF.below.same (hlt x (by simp [hx]))) (fun x hx => hsp x (by simp [hx])))) (fun _ _ => rfl) (by simp) hF (ok_one (by kernel_rfl) rfl (okWide_bool_mk Try.underlying4 true))⟩

theorem wireParts_holds : Rows.WirePartsSaid :=
  OpenClaim.holds_of_wide 6 Try.f6 rfl rfl rfl rfl rfl rfl rfl ⟨rfl, rfl, rfl, rfl, rfl⟩ rfl rfl rfl rfl rfl (by kernel_rfl) Try.func6 (by kernel_rfl)
    (of_decide_eq_true (by kernel_rfl)) (by unfold Func.isWrapper; first | (rw [if_pos (by decide +kernel)]; kernel_rfl) | (rw [if_neg (by decide +kernel)]; exact ⟨rfl, rfl⟩))
    (fun os started H enc _ => wireParts_lifted os started H enc)
end Go.Proofs.Ytboggbknebepdaa
