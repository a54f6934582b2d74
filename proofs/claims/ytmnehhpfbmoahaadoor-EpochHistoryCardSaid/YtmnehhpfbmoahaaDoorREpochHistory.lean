/- The card of EpochHistory: whatever the input is, the law returns true and leaves all as it was; the listed variables hold what the program's text lays. -/
import Derived.Test.YtmnehhpfbmoahaaDoorRows
import Derived.Test.YtmnehhpfbmoahaaDoorCards
import Derived.Test.YtmnehhpfbmoahaaDoorTie
import Derived.Test.YtmnehhpfbmoahaaDoorEH
import Derived.Test.YtmnehhpfbmoahaaDoorLib6
import Derived.Test.YtmnehhpfbmoahaaDoorLib5
import Derived.ProofKit
import Derived.LaidMore
import Derived.OpenShut
import Derived.Stop.Joined
import Derived.SevenTiedAt
namespace Go.Proofs.YtmnehhpfbmoahaaDoor
open Go Go.ChangeShapes Go.WideShapes Go.ChangeAt Go.RowKit Go.Alm

theorem Tryd.own_epochHistory : ownKnob Tryd.prog.godebug = none := by kernel_rfl
theorem Tryd.laidOut_epochHistory : laidOutB Tryd.prog = true := by kernel_rfl
def laid_epochHistory {H : Type} : List (String × DataW H) := [("almagest/almagestref02.k", Rows.laid_almagest_almagestref02_k), ("almagest/sha.keys", Rows.laid_almagest_sha_keys)]
theorem door_epochHistory (os : Os) (args : Array Value) : laidMetH Tryd.prog laid_epochHistory ((World.doorLaid Tryd.prog 4000 os).forCall (fun _ _ => 0) ⟨#[], args, []⟩).memory :=
  laidMetH_of_parts3 (fuel := 8) (laidMet_of_run' 8 (by kernel_rfl) (by kernel_rfl)) (by kernel_rfl) (by kernel_rfl)
theorem keys_epochHistory {W : World} (h : laidMetH Tryd.prog laid_epochHistory W) : Rd W (some ⟨0, 0, none⟩) (hw KL).toList ∧ Rd W (some ⟨1, 0, none⟩) (hw KL).toList := by
  rw [MakeChecks.laidMetH_plain _ _ _ (by kernel_rfl)] at h
  obtain ⟨ps, ⟨g0, t0, cs0, f0, p0, q0, hg0, ht0, hv0, hd0, ⟨g1, t1, cs1, f1, p1, q1, hg1, ht1, hv1, hd1, _, _⟩, _⟩, _, _⟩ := h
  obtain rfl := Option.some.inj ((show Tryd.prog.globalNamed "almagest/almagestref02.k" = some 0 by kernel_rfl).symm.trans hg0)
  obtain rfl := Option.some.inj ((show (Tryd.prog.globals[0]?).map (·.type) = some 271 by kernel_rfl).symm.trans ht0)
  obtain rfl := Option.some.inj ((show Tryd.prog.globalNamed "almagest/sha.keys" = some 1 by kernel_rfl).symm.trans hg1)
  obtain rfl := Option.some.inj ((show (Tryd.prog.globals[1]?).map (·.type) = some 271 by kernel_rfl).symm.trans ht1)
  exact ⟨keys_of_laid (e := 24) hg0 hv0 (by kernel_rfl) (by kernel_rfl) (by kernel_rfl) hd0 (by kernel_rfl), keys_of_laid (e := 24) hg1 hv1 (by kernel_rfl) (by kernel_rfl) (by kernel_rfl) hd1 (by kernel_rfl)⟩

set_option maxRecDepth 100000 in
theorem epochHistory_lifted (os : Os) (started : os.Started) (H : Type) (enc : TypeId × Value → H) :
    ReturnsInHanded {} Tryd.checked os 4 .any (fun w args => (Rows.epochHistorySpec.pre enc Tryd.prog Tryd.f4 [] false w args ∧ laidMetH Tryd.prog laid_epochHistory w) ∧ sizedMet enc Tryd.prog Tryd.f4 (OpenSpec.ofChange Rows.epochHistorySpec) false w args)
      (Rows.epochHistorySpec.post enc Tryd.prog Tryd.f4 false true false false) := by
  refine returnsInHanded_of_change_and (C := Tryd.checked) (X := fun w _ => laidMetH Tryd.prog laid_epochHistory w) (fun _ _ _ hh h => h.of_heap hh) Tryd.own_epochHistory started (by kernel_rfl) Tryd.func4
    (ChangeSpec.witness_shaped (enc := enc) (C := Tryd.checked) (os := os) (X := fun w _ => laidMetH Tryd.prog laid_epochHistory w) false (World.doorLaid Tryd.prog 4000 os) #[.agg #[(.int .u8 0), (.int .u8 0), (.int .u8 0), (.int .u8 0), (.int .u8 0), (.int .u8 0), (.int .u8 0), (.int .u8 0), (.int .u8 0), (.int .u8 0), (.int .u8 0), (.int .u8 0), (.int .u8 0), (.int .u8 0), (.int .u8 0), (.int .u8 0), (.int .u8 0), (.int .u8 0), (.int .u8 0), (.int .u8 0), (.int .u8 0), (.int .u8 0), (.int .u8 0), (.int .u8 0), (.int .u8 0), (.int .u8 0), (.int .u8 0), (.int .u8 0), (.int .u8 0), (.int .u8 0), (.int .u8 0), (.int .u8 0)], .slice none 0 0] 8 rfl (World.shaped_of_RefB (by kernel_rfl) (by kernel_rfl)) (by kernel_rfl) (by kernel_rfl) (by kernel_rfl) (door_epochHistory os _)) ?_
  intro W base args ds gs before hval0 hW _ _ hL _
  have hval : ∀ (j : Nat) t v, Tryd.f4.params[j]? = some t → args[j]? = some v → Value.okWide Tryd.prog W .any base t v := hval0
  have hW' := hW
  obtain ⟨p, q, hA0, hV, rfl, hfz, hnd⟩ := hW
  have hA : DataW.TrodAll enc Tryd.prog W 0 (fun _ => true) true Tryd.f4.params.toList args.toList ds p := hA0
  rw [Tryd.params4] at hA hval
  obtain ⟨v0, v1, d0, d1, p0, p1, rfl, rfl, rfl, h0, h1⟩ := trodAll_two hA
  obtain ⟨rfl, rfl⟩ := trodVars_none hV
  have hK := keys_epochHistory hL
  obtain ⟨q0, rfl, hq0⟩ := okWide_array Tryd.underlying23 (hval 0 23 v0 rfl rfl)
  obtain ⟨fu0, hf0⟩ := id h0; obtain ⟨y0, hy0, e0⟩ := hash_of (e := 5) ⟨(by kernel_rfl), (by kernel_rfl), (by kernel_rfl), (by kernel_rfl)⟩ hf0
  have hc0 : q0 = hv y0 := agg_eq e0
  obtain ⟨a1, len1, c1, rfl⟩ := okWide_slice Tryd.underlying45 (hval 1 45 v1 rfl rfl)
  obtain ⟨fu1, hf1⟩ := id h1; obtain ⟨ao1, ls1, cap1, e1, hR1, hB1, hlc1, hcm1⟩ := recs_of_trod (t := 45) (e := 48) (f := EStep.cells) (Ok := EStep.Ok) (sz := 97) EStep.size (by decide) (by kernel_rfl) (by kernel_rfl) (fun _ _ _ hy => step_of (th := 23) (e := 5) (tn := 24) ⟨⟨(by kernel_rfl), (by kernel_rfl), (by kernel_rfl), (by kernel_rfl)⟩, ⟨(by kernel_rfl), (by kernel_rfl), (by kernel_rfl), (by kernel_rfl)⟩, ⟨(by kernel_rfl)⟩⟩ hy) hf1
  have e1' : Value.slice a1 len1 c1 = .slice ao1 ls1.length cap1 := by simpa [Value.cells] using e1
  rw [e1'] at hW' h1 ⊢
  clear hA0 hval0 hval hA
  simp only [List.append_nil] at hW'
  have hlt : ∀ x ∈ p0 ++ p1, x.block < W.heap.size := fun x hx => by simpa using hW'.lt x hx
  have hro : RoA W [(.rd ao1 (RL EStep.cells ls1)), (.rd (some ⟨0, 0, none⟩) (hw KL).toList), (.rd (some ⟨1, 0, none⟩) (hw KL).toList)] := (.cons hR1 (.cons hK.1 (.cons hK.2 .nil)))
  have hcall := Does.row (epochHistory_j y0 ao1 cap1 ls1 hy0 hB1 (by simp only [maxLen] at hcm1; omega)) hro.out
  rw [← hc0] at hcall
  refine hcall.mono fun e W' ⟨he, hF⟩ => ?_
  subst he
  exact ⟨_, rfl, post_of_fr (pa := p0 ++ (p1)) (pv := []) hW' (fun _ _ _ => trodAll_mk1 (shut_bool Tryd.underlying4 true)) (fun sp hsp => trodAll_mk2 (WideElems.Trod_stays Tryd.laidOut_epochHistory (by kernel_rfl) (of_decide_eq_true (by kernel_rfl)) h0 (fun x hx => hF.below.same (hlt x (by simp [hx]))) (fun x hx => hsp x (by simp [hx]))) (WideElems.Trod_stays Tryd.laidOut_epochHistory (by kernel_rfl) (of_decide_eq_true (by kernel_rfl)) h1 (fun x hx => hF.below.same (hlt x (by simp [hx]))) (fun x hx => hsp x (by simp [hx])))) (fun _ _ => rfl) (by simp) hF (ok_one (by kernel_rfl) rfl (okWide_bool_mk Tryd.underlying4 true))⟩
theorem epochHistory_j0 : (Rows.epochHistoryRow.wf (OpenSpec.ofChange Rows.epochHistorySpec)) = true ∧ (laidOutB Tryd.pinned.checked.prog) = true ∧ (mapsRowed Tryd.pinned.checked.prog) = true ∧ (Tryd.f4.params.all (Tryd.pinned.checked.prog.readableRec ·)) = true ∧ (namedTie Tryd.pinned.checked.prog Rows.epochHistoryRow.named Rows.epochHistorySpec.vars) = true ∧ (Rows.epochHistoryRow.stops == []) = true ∧ (Tryd.pinned.checked.prog.stops == []) = true ∧ (Rows.epochHistoryRow.knobs == []) = true ∧ (Tryd.pinned.checked.prog.stopKnobs == []) = true := ⟨by kernel_rfl, by kernel_rfl, by kernel_rfl, by kernel_rfl, by kernel_rfl, by kernel_rfl, by kernel_rfl, by kernel_rfl, by kernel_rfl⟩
theorem epochHistory_j1 : (Rows.epochHistoryRow.inPlace == Tryd.pinned.checked.prog.inPlace 4) = true ∧ (Rows.epochHistoryRow.unfollowed == Tryd.pinned.checked.prog.unfollowed 4) = true := ⟨by kernel_rfl, by kernel_rfl⟩
theorem epochHistory_j2 : (Rows.epochHistoryRow.recurses == Tryd.pinned.checked.prog.recurses 4) = true ∧ (Rows.epochHistoryRow.named == Tryd.pinned.checked.prog.varsNamed 4) = true := ⟨by kernel_rfl, by kernel_rfl⟩
theorem epochHistory_j3 : (Rows.epochHistoryRow.maps == (Tryd.f4.params.toList ++ Rows.epochHistorySpec.plain.varTypes Tryd.pinned.checked.prog).any (Tryd.pinned.checked.prog.mapsRec ·)) = true ∧ (Rows.epochHistoryRow.ifaces == (Tryd.f4.params.toList ++ Rows.epochHistorySpec.plain.varTypes Tryd.pinned.checked.prog).any (Tryd.pinned.checked.prog.ifacesRec ·)) = true ∧ (Rows.epochHistoryRow.mapsOut == Tryd.pinned.checked.prog.mapsAmong Tryd.f4.resultTypes.toList) = true ∧ (Rows.epochHistoryRow.loops == (Tryd.f4.params.toList ++ Rows.epochHistorySpec.plain.varTypes Tryd.pinned.checked.prog).any (Tryd.pinned.checked.prog.loopsFrom ·)) = true ∧ (Rows.epochHistoryRow.wideKeys == (Tryd.f4.params.toList ++ Rows.epochHistorySpec.plain.varTypes Tryd.pinned.checked.prog ++ Tryd.f4.resultTypes.toList).any (Tryd.pinned.checked.prog.wideKeysFrom ·)) = true := ⟨by kernel_rfl, by kernel_rfl, by kernel_rfl, by kernel_rfl, by kernel_rfl⟩
theorem epochHistory_j4 : (Rows.epochHistorySpec.vars.all (Tryd.pinned.checked.prog.varReadable ·)) = true ∧ (Tryd.f4.resultTypes.all (fun t => Tryd.pinned.checked.prog.readableRec t && decide (t < Tryd.pinned.checked.prog.types.size))) = true ∧ (Rows.epochHistoryRow.ifacesOut == Tryd.f4.resultTypes.toList.any (Tryd.pinned.checked.prog.ifacesRec ·)) = true ∧ (Rows.epochHistoryRow.loopsOut == Tryd.f4.resultTypes.toList.any (Tryd.pinned.checked.prog.loopsFrom ·)) = true ∧ (Rows.epochHistoryRow.plainKeys == Tryd.pinned.checked.prog.plainKeys) = true ∧ (Rows.epochHistoryRow.shortTexts.isNone) = true ∧ (Tryd.pinned.checked.prog.stopsHeard) = true ∧ (Tryd.pinned.checked.prog.mayEnter) = true ∧ (Rows.epochHistoryRow.lifted == Tryd.pinned.checked.prog.liftsFinal) = true ∧ (Tryd.pinned.checked.prog.make == some Rows.epochHistoryRow.make) = true ∧ (Rows.epochHistoryRow.kinds == (if Rows.epochHistoryRow.domain.isEmpty then [] else Tryd.f4.params.toList.map fun t => match Tryd.pinned.checked.prog.underlying t with | some (.int k) => some k | _ => none)) = true ∧ (Rows.epochHistoryRow.pinned == Rows.epochHistoryRow.pinnedBy) = true := ⟨by kernel_rfl, by kernel_rfl, by kernel_rfl, by kernel_rfl, by kernel_rfl, by kernel_rfl, by kernel_rfl, by kernel_rfl, by kernel_rfl, by kernel_rfl, by kernel_rfl, by kernel_rfl⟩
theorem epochHistory_j5 : (Rows.epochHistoryRow.veiled == (Tryd.f4.params.toList ++ Rows.epochHistorySpec.plain.varTypes Tryd.pinned.checked.prog ++ Tryd.f4.resultTypes.toList).any (Tryd.pinned.checked.prog.veiledRec ·)) = true ∧ (Rows.epochHistoryRow.veiledFits Tryd.pinned.checked.prog Tryd.f4.params.toList (Tryd.f4.params.toList ++ Rows.epochHistorySpec.plain.varTypes Tryd.pinned.checked.prog ++ Tryd.f4.resultTypes.toList)) = true := ⟨by kernel_rfl, by kernel_rfl⟩
set_option maxRecDepth 100000 in
theorem epochHistory_jf : joinedFacts Tryd.pinned.checked.prog 4 Tryd.f4 Rows.epochHistorySpec Rows.epochHistoryRow = true := (bandI (bandI (bandI (bandI (bandI (bandI (bandI (bandI (bandI (bandI (bandI (bandI (bandI (bandI (bandI (bandI (bandI (bandI (bandI (bandI (bandI (bandI (bandI (bandI (bandI (bandI (bandI (bandI (bandI (bandI (bandI epochHistory_j0.1 epochHistory_j0.2.1) epochHistory_j0.2.2.1) epochHistory_j0.2.2.2.1) epochHistory_j0.2.2.2.2.1) epochHistory_j0.2.2.2.2.2.1) epochHistory_j0.2.2.2.2.2.2.1) epochHistory_j0.2.2.2.2.2.2.2.1) epochHistory_j0.2.2.2.2.2.2.2.2) epochHistory_j1.1) epochHistory_j1.2) epochHistory_j2.1) epochHistory_j2.2) epochHistory_j3.1) epochHistory_j3.2.1) epochHistory_j3.2.2.1) epochHistory_j3.2.2.2.1) epochHistory_j3.2.2.2.2) epochHistory_j4.1) epochHistory_j4.2.1) epochHistory_j4.2.2.1) epochHistory_j4.2.2.2.1) epochHistory_j4.2.2.2.2.1) epochHistory_j4.2.2.2.2.2.1) epochHistory_j4.2.2.2.2.2.2.1) epochHistory_j4.2.2.2.2.2.2.2.1) epochHistory_j4.2.2.2.2.2.2.2.2.1) epochHistory_j4.2.2.2.2.2.2.2.2.2.1) epochHistory_j4.2.2.2.2.2.2.2.2.2.2.1) epochHistory_j4.2.2.2.2.2.2.2.2.2.2.2) epochHistory_j5.1) epochHistory_j5.2)
theorem epochHistory_fn : Tryd.pinned.checked.prog.funcNamed Rows.epochHistoryRow.func = some 4 := by kernel_rfl

theorem epochHistory_said : Rows.EpochHistorySaid :=
  OpenClaim.holds_of_wide 4 Tryd.f4 rfl rfl rfl rfl rfl rfl rfl ⟨rfl, rfl, rfl, rfl, rfl⟩ rfl rfl rfl rfl rfl epochHistory_fn Tryd.func4 epochHistory_jf
    (of_decide_eq_true (by kernel_rfl)) (by unfold Func.isWrapper; first | (rw [if_pos (by decide +kernel)]; kernel_rfl) | (rw [if_neg (by decide +kernel)]; exact ⟨rfl, rfl⟩))
    (fun os started H enc _ => epochHistory_lifted os started H enc)
theorem epochHistory_w : Rows.epochHistoryRow.wfByText (OpenSpec.ofChange Rows.epochHistorySpec) = true := by kernel_rfl
theorem epochHistory_m : Tryd.pinned.checked.prog.mainIs = some (true, "b6a4ea6cb61e0d01f3dbd37aed29265e33fd8127019479cf5f040513dfc5b12c".toList) := by kernel_rfl
theorem epochHistory_lk : false = Tryd.pinned.checked.prog.looks [] := by kernel_rfl
theorem epochHistory_g : false = Rows.epochHistoryRow.goesBy Tryd.pinned.checked.prog := by kernel_rfl

theorem epochHistory_holds : Rows.EpochHistoryCardSaid :=
  Claim7.holds_tied_plain_at .later [] [.data, .data] true (true, "b6a4ea6cb61e0d01f3dbd37aed29265e33fd8127019479cf5f040513dfc5b12c") false
    epochHistory_said (fun _ h => by cases h) epochHistory_w (fun _ h => by cases h) epochHistory_row_tie rfl ⟨rfl, rfl⟩ epochHistory_m rfl
    (fun f fn hf hfn => by
      obtain rfl : f = 4 := Option.some.inj ((show Tryd.prog.funcNamed "almagest/almagestlaw08.EpochHistory" = some 4 by kernel_rfl).symm.trans hf) |>.symm
      obtain rfl : fn = Tryd.f4 := (Option.some.inj (Tryd.func4.symm.trans hfn)).symm
      refine ⟨epochHistory_lk, fun j t ht => ?_⟩
      rw [Tryd.params4] at ht
      rcases j with _ | j
      · obtain rfl : t = 23 := by simpa using ht.symm
        exact (show Tryd.prog.wantsStandIn 23 = false by kernel_rfl)
      · rcases j with _ | j
        · obtain rfl : t = 45 := by simpa using ht.symm
          exact (show Tryd.prog.wantsStandIn 45 = false by kernel_rfl)
        · simp at ht)
    epochHistory_g
end Go.Proofs.YtmnehhpfbmoahaaDoor
