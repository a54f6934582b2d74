/- The card of StateReads: whatever the input is, the law returns true and leaves all as it was; the listed variables hold what the program's text lays. -/
import Derived.Test.YtmnehhpfbmoahaaDoorRows
import Derived.Test.YtmnehhpfbmoahaaDoorCards
import Derived.Test.YtmnehhpfbmoahaaDoorTie
import Derived.Test.YtmnehhpfbmoahaaDoorL09
import Derived.Test.YtmnehhpfbmoahaaDoorLib6
import Derived.Test.YtmnehhpfbmoahaaDoorLib5
import Derived.ProofKit
import Derived.LaidMore
import Derived.OpenShut
import Derived.Stop.Joined
import Derived.SevenTiedAt
namespace Go.Proofs.YtmnehhpfbmoahaaDoor
open Go Go.ChangeShapes Go.WideShapes Go.ChangeAt Go.RowKit Go.Alm

theorem Tryd.own_stateReads : ownKnob Tryd.prog.godebug = none := by kernel_rfl
theorem Tryd.laidOut_stateReads : laidOutB Tryd.prog = true := by kernel_rfl
def laid_stateReads {H : Type} : List (String × DataW H) := [("almagest/sha.keys", Rows.laid_almagest_sha_keys)]
theorem door_stateReads (os : Os) (args : Array Value) : laidMetH Tryd.prog laid_stateReads ((World.doorLaid Tryd.prog 4000 os).forCall (fun _ _ => 0) ⟨#[], args, []⟩).memory :=
  laidMetH_of_parts3 (fuel := 8) (laidMet_of_run' 8 (by kernel_rfl) (by kernel_rfl)) (by kernel_rfl) (by kernel_rfl)
theorem keys_stateReads {W : World} (h : laidMetH Tryd.prog laid_stateReads W) : Rd W (some ⟨1, 0, none⟩) (hw KL).toList := by
  rw [MakeChecks.laidMetH_plain _ _ _ (by kernel_rfl)] at h
  obtain ⟨ps, ⟨g0, t0, cs0, f0, p0, q0, hg0, ht0, hv0, hd0, _, _⟩, _, _⟩ := h
  obtain rfl := Option.some.inj ((show Tryd.prog.globalNamed "almagest/sha.keys" = some 1 by kernel_rfl).symm.trans hg0)
  obtain rfl := Option.some.inj ((show (Tryd.prog.globals[1]?).map (·.type) = some 271 by kernel_rfl).symm.trans ht0)
  exact keys_of_laid (e := 24) hg0 hv0 (by kernel_rfl) (by kernel_rfl) (by kernel_rfl) hd0 (by kernel_rfl)

set_option maxRecDepth 100000 in
theorem stateReads_lifted (os : Os) (started : os.Started) (H : Type) (enc : TypeId × Value → H) :
    ReturnsInHanded {} Tryd.checked os 15 .any (fun w args => (Rows.stateReadsSpec.pre enc Tryd.prog Tryd.f15 [] false w args ∧ laidMetH Tryd.prog laid_stateReads w) ∧ sizedMet enc Tryd.prog Tryd.f15 (OpenSpec.ofChange Rows.stateReadsSpec) false w args)
      (Rows.stateReadsSpec.post enc Tryd.prog Tryd.f15 false true false false) := by
  refine returnsInHanded_of_change_and (C := Tryd.checked) (X := fun w _ => laidMetH Tryd.prog laid_stateReads w) (fun _ _ _ hh h => h.of_heap hh) Tryd.own_stateReads started (by kernel_rfl) Tryd.func15
    (ChangeSpec.witness_shaped (enc := enc) (C := Tryd.checked) (os := os) (X := fun w _ => laidMetH Tryd.prog laid_stateReads w) false (World.doorLaid Tryd.prog 4000 os) #[.slice none 0 0] 8 rfl (World.shaped_of_RefB (by kernel_rfl) (by kernel_rfl)) (by kernel_rfl) (by kernel_rfl) (by kernel_rfl) (door_stateReads os _)) ?_
  intro W base args ds gs before hval0 hW _ _ hL _
  have hval : ∀ (j : Nat) t v, Tryd.f15.params[j]? = some t → args[j]? = some v → Value.okWide Tryd.prog W .any base t v := hval0
  have hW' := hW
  obtain ⟨p, q, hA0, hV, rfl, hfz, hnd⟩ := hW
  have hA : DataW.TrodAll enc Tryd.prog W 0 (fun _ => true) true Tryd.f15.params.toList args.toList ds p := hA0
  rw [Tryd.params15] at hA hval
  obtain ⟨v0, d0, rfl, rfl, h0⟩ := trodAll_one hA
  obtain ⟨rfl, rfl⟩ := trodVars_none hV
  have hK := keys_stateReads hL
  obtain ⟨a0, len0, c0, rfl⟩ := okWide_slice Tryd.underlying128 (hval 0 128 v0 rfl rfl)
  obtain ⟨fu0, hf0⟩ := id h0; obtain ⟨ao0, l0, cap0, e0, hR0, hB0, hlc0, hcm0⟩ := bytes_of_trod (t := 128) (e := 5) (by kernel_rfl) (by kernel_rfl) (by kernel_rfl) hf0
  have e0' : Value.slice a0 len0 c0 = .slice ao0 l0.length cap0 := by simpa [Value.cells] using e0
  rw [e0'] at hW' h0 ⊢
  clear hA0 hval0 hval hA
  simp only [List.append_nil] at hW'
  have hlt : ∀ x ∈ p, x.block < W.heap.size := fun x hx => by simpa using hW'.lt x hx
  have hro : RoA W [(.rd ao0 (B l0)), (.rd (some ⟨1, 0, none⟩) (hw KL).toList)] := (.cons hR0 (.cons hK .nil))
  have hcall := Does.row (stateReads_j ao0 cap0 l0 hB0 hlc0) hro.out
  refine hcall.mono fun e W' ⟨he, hF⟩ => ?_
  subst he
  exact ⟨_, rfl, post_of_fr (pa := p) (pv := []) hW' (fun _ _ _ => trodAll_mk1 (shut_bool Tryd.underlying4 true)) (fun sp hsp => trodAll_mk1 (WideElems.Trod_stays Tryd.laidOut_stateReads (by kernel_rfl) (of_decide_eq_true (by kernel_rfl)) h0 (fun x hx => hF.below.same (hlt x (by simp [hx]))) (fun x hx => hsp x (by simp [hx])))) (fun _ _ => rfl) (by simp) hF (ok_one (by kernel_rfl) rfl (okWide_bool_mk Tryd.underlying4 true))⟩
theorem stateReads_j0 : (Rows.stateReadsRow.wf (OpenSpec.ofChange Rows.stateReadsSpec)) = true ∧ (laidOutB Tryd.pinned.checked.prog) = true ∧ (mapsRowed Tryd.pinned.checked.prog) = true ∧ (Tryd.f15.params.all (Tryd.pinned.checked.prog.readableRec ·)) = true ∧ (namedTie Tryd.pinned.checked.prog Rows.stateReadsRow.named Rows.stateReadsSpec.vars) = true ∧ (Rows.stateReadsRow.stops == []) = true ∧ (Tryd.pinned.checked.prog.stops == []) = true ∧ (Rows.stateReadsRow.knobs == []) = true ∧ (Tryd.pinned.checked.prog.stopKnobs == []) = true := ⟨by kernel_rfl, by kernel_rfl, by kernel_rfl, by kernel_rfl, by kernel_rfl, by kernel_rfl, by kernel_rfl, by kernel_rfl, by kernel_rfl⟩
theorem stateReads_j1 : (Rows.stateReadsRow.inPlace == Tryd.pinned.checked.prog.inPlace 15) = true ∧ (Rows.stateReadsRow.unfollowed == Tryd.pinned.checked.prog.unfollowed 15) = true := ⟨by kernel_rfl, by kernel_rfl⟩
theorem stateReads_j2 : (Rows.stateReadsRow.recurses == Tryd.pinned.checked.prog.recurses 15) = true ∧ (Rows.stateReadsRow.named == Tryd.pinned.checked.prog.varsNamed 15) = true := ⟨by kernel_rfl, by kernel_rfl⟩
theorem stateReads_j3 : (Rows.stateReadsRow.maps == (Tryd.f15.params.toList ++ Rows.stateReadsSpec.plain.varTypes Tryd.pinned.checked.prog).any (Tryd.pinned.checked.prog.mapsRec ·)) = true ∧ (Rows.stateReadsRow.ifaces == (Tryd.f15.params.toList ++ Rows.stateReadsSpec.plain.varTypes Tryd.pinned.checked.prog).any (Tryd.pinned.checked.prog.ifacesRec ·)) = true ∧ (Rows.stateReadsRow.mapsOut == Tryd.pinned.checked.prog.mapsAmong Tryd.f15.resultTypes.toList) = true ∧ (Rows.stateReadsRow.loops == (Tryd.f15.params.toList ++ Rows.stateReadsSpec.plain.varTypes Tryd.pinned.checked.prog).any (Tryd.pinned.checked.prog.loopsFrom ·)) = true ∧ (Rows.stateReadsRow.wideKeys == (Tryd.f15.params.toList ++ Rows.stateReadsSpec.plain.varTypes Tryd.pinned.checked.prog ++ Tryd.f15.resultTypes.toList).any (Tryd.pinned.checked.prog.wideKeysFrom ·)) = true := ⟨by kernel_rfl, by kernel_rfl, by kernel_rfl, by kernel_rfl, by kernel_rfl⟩
theorem stateReads_j4 : (Rows.stateReadsSpec.vars.all (Tryd.pinned.checked.prog.varReadable ·)) = true ∧ (Tryd.f15.resultTypes.all (fun t => Tryd.pinned.checked.prog.readableRec t && decide (t < Tryd.pinned.checked.prog.types.size))) = true ∧ (Rows.stateReadsRow.ifacesOut == Tryd.f15.resultTypes.toList.any (Tryd.pinned.checked.prog.ifacesRec ·)) = true ∧ (Rows.stateReadsRow.loopsOut == Tryd.f15.resultTypes.toList.any (Tryd.pinned.checked.prog.loopsFrom ·)) = true ∧ (Rows.stateReadsRow.plainKeys == Tryd.pinned.checked.prog.plainKeys) = true ∧ (Rows.stateReadsRow.shortTexts.isNone) = true ∧ (Tryd.pinned.checked.prog.stopsHeard) = true ∧ (Tryd.pinned.checked.prog.mayEnter) = true ∧ (Rows.stateReadsRow.lifted == Tryd.pinned.checked.prog.liftsFinal) = true ∧ (Tryd.pinned.checked.prog.make == some Rows.stateReadsRow.make) = true ∧ (Rows.stateReadsRow.kinds == (if Rows.stateReadsRow.domain.isEmpty then [] else Tryd.f15.params.toList.map fun t => match Tryd.pinned.checked.prog.underlying t with | some (.int k) => some k | _ => none)) = true ∧ (Rows.stateReadsRow.pinned == Rows.stateReadsRow.pinnedBy) = true := ⟨by kernel_rfl, by kernel_rfl, by kernel_rfl, by kernel_rfl, by kernel_rfl, by kernel_rfl, by kernel_rfl, by kernel_rfl, by kernel_rfl, by kernel_rfl, by kernel_rfl, by kernel_rfl⟩
theorem stateReads_j5 : (Rows.stateReadsRow.veiled == (Tryd.f15.params.toList ++ Rows.stateReadsSpec.plain.varTypes Tryd.pinned.checked.prog ++ Tryd.f15.resultTypes.toList).any (Tryd.pinned.checked.prog.veiledRec ·)) = true ∧ (Rows.stateReadsRow.veiledFits Tryd.pinned.checked.prog Tryd.f15.params.toList (Tryd.f15.params.toList ++ Rows.stateReadsSpec.plain.varTypes Tryd.pinned.checked.prog ++ Tryd.f15.resultTypes.toList)) = true := ⟨by kernel_rfl, by kernel_rfl⟩
set_option maxRecDepth 100000 in
theorem stateReads_jf : joinedFacts Tryd.pinned.checked.prog 15 Tryd.f15 Rows.stateReadsSpec Rows.stateReadsRow = true := (bandI (bandI (bandI (bandI (bandI (bandI (bandI (bandI (bandI (bandI (bandI (bandI (bandI (bandI (bandI (bandI (bandI (bandI (bandI (bandI (bandI (bandI (bandI (bandI (bandI (bandI (bandI (bandI (bandI (bandI (bandI stateReads_j0.1 stateReads_j0.2.1) stateReads_j0.2.2.1) stateReads_j0.2.2.2.1) stateReads_j0.2.2.2.2.1) stateReads_j0.2.2.2.2.2.1) stateReads_j0.2.2.2.2.2.2.1) stateReads_j0.2.2.2.2.2.2.2.1) stateReads_j0.2.2.2.2.2.2.2.2) stateReads_j1.1) stateReads_j1.2) stateReads_j2.1) stateReads_j2.2) stateReads_j3.1) stateReads_j3.2.1) stateReads_j3.2.2.1) stateReads_j3.2.2.2.1) stateReads_j3.2.2.2.2) stateReads_j4.1) stateReads_j4.2.1) stateReads_j4.2.2.1) stateReads_j4.2.2.2.1) stateReads_j4.2.2.2.2.1) stateReads_j4.2.2.2.2.2.1) stateReads_j4.2.2.2.2.2.2.1) stateReads_j4.2.2.2.2.2.2.2.1) stateReads_j4.2.2.2.2.2.2.2.2.1) stateReads_j4.2.2.2.2.2.2.2.2.2.1) stateReads_j4.2.2.2.2.2.2.2.2.2.2.1) stateReads_j4.2.2.2.2.2.2.2.2.2.2.2) stateReads_j5.1) stateReads_j5.2)
theorem stateReads_fn : Tryd.pinned.checked.prog.funcNamed Rows.stateReadsRow.func = some 15 := by kernel_rfl

theorem stateReads_said : Rows.StateReadsSaid :=
  OpenClaim.holds_of_wide 15 Tryd.f15 rfl rfl rfl rfl rfl rfl rfl ⟨rfl, rfl, rfl, rfl, rfl⟩ rfl rfl rfl rfl rfl stateReads_fn Tryd.func15 stateReads_jf
    (of_decide_eq_true (by kernel_rfl)) (by unfold Func.isWrapper; first | (rw [if_pos (by decide +kernel)]; kernel_rfl) | (rw [if_neg (by decide +kernel)]; exact ⟨rfl, rfl⟩))
    (fun os started H enc _ => stateReads_lifted os started H enc)
theorem stateReads_w : Rows.stateReadsRow.wfByText (OpenSpec.ofChange Rows.stateReadsSpec) = true := by kernel_rfl
theorem stateReads_m : Tryd.pinned.checked.prog.mainIs = some (true, "b6a4ea6cb61e0d01f3dbd37aed29265e33fd8127019479cf5f040513dfc5b12c".toList) := by kernel_rfl
theorem stateReads_lk : false = Tryd.pinned.checked.prog.looks [] := by kernel_rfl
theorem stateReads_g : false = Rows.stateReadsRow.goesBy Tryd.pinned.checked.prog := by kernel_rfl

theorem stateReads_holds : Rows.StateReadsCardSaid :=
  Claim7.holds_tied_plain_at .later [] [.data] true (true, "b6a4ea6cb61e0d01f3dbd37aed29265e33fd8127019479cf5f040513dfc5b12c") false
    stateReads_said (fun _ h => by cases h) stateReads_w (fun _ h => by cases h) stateReads_row_tie rfl ⟨rfl, rfl⟩ stateReads_m rfl
    (fun f fn hf hfn => by
      obtain rfl : f = 15 := Option.some.inj ((show Tryd.prog.funcNamed "almagest/almagestlaw09.StateReads" = some 15 by kernel_rfl).symm.trans hf) |>.symm
      obtain rfl : fn = Tryd.f15 := (Option.some.inj (Tryd.func15.symm.trans hfn)).symm
      refine ⟨stateReads_lk, fun j t ht => ?_⟩
      rw [Tryd.params15] at ht
      rcases j with _ | j
      · obtain rfl : t = 128 := by simpa using ht.symm
        exact (show Tryd.prog.wantsStandIn 128 = false by kernel_rfl)
      · simp at ht)
    stateReads_g
end Go.Proofs.YtmnehhpfbmoahaaDoor
