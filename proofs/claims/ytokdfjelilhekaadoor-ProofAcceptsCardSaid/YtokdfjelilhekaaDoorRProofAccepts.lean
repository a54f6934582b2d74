/- The card of ProofAccepts: whatever the input is, the law returns true and leaves all as it was; the listed variables hold what the program's text lays. -/
import Derived.Test.YtokdfjelilhekaaDoorRows
import Derived.Test.YtokdfjelilhekaaDoorCards
import Derived.Test.YtokdfjelilhekaaDoorTie
import Derived.Test.YtokdfjelilhekaaDoorL16b
import Derived.Test.YtokdfjelilhekaaDoorLib9
import Derived.Test.YtokdfjelilhekaaDoorLib8
import Derived.ProofKit
import Derived.LaidMore
import Derived.OpenShut
import Derived.Stop.Joined
import Derived.SevenTiedAt
namespace Go.Proofs.YtokdfjelilhekaaDoor
open Go Go.ChangeShapes Go.WideShapes Go.ChangeAt Go.RowKit Go.Alm

theorem Tryd.own_proofAccepts : ownKnob Tryd.prog.godebug = none := by kernel_rfl
theorem Tryd.laidOut_proofAccepts : laidOutB Tryd.prog = true := by kernel_rfl
def laid_proofAccepts {H : Type} : List (String × DataW H) := [("almagest/sha.keys", Rows.laid_almagest_sha_keys)]
theorem door_proofAccepts (os : Os) (args : Array Value) : laidMetH Tryd.prog laid_proofAccepts ((World.doorLaid Tryd.prog 4000 os).forCall (fun _ _ => 0) ⟨#[], args, []⟩).memory :=
  laidMetH_of_parts3 (fuel := 8) (laidMet_of_run' 8 (by kernel_rfl) (by kernel_rfl)) (by kernel_rfl) (by kernel_rfl)
theorem keys_proofAccepts {W : World} (h : laidMetH Tryd.prog laid_proofAccepts W) : Rd W (some ⟨1, 0, none⟩) (hw KL).toList := by
  rw [MakeChecks.laidMetH_plain _ _ _ (by kernel_rfl)] at h
  obtain ⟨ps, ⟨g0, t0, cs0, f0, p0, q0, hg0, ht0, hv0, hd0, _, _⟩, _, _⟩ := h
  obtain rfl := Option.some.inj ((show Tryd.prog.globalNamed "almagest/sha.keys" = some 1 by kernel_rfl).symm.trans hg0)
  obtain rfl := Option.some.inj ((show (Tryd.prog.globals[1]?).map (·.type) = some 137 by kernel_rfl).symm.trans ht0)
  exact keys_of_laid (e := 29) hg0 hv0 (by kernel_rfl) (by kernel_rfl) (by kernel_rfl) hd0 (by kernel_rfl)

set_option maxRecDepth 100000 in
theorem proofAccepts_lifted (os : Os) (started : os.Started) (H : Type) (enc : TypeId × Value → H) :
    ReturnsInHanded {} Tryd.checked os 10 .any (fun w args => (Rows.proofAcceptsSpec.pre enc Tryd.prog Tryd.f10 [] false w args ∧ laidMetH Tryd.prog laid_proofAccepts w) ∧ sizedMet enc Tryd.prog Tryd.f10 (OpenSpec.ofChange Rows.proofAcceptsSpec) false w args)
      (Rows.proofAcceptsSpec.post enc Tryd.prog Tryd.f10 false true false false) := by
  refine returnsInHanded_of_change_and (C := Tryd.checked) (X := fun w _ => laidMetH Tryd.prog laid_proofAccepts w) (fun _ _ _ hh h => h.of_heap hh) Tryd.own_proofAccepts started (by kernel_rfl) Tryd.func10
    (ChangeSpec.witness_shaped (enc := enc) (C := Tryd.checked) (os := os) (X := fun w _ => laidMetH Tryd.prog laid_proofAccepts w) false (World.doorLaid Tryd.prog 4000 os) #[.slice none 0 0] 8 rfl (World.shaped_of_RefB (by kernel_rfl) (by kernel_rfl)) (by kernel_rfl) (by kernel_rfl) (by kernel_rfl) (door_proofAccepts os _)) ?_
  intro W base args ds gs before hval0 hW _ _ hL _
  have hval : ∀ (j : Nat) t v, Tryd.f10.params[j]? = some t → args[j]? = some v → Value.okWide Tryd.prog W .any base t v := hval0
  have hW' := hW
  obtain ⟨p, q, hA0, hV, rfl, hfz, hnd⟩ := hW
  have hA : DataW.TrodAll enc Tryd.prog W 0 (fun _ => true) true Tryd.f10.params.toList args.toList ds p := hA0
  rw [Tryd.params10] at hA hval
  obtain ⟨v0, d0, rfl, rfl, h0⟩ := trodAll_one hA
  obtain ⟨rfl, rfl⟩ := trodVars_none hV
  have hK := keys_proofAccepts hL
  obtain ⟨a0, len0, c0, rfl⟩ := okWide_slice Tryd.underlying86 (hval 0 86 v0 rfl rfl)
  obtain ⟨fu0, hf0⟩ := id h0; obtain ⟨ao0, ls0, cap0, e0, hR0, hB0, hlc0, hcm0⟩ := recs_of_trod (t := 86) (e := 88) (f := APut.cells) (Ok := APut.Ok) (sz := 4) APut.size (by decide) (by kernel_rfl) (by kernel_rfl) (fun _ _ _ hy => put_of (ti := 3) (ta := 36) (ts := 9) (tu := 28) (tn := 29) ⟨⟨(by kernel_rfl), (by kernel_rfl), (by kernel_rfl), (by kernel_rfl)⟩, ⟨(by kernel_rfl)⟩, ⟨⟨(by kernel_rfl), (by kernel_rfl), (by kernel_rfl), (by kernel_rfl)⟩, (by kernel_rfl), ⟨(by kernel_rfl)⟩, ⟨(by kernel_rfl)⟩⟩⟩ hy) hf0
  have e0' : Value.slice a0 len0 c0 = .slice ao0 ls0.length cap0 := by simpa [Value.cells] using e0
  rw [e0'] at hW' h0 ⊢
  clear hA0 hval0 hval hA
  simp only [List.append_nil] at hW'
  have hlt : ∀ x ∈ p, x.block < W.heap.size := fun x hx => by simpa using hW'.lt x hx
  have hro : RoA W [(.rd ao0 (RL APut.cells ls0)), (.rd (some ⟨1, 0, none⟩) (hw KL).toList)] := (.cons hR0 (.cons hK .nil))
  have hcall := Does.row (proofAccepts_j ao0 cap0 ls0 hB0 (by simp only [maxLen] at hcm0; omega)) hro.out
  refine hcall.mono fun e W' ⟨he, hF⟩ => ?_
  subst he
  exact ⟨_, rfl, post_of_fr (pa := p) (pv := []) hW' (fun _ _ _ => trodAll_mk1 (shut_bool Tryd.underlying4 true)) (fun sp hsp => trodAll_mk1 (WideElems.Trod_stays Tryd.laidOut_proofAccepts (by kernel_rfl) (of_decide_eq_true (by kernel_rfl)) h0 (fun x hx => hF.below.same (hlt x (by simp [hx]))) (fun x hx => hsp x (by simp [hx])))) (fun _ _ => rfl) (by simp) hF (ok_one (by kernel_rfl) rfl (okWide_bool_mk Tryd.underlying4 true))⟩
theorem proofAccepts_j0 : (Rows.proofAcceptsRow.wf (OpenSpec.ofChange Rows.proofAcceptsSpec)) = true ∧ (laidOutB Tryd.pinned.checked.prog) = true ∧ (mapsRowed Tryd.pinned.checked.prog) = true ∧ (Tryd.f10.params.all (Tryd.pinned.checked.prog.readableRec ·)) = true ∧ (namedTie Tryd.pinned.checked.prog Rows.proofAcceptsRow.named Rows.proofAcceptsSpec.vars) = true ∧ (Rows.proofAcceptsRow.stops == []) = true ∧ (Tryd.pinned.checked.prog.stops == []) = true ∧ (Rows.proofAcceptsRow.knobs == []) = true ∧ (Tryd.pinned.checked.prog.stopKnobs == []) = true := ⟨by kernel_rfl, by kernel_rfl, by kernel_rfl, by kernel_rfl, by kernel_rfl, by kernel_rfl, by kernel_rfl, by kernel_rfl, by kernel_rfl⟩
theorem proofAccepts_j1 : (Rows.proofAcceptsRow.inPlace == Tryd.pinned.checked.prog.inPlace 10) = true ∧ (Rows.proofAcceptsRow.unfollowed == Tryd.pinned.checked.prog.unfollowed 10) = true := ⟨by kernel_rfl, by kernel_rfl⟩
theorem proofAccepts_j2 : (Rows.proofAcceptsRow.recurses == Tryd.pinned.checked.prog.recurses 10) = true ∧ (Rows.proofAcceptsRow.named == Tryd.pinned.checked.prog.varsNamed 10) = true := ⟨by kernel_rfl, by kernel_rfl⟩
theorem proofAccepts_j3 : (Rows.proofAcceptsRow.maps == (Tryd.f10.params.toList ++ Rows.proofAcceptsSpec.plain.varTypes Tryd.pinned.checked.prog).any (Tryd.pinned.checked.prog.mapsRec ·)) = true ∧ (Rows.proofAcceptsRow.ifaces == (Tryd.f10.params.toList ++ Rows.proofAcceptsSpec.plain.varTypes Tryd.pinned.checked.prog).any (Tryd.pinned.checked.prog.ifacesRec ·)) = true ∧ (Rows.proofAcceptsRow.mapsOut == Tryd.pinned.checked.prog.mapsAmong Tryd.f10.resultTypes.toList) = true ∧ (Rows.proofAcceptsRow.loops == (Tryd.f10.params.toList ++ Rows.proofAcceptsSpec.plain.varTypes Tryd.pinned.checked.prog).any (Tryd.pinned.checked.prog.loopsFrom ·)) = true ∧ (Rows.proofAcceptsRow.wideKeys == (Tryd.f10.params.toList ++ Rows.proofAcceptsSpec.plain.varTypes Tryd.pinned.checked.prog ++ Tryd.f10.resultTypes.toList).any (Tryd.pinned.checked.prog.wideKeysFrom ·)) = true := ⟨by kernel_rfl, by kernel_rfl, by kernel_rfl, by kernel_rfl, by kernel_rfl⟩
theorem proofAccepts_j4 : (Rows.proofAcceptsSpec.vars.all (Tryd.pinned.checked.prog.varReadable ·)) = true ∧ (Tryd.f10.resultTypes.all (fun t => Tryd.pinned.checked.prog.readableRec t && decide (t < Tryd.pinned.checked.prog.types.size))) = true ∧ (Rows.proofAcceptsRow.ifacesOut == Tryd.f10.resultTypes.toList.any (Tryd.pinned.checked.prog.ifacesRec ·)) = true ∧ (Rows.proofAcceptsRow.loopsOut == Tryd.f10.resultTypes.toList.any (Tryd.pinned.checked.prog.loopsFrom ·)) = true ∧ (Rows.proofAcceptsRow.plainKeys == Tryd.pinned.checked.prog.plainKeys) = true ∧ (Rows.proofAcceptsRow.shortTexts.isNone) = true ∧ (Tryd.pinned.checked.prog.stopsHeard) = true ∧ (Tryd.pinned.checked.prog.mayEnter) = true ∧ (Rows.proofAcceptsRow.lifted == Tryd.pinned.checked.prog.liftsFinal) = true ∧ (Tryd.pinned.checked.prog.make == some Rows.proofAcceptsRow.make) = true ∧ (Rows.proofAcceptsRow.kinds == (if Rows.proofAcceptsRow.domain.isEmpty then [] else Tryd.f10.params.toList.map fun t => match Tryd.pinned.checked.prog.underlying t with | some (.int k) => some k | _ => none)) = true ∧ (Rows.proofAcceptsRow.pinned == Rows.proofAcceptsRow.pinnedBy) = true := ⟨by kernel_rfl, by kernel_rfl, by kernel_rfl, by kernel_rfl, by kernel_rfl, by kernel_rfl, by kernel_rfl, by kernel_rfl, by kernel_rfl, by kernel_rfl, by kernel_rfl, by kernel_rfl⟩
theorem proofAccepts_j5 : (Rows.proofAcceptsRow.veiled == (Tryd.f10.params.toList ++ Rows.proofAcceptsSpec.plain.varTypes Tryd.pinned.checked.prog ++ Tryd.f10.resultTypes.toList).any (Tryd.pinned.checked.prog.veiledRec ·)) = true ∧ (Rows.proofAcceptsRow.veiledFits Tryd.pinned.checked.prog Tryd.f10.params.toList (Tryd.f10.params.toList ++ Rows.proofAcceptsSpec.plain.varTypes Tryd.pinned.checked.prog ++ Tryd.f10.resultTypes.toList)) = true := ⟨by kernel_rfl, by kernel_rfl⟩
set_option maxRecDepth 100000 in
theorem proofAccepts_jf : joinedFacts Tryd.pinned.checked.prog 10 Tryd.f10 Rows.proofAcceptsSpec Rows.proofAcceptsRow = true := (bandI (bandI (bandI (bandI (bandI (bandI (bandI (bandI (bandI (bandI (bandI (bandI (bandI (bandI (bandI (bandI (bandI (bandI (bandI (bandI (bandI (bandI (bandI (bandI (bandI (bandI (bandI (bandI (bandI (bandI (bandI proofAccepts_j0.1 proofAccepts_j0.2.1) proofAccepts_j0.2.2.1) proofAccepts_j0.2.2.2.1) proofAccepts_j0.2.2.2.2.1) proofAccepts_j0.2.2.2.2.2.1) proofAccepts_j0.2.2.2.2.2.2.1) proofAccepts_j0.2.2.2.2.2.2.2.1) proofAccepts_j0.2.2.2.2.2.2.2.2) proofAccepts_j1.1) proofAccepts_j1.2) proofAccepts_j2.1) proofAccepts_j2.2) proofAccepts_j3.1) proofAccepts_j3.2.1) proofAccepts_j3.2.2.1) proofAccepts_j3.2.2.2.1) proofAccepts_j3.2.2.2.2) proofAccepts_j4.1) proofAccepts_j4.2.1) proofAccepts_j4.2.2.1) proofAccepts_j4.2.2.2.1) proofAccepts_j4.2.2.2.2.1) proofAccepts_j4.2.2.2.2.2.1) proofAccepts_j4.2.2.2.2.2.2.1) proofAccepts_j4.2.2.2.2.2.2.2.1) proofAccepts_j4.2.2.2.2.2.2.2.2.1) proofAccepts_j4.2.2.2.2.2.2.2.2.2.1) proofAccepts_j4.2.2.2.2.2.2.2.2.2.2.1) proofAccepts_j4.2.2.2.2.2.2.2.2.2.2.2) proofAccepts_j5.1) proofAccepts_j5.2)
theorem proofAccepts_fn : Tryd.pinned.checked.prog.funcNamed Rows.proofAcceptsRow.func = some 10 := by kernel_rfl

theorem proofAccepts_said : Rows.ProofAcceptsSaid :=
  OpenClaim.holds_of_wide 10 Tryd.f10 rfl rfl rfl rfl rfl rfl rfl ⟨rfl, rfl, rfl, rfl, rfl⟩ rfl rfl rfl rfl rfl proofAccepts_fn Tryd.func10 proofAccepts_jf
    (of_decide_eq_true (by kernel_rfl)) (by unfold Func.isWrapper; first | (rw [if_pos (by decide +kernel)]; kernel_rfl) | (rw [if_neg (by decide +kernel)]; exact ⟨rfl, rfl⟩))
    (fun os started H enc _ => proofAccepts_lifted os started H enc)
theorem proofAccepts_w : Rows.proofAcceptsRow.wfByText (OpenSpec.ofChange Rows.proofAcceptsSpec) = true := by kernel_rfl
theorem proofAccepts_m : Tryd.pinned.checked.prog.mainIs = some (true, "4e9d58d4572607adca996765bd59d579cc081f5c4a473c82a35263225debb448".toList) := by kernel_rfl
theorem proofAccepts_lk : false = Tryd.pinned.checked.prog.looks [] := by kernel_rfl
theorem proofAccepts_g : false = Rows.proofAcceptsRow.goesBy Tryd.pinned.checked.prog := by kernel_rfl

theorem proofAccepts_holds : Rows.ProofAcceptsCardSaid :=
  Claim7.holds_tied_plain_at .later [] [.data] true (true, "4e9d58d4572607adca996765bd59d579cc081f5c4a473c82a35263225debb448") false
    proofAccepts_said (fun _ h => by cases h) proofAccepts_w (fun _ h => by cases h) proofAccepts_row_tie rfl ⟨rfl, rfl⟩ proofAccepts_m rfl
    (fun f fn hf hfn => by
      obtain rfl : f = 10 := Option.some.inj ((show Tryd.prog.funcNamed "almagest/almagestlaw16.ProofAccepts" = some 10 by kernel_rfl).symm.trans hf) |>.symm
      obtain rfl : fn = Tryd.f10 := (Option.some.inj (Tryd.func10.symm.trans hfn)).symm
      refine ⟨proofAccepts_lk, fun j t ht => ?_⟩
      rw [Tryd.params10] at ht
      rcases j with _ | j
      · obtain rfl : t = 86 := by simpa using ht.symm
        exact (show Tryd.prog.wantsStandIn 86 = false by kernel_rfl)
      · simp at ht)
    proofAccepts_g
end Go.Proofs.YtokdfjelilhekaaDoor
