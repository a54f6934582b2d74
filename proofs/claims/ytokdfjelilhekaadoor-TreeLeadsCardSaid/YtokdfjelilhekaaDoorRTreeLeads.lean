/- The card of TreeLeads: whatever the input is, the law returns true and leaves all as it was; the listed variables hold what the program's text lays. -/
import Derived.Test.YtokdfjelilhekaaDoorRows
import Derived.Test.YtokdfjelilhekaaDoorCards
import Derived.Test.YtokdfjelilhekaaDoorTie
import Derived.Test.YtokdfjelilhekaaDoorL15b
import Derived.Test.YtokdfjelilhekaaDoorLib8
import Derived.Test.YtokdfjelilhekaaDoorLib7
import Derived.ProofKit
import Derived.LaidMore
import Derived.OpenShut
import Derived.Stop.Joined
import Derived.SevenTiedAt
namespace Go.Proofs.YtokdfjelilhekaaDoor
open Go Go.ChangeShapes Go.WideShapes Go.ChangeAt Go.RowKit Go.Alm

theorem Tryd.own_treeLeads : ownKnob Tryd.prog.godebug = none := by kernel_rfl
theorem Tryd.laidOut_treeLeads : laidOutB Tryd.prog = true := by kernel_rfl
def laid_treeLeads {H : Type} : List (String × DataW H) := [("almagest/sha.keys", Rows.laid_almagest_sha_keys)]
theorem door_treeLeads (os : Os) (args : Array Value) : laidMetH Tryd.prog laid_treeLeads ((World.doorLaid Tryd.prog 4000 os).forCall (fun _ _ => 0) ⟨#[], args, []⟩).memory :=
  laidMetH_of_parts3 (fuel := 8) (laidMet_of_run' 8 (by kernel_rfl) (by kernel_rfl)) (by kernel_rfl) (by kernel_rfl)
theorem keys_treeLeads {W : World} (h : laidMetH Tryd.prog laid_treeLeads W) : Rd W (some ⟨1, 0, none⟩) (hw KL).toList := by
  rw [MakeChecks.laidMetH_plain _ _ _ (by kernel_rfl)] at h
  obtain ⟨ps, ⟨g0, t0, cs0, f0, p0, q0, hg0, ht0, hv0, hd0, _, _⟩, _, _⟩ := h
  obtain rfl := Option.some.inj ((show Tryd.prog.globalNamed "almagest/sha.keys" = some 1 by kernel_rfl).symm.trans hg0)
  obtain rfl := Option.some.inj ((show (Tryd.prog.globals[1]?).map (·.type) = some 137 by kernel_rfl).symm.trans ht0)
  exact keys_of_laid (e := 29) hg0 hv0 (by kernel_rfl) (by kernel_rfl) (by kernel_rfl) hd0 (by kernel_rfl)

set_option maxRecDepth 100000 in
theorem treeLeads_lifted (os : Os) (started : os.Started) (H : Type) (enc : TypeId × Value → H) :
    ReturnsInHanded {} Tryd.checked os 4 .any (fun w args => (Rows.treeLeadsSpec.pre enc Tryd.prog Tryd.f4 [] false w args ∧ laidMetH Tryd.prog laid_treeLeads w) ∧ sizedMet enc Tryd.prog Tryd.f4 (OpenSpec.ofChange Rows.treeLeadsSpec) false w args)
      (Rows.treeLeadsSpec.post enc Tryd.prog Tryd.f4 false true false false) := by
  refine returnsInHanded_of_change_and (C := Tryd.checked) (X := fun w _ => laidMetH Tryd.prog laid_treeLeads w) (fun _ _ _ hh h => h.of_heap hh) Tryd.own_treeLeads started (by kernel_rfl) Tryd.func4
    (ChangeSpec.witness_shaped (enc := enc) (C := Tryd.checked) (os := os) (X := fun w _ => laidMetH Tryd.prog laid_treeLeads w) false (World.doorLaid Tryd.prog 4000 os) #[.slice none 0 0] 8 rfl (World.shaped_of_RefB (by kernel_rfl) (by kernel_rfl)) (by kernel_rfl) (by kernel_rfl) (by kernel_rfl) (door_treeLeads os _)) ?_
  intro W base args ds gs before hval0 hW _ _ hL _
  have hval : ∀ (j : Nat) t v, Tryd.f4.params[j]? = some t → args[j]? = some v → Value.okWide Tryd.prog W .any base t v := hval0
  have hW' := hW
  obtain ⟨p, q, hA0, hV, rfl, hfz, hnd⟩ := hW
  have hA : DataW.TrodAll enc Tryd.prog W 0 (fun _ => true) true Tryd.f4.params.toList args.toList ds p := hA0
  rw [Tryd.params4] at hA hval
  obtain ⟨v0, d0, rfl, rfl, h0⟩ := trodAll_one hA
  obtain ⟨rfl, rfl⟩ := trodVars_none hV
  have hK := keys_treeLeads hL
  obtain ⟨a0, len0, c0, rfl⟩ := okWide_slice Tryd.underlying22 (hval 0 22 v0 rfl rfl)
  obtain ⟨fu0, hf0⟩ := id h0; obtain ⟨ao0, ls0, cap0, e0, hR0, hB0, hlc0, hcm0⟩ := recs_of_trod (t := 22) (e := 38) (f := AAct.cells) (Ok := AAct.Ok) (sz := 5) AAct.size (by decide) (by kernel_rfl) (by kernel_rfl) (fun _ _ _ hy => act_of (ti := 3) (ta := 36) (ts := 9) (tu := 28) (tn := 29) ⟨⟨(by kernel_rfl), (by kernel_rfl), (by kernel_rfl), (by kernel_rfl)⟩, ⟨(by kernel_rfl)⟩, ⟨⟨(by kernel_rfl), (by kernel_rfl), (by kernel_rfl), (by kernel_rfl)⟩, (by kernel_rfl), ⟨(by kernel_rfl)⟩, ⟨(by kernel_rfl)⟩⟩⟩ hy) hf0
  have e0' : Value.slice a0 len0 c0 = .slice ao0 ls0.length cap0 := by simpa [Value.cells] using e0
  rw [e0'] at hW' h0 ⊢
  clear hA0 hval0 hval hA
  simp only [List.append_nil] at hW'
  have hlt : ∀ x ∈ p, x.block < W.heap.size := fun x hx => by simpa using hW'.lt x hx
  have hro : RoA W [(.rd ao0 (RL AAct.cells ls0)), (.rd (some ⟨1, 0, none⟩) (hw KL).toList)] := (.cons hR0 (.cons hK .nil))
  have hcall := Does.row (treeLeads_j ao0 cap0 ls0 hB0 (by simp only [maxLen] at hcm0; omega)) hro.out
  refine hcall.mono fun e W' ⟨he, hF⟩ => ?_
  subst he
  exact ⟨_, rfl, post_of_fr (pa := p) (pv := []) hW' (fun _ _ _ => trodAll_mk1 (shut_bool Tryd.underlying4 true)) (fun sp hsp => trodAll_mk1 (WideElems.Trod_stays Tryd.laidOut_treeLeads (by kernel_rfl) (of_decide_eq_true (by kernel_rfl)) h0 (fun x hx => hF.below.same (hlt x (by simp [hx]))) (fun x hx => hsp x (by simp [hx])))) (fun _ _ => rfl) (by simp) hF (ok_one (by kernel_rfl) rfl (okWide_bool_mk Tryd.underlying4 true))⟩
theorem treeLeads_j0 : (Rows.treeLeadsRow.wf (OpenSpec.ofChange Rows.treeLeadsSpec)) = true ∧ (laidOutB Tryd.pinned.checked.prog) = true ∧ (mapsRowed Tryd.pinned.checked.prog) = true ∧ (Tryd.f4.params.all (Tryd.pinned.checked.prog.readableRec ·)) = true ∧ (namedTie Tryd.pinned.checked.prog Rows.treeLeadsRow.named Rows.treeLeadsSpec.vars) = true ∧ (Rows.treeLeadsRow.stops == []) = true ∧ (Tryd.pinned.checked.prog.stops == []) = true ∧ (Rows.treeLeadsRow.knobs == []) = true ∧ (Tryd.pinned.checked.prog.stopKnobs == []) = true := ⟨by kernel_rfl, by kernel_rfl, by kernel_rfl, by kernel_rfl, by kernel_rfl, by kernel_rfl, by kernel_rfl, by kernel_rfl, by kernel_rfl⟩
theorem treeLeads_j1 : (Rows.treeLeadsRow.inPlace == Tryd.pinned.checked.prog.inPlace 4) = true ∧ (Rows.treeLeadsRow.unfollowed == Tryd.pinned.checked.prog.unfollowed 4) = true := ⟨by kernel_rfl, by kernel_rfl⟩
theorem treeLeads_j2 : (Rows.treeLeadsRow.recurses == Tryd.pinned.checked.prog.recurses 4) = true ∧ (Rows.treeLeadsRow.named == Tryd.pinned.checked.prog.varsNamed 4) = true := ⟨by kernel_rfl, by kernel_rfl⟩
theorem treeLeads_j3 : (Rows.treeLeadsRow.maps == (Tryd.f4.params.toList ++ Rows.treeLeadsSpec.plain.varTypes Tryd.pinned.checked.prog).any (Tryd.pinned.checked.prog.mapsRec ·)) = true ∧ (Rows.treeLeadsRow.ifaces == (Tryd.f4.params.toList ++ Rows.treeLeadsSpec.plain.varTypes Tryd.pinned.checked.prog).any (Tryd.pinned.checked.prog.ifacesRec ·)) = true ∧ (Rows.treeLeadsRow.mapsOut == Tryd.pinned.checked.prog.mapsAmong Tryd.f4.resultTypes.toList) = true ∧ (Rows.treeLeadsRow.loops == (Tryd.f4.params.toList ++ Rows.treeLeadsSpec.plain.varTypes Tryd.pinned.checked.prog).any (Tryd.pinned.checked.prog.loopsFrom ·)) = true ∧ (Rows.treeLeadsRow.wideKeys == (Tryd.f4.params.toList ++ Rows.treeLeadsSpec.plain.varTypes Tryd.pinned.checked.prog ++ Tryd.f4.resultTypes.toList).any (Tryd.pinned.checked.prog.wideKeysFrom ·)) = true := ⟨by kernel_rfl, by kernel_rfl, by kernel_rfl, by kernel_rfl, by kernel_rfl⟩
theorem treeLeads_j4 : (Rows.treeLeadsSpec.vars.all (Tryd.pinned.checked.prog.varReadable ·)) = true ∧ (Tryd.f4.resultTypes.all (fun t => Tryd.pinned.checked.prog.readableRec t && decide (t < Tryd.pinned.checked.prog.types.size))) = true ∧ (Rows.treeLeadsRow.ifacesOut == Tryd.f4.resultTypes.toList.any (Tryd.pinned.checked.prog.ifacesRec ·)) = true ∧ (Rows.treeLeadsRow.loopsOut == Tryd.f4.resultTypes.toList.any (Tryd.pinned.checked.prog.loopsFrom ·)) = true ∧ (Rows.treeLeadsRow.plainKeys == Tryd.pinned.checked.prog.plainKeys) = true ∧ (Rows.treeLeadsRow.shortTexts.isNone) = true ∧ (Tryd.pinned.checked.prog.stopsHeard) = true ∧ (Tryd.pinned.checked.prog.mayEnter) = true ∧ (Rows.treeLeadsRow.lifted == Tryd.pinned.checked.prog.liftsFinal) = true ∧ (Tryd.pinned.checked.prog.make == some Rows.treeLeadsRow.make) = true ∧ (Rows.treeLeadsRow.kinds == (if Rows.treeLeadsRow.domain.isEmpty then [] else Tryd.f4.params.toList.map fun t => match Tryd.pinned.checked.prog.underlying t with | some (.int k) => some k | _ => none)) = true ∧ (Rows.treeLeadsRow.pinned == Rows.treeLeadsRow.pinnedBy) = true := ⟨by kernel_rfl, by kernel_rfl, by kernel_rfl, by kernel_rfl, by kernel_rfl, by kernel_rfl, by kernel_rfl, by kernel_rfl, by kernel_rfl, by kernel_rfl, by kernel_rfl, by kernel_rfl⟩
theorem treeLeads_j5 : (Rows.treeLeadsRow.veiled == (Tryd.f4.params.toList ++ Rows.treeLeadsSpec.plain.varTypes Tryd.pinned.checked.prog ++ Tryd.f4.resultTypes.toList).any (Tryd.pinned.checked.prog.veiledRec ·)) = true ∧ (Rows.treeLeadsRow.veiledFits Tryd.pinned.checked.prog Tryd.f4.params.toList (Tryd.f4.params.toList ++ Rows.treeLeadsSpec.plain.varTypes Tryd.pinned.checked.prog ++ Tryd.f4.resultTypes.toList)) = true := ⟨by kernel_rfl, by kernel_rfl⟩
set_option maxRecDepth 100000 in
theorem treeLeads_jf : joinedFacts Tryd.pinned.checked.prog 4 Tryd.f4 Rows.treeLeadsSpec Rows.treeLeadsRow = true := (bandI (bandI (bandI (bandI (bandI (bandI (bandI (bandI (bandI (bandI (bandI (bandI (bandI (bandI (bandI (bandI (bandI (bandI (bandI (bandI (bandI (bandI (bandI (bandI (bandI (bandI (bandI (bandI (bandI (bandI (bandI treeLeads_j0.1 treeLeads_j0.2.1) treeLeads_j0.2.2.1) treeLeads_j0.2.2.2.1) treeLeads_j0.2.2.2.2.1) treeLeads_j0.2.2.2.2.2.1) treeLeads_j0.2.2.2.2.2.2.1) treeLeads_j0.2.2.2.2.2.2.2.1) treeLeads_j0.2.2.2.2.2.2.2.2) treeLeads_j1.1) treeLeads_j1.2) treeLeads_j2.1) treeLeads_j2.2) treeLeads_j3.1) treeLeads_j3.2.1) treeLeads_j3.2.2.1) treeLeads_j3.2.2.2.1) treeLeads_j3.2.2.2.2) treeLeads_j4.1) treeLeads_j4.2.1) treeLeads_j4.2.2.1) treeLeads_j4.2.2.2.1) treeLeads_j4.2.2.2.2.1) treeLeads_j4.2.2.2.2.2.1) treeLeads_j4.2.2.2.2.2.2.1) treeLeads_j4.2.2.2.2.2.2.2.1) treeLeads_j4.2.2.2.2.2.2.2.2.1) treeLeads_j4.2.2.2.2.2.2.2.2.2.1) treeLeads_j4.2.2.2.2.2.2.2.2.2.2.1) treeLeads_j4.2.2.2.2.2.2.2.2.2.2.2) treeLeads_j5.1) treeLeads_j5.2)
theorem treeLeads_fn : Tryd.pinned.checked.prog.funcNamed Rows.treeLeadsRow.func = some 4 := by kernel_rfl

theorem treeLeads_said : Rows.TreeLeadsSaid :=
  OpenClaim.holds_of_wide 4 Tryd.f4 rfl rfl rfl rfl rfl rfl rfl ⟨rfl, rfl, rfl, rfl, rfl⟩ rfl rfl rfl rfl rfl treeLeads_fn Tryd.func4 treeLeads_jf
    (of_decide_eq_true (by kernel_rfl)) (by unfold Func.isWrapper; first | (rw [if_pos (by decide +kernel)]; kernel_rfl) | (rw [if_neg (by decide +kernel)]; exact ⟨rfl, rfl⟩))
    (fun os started H enc _ => treeLeads_lifted os started H enc)
theorem treeLeads_w : Rows.treeLeadsRow.wfByText (OpenSpec.ofChange Rows.treeLeadsSpec) = true := by kernel_rfl
theorem treeLeads_m : Tryd.pinned.checked.prog.mainIs = some (true, "4e9d58d4572607adca996765bd59d579cc081f5c4a473c82a35263225debb448".toList) := by kernel_rfl
theorem treeLeads_lk : false = Tryd.pinned.checked.prog.looks [] := by kernel_rfl
theorem treeLeads_g : false = Rows.treeLeadsRow.goesBy Tryd.pinned.checked.prog := by kernel_rfl

theorem treeLeads_holds : Rows.TreeLeadsCardSaid :=
  Claim7.holds_tied_plain_at .later [] [.data] true (true, "4e9d58d4572607adca996765bd59d579cc081f5c4a473c82a35263225debb448") false
    treeLeads_said (fun _ h => by cases h) treeLeads_w (fun _ h => by cases h) treeLeads_row_tie rfl ⟨rfl, rfl⟩ treeLeads_m rfl
    (fun f fn hf hfn => by
      obtain rfl : f = 4 := Option.some.inj ((show Tryd.prog.funcNamed "almagest/almagestlaw15.TreeLeads" = some 4 by kernel_rfl).symm.trans hf) |>.symm
      obtain rfl : fn = Tryd.f4 := (Option.some.inj (Tryd.func4.symm.trans hfn)).symm
      refine ⟨treeLeads_lk, fun j t ht => ?_⟩
      rw [Tryd.params4] at ht
      rcases j with _ | j
      · obtain rfl : t = 22 := by simpa using ht.symm
        exact (show Tryd.prog.wantsStandIn 22 = false by kernel_rfl)
      · simp at ht)
    treeLeads_g
end Go.Proofs.YtokdfjelilhekaaDoor
