/- The card of TreeDoes: whatever the input is, the law returns true and leaves all as it was; the listed variables hold what the program's text lays. -/
import Derived.Test.YtokdfjelilhekaaDoorRows
import Derived.Test.YtokdfjelilhekaaDoorCards
import Derived.Test.YtokdfjelilhekaaDoorTie
import Derived.Test.YtokdfjelilhekaaDoorL15a
import Derived.Test.YtokdfjelilhekaaDoorLib8
import Derived.Test.YtokdfjelilhekaaDoorLib7
import Derived.ProofKit
import Derived.LaidMore
import Derived.OpenShut
import Derived.Stop.Joined
import Derived.SevenTiedAt
namespace Go.Proofs.YtokdfjelilhekaaDoor
open Go Go.ChangeShapes Go.WideShapes Go.ChangeAt Go.RowKit Go.Alm

theorem Tryd.own_treeDoes : ownKnob Tryd.prog.godebug = none := by kernel_rfl
theorem Tryd.laidOut_treeDoes : laidOutB Tryd.prog = true := by kernel_rfl
def laid_treeDoes {H : Type} : List (String × DataW H) := [("almagest/almagestref02.k", Rows.laid_almagest_almagestref02_k), ("almagest/sha.keys", Rows.laid_almagest_sha_keys)]
theorem door_treeDoes (os : Os) (args : Array Value) : laidMetH Tryd.prog laid_treeDoes ((World.doorLaid Tryd.prog 4000 os).forCall (fun _ _ => 0) ⟨#[], args, []⟩).memory :=
  laidMetH_of_parts3 (fuel := 8) (laidMet_of_run' 8 (by kernel_rfl) (by kernel_rfl)) (by kernel_rfl) (by kernel_rfl)
theorem keys_treeDoes {W : World} (h : laidMetH Tryd.prog laid_treeDoes W) : Rd W (some ⟨0, 0, none⟩) (hw KL).toList ∧ Rd W (some ⟨1, 0, none⟩) (hw KL).toList := by
  rw [MakeChecks.laidMetH_plain _ _ _ (by kernel_rfl)] at h
  obtain ⟨ps, ⟨g0, t0, cs0, f0, p0, q0, hg0, ht0, hv0, hd0, ⟨g1, t1, cs1, f1, p1, q1, hg1, ht1, hv1, hd1, _, _⟩, _⟩, _, _⟩ := h
  obtain rfl := Option.some.inj ((show Tryd.prog.globalNamed "almagest/almagestref02.k" = some 0 by kernel_rfl).symm.trans hg0)
  obtain rfl := Option.some.inj ((show (Tryd.prog.globals[0]?).map (·.type) = some 137 by kernel_rfl).symm.trans ht0)
  obtain rfl := Option.some.inj ((show Tryd.prog.globalNamed "almagest/sha.keys" = some 1 by kernel_rfl).symm.trans hg1)
  obtain rfl := Option.some.inj ((show (Tryd.prog.globals[1]?).map (·.type) = some 137 by kernel_rfl).symm.trans ht1)
  exact ⟨keys_of_laid (e := 29) hg0 hv0 (by kernel_rfl) (by kernel_rfl) (by kernel_rfl) hd0 (by kernel_rfl), keys_of_laid (e := 29) hg1 hv1 (by kernel_rfl) (by kernel_rfl) (by kernel_rfl) hd1 (by kernel_rfl)⟩

set_option maxRecDepth 100000 in
theorem treeDoes_lifted (os : Os) (started : os.Started) (H : Type) (enc : TypeId × Value → H) :
    ReturnsInHanded {} Tryd.checked os 3 .any (fun w args => (Rows.treeDoesSpec.pre enc Tryd.prog Tryd.f3 [] false w args ∧ laidMetH Tryd.prog laid_treeDoes w) ∧ sizedMet enc Tryd.prog Tryd.f3 (OpenSpec.ofChange Rows.treeDoesSpec) false w args)
      (Rows.treeDoesSpec.post enc Tryd.prog Tryd.f3 false true false false) := by
  refine returnsInHanded_of_change_and (C := Tryd.checked) (X := fun w _ => laidMetH Tryd.prog laid_treeDoes w) (fun _ _ _ hh h => h.of_heap hh) Tryd.own_treeDoes started (by kernel_rfl) Tryd.func3
    (ChangeSpec.witness_shaped (enc := enc) (C := Tryd.checked) (os := os) (X := fun w _ => laidMetH Tryd.prog laid_treeDoes w) false (World.doorLaid Tryd.prog 4000 os) #[.slice none 0 0, .int .i64 0] 8 rfl (World.shaped_of_RefB (by kernel_rfl) (by kernel_rfl)) (by kernel_rfl) (by kernel_rfl) (by kernel_rfl) (door_treeDoes os _)) ?_
  intro W base args ds gs before hval0 hW _ _ hL _
  have hval : ∀ (j : Nat) t v, Tryd.f3.params[j]? = some t → args[j]? = some v → Value.okWide Tryd.prog W .any base t v := hval0
  have hW' := hW
  obtain ⟨p, q, hA0, hV, rfl, hfz, hnd⟩ := hW
  have hA : DataW.TrodAll enc Tryd.prog W 0 (fun _ => true) true Tryd.f3.params.toList args.toList ds p := hA0
  rw [Tryd.params3] at hA hval
  obtain ⟨v0, v1, d0, d1, p0, p1, rfl, rfl, rfl, h0, h1⟩ := trodAll_two hA
  obtain ⟨rfl, rfl⟩ := trodVars_none hV
  have hK := keys_treeDoes hL
  obtain ⟨a0, len0, c0, rfl⟩ := okWide_slice Tryd.underlying22 (hval 0 22 v0 rfl rfl)
  obtain ⟨fu0, hf0⟩ := id h0; obtain ⟨ao0, ls0, cap0, e0, hR0, hB0, hlc0, hcm0⟩ := recs_of_trod (t := 22) (e := 38) (f := AAct.cells) (Ok := AAct.Ok) (sz := 5) AAct.size (by decide) (by kernel_rfl) (by kernel_rfl) (fun _ _ _ hy => act_of (ti := 3) (ta := 36) (ts := 9) (tu := 28) (tn := 29) ⟨⟨(by kernel_rfl), (by kernel_rfl), (by kernel_rfl), (by kernel_rfl)⟩, ⟨(by kernel_rfl)⟩, ⟨⟨(by kernel_rfl), (by kernel_rfl), (by kernel_rfl), (by kernel_rfl)⟩, (by kernel_rfl), ⟨(by kernel_rfl)⟩, ⟨(by kernel_rfl)⟩⟩⟩ hy) hf0
  have e0' : Value.slice a0 len0 c0 = .slice ao0 ls0.length cap0 := by simpa [Value.cells] using e0
  rw [e0'] at hW' h0 ⊢
  obtain ⟨n1, rfl⟩ := okWide_int Tryd.underlying3 (hval 1 3 v1 rfl rfl)
  have hi1 := i64_of_trod (by kernel_rfl) h1
  clear hA0 hval0 hval hA
  simp only [List.append_nil] at hW'
  have hlt : ∀ x ∈ p0 ++ p1, x.block < W.heap.size := fun x hx => by simpa using hW'.lt x hx
  have hro : RoA W [(.rd ao0 (RL AAct.cells ls0)), (.rd (some ⟨0, 0, none⟩) (hw KL).toList), (.rd (some ⟨1, 0, none⟩) (hw KL).toList)] := (.cons hR0 (.cons hK.1 (.cons hK.2 .nil)))
  have hcall := Does.row (treeDoes_j ao0 cap0 ls0 n1 hB0 (by simp only [maxLen] at hcm0; omega) hi1) hro.out
  refine hcall.mono fun e W' ⟨he, hF⟩ => ?_
  subst he
  exact ⟨_, rfl, post_of_fr (pa := p0 ++ (p1)) (pv := []) hW' (fun _ _ _ => trodAll_mk1 (shut_bool Tryd.underlying4 true)) (fun sp hsp => trodAll_mk2 (WideElems.Trod_stays Tryd.laidOut_treeDoes (by kernel_rfl) (of_decide_eq_true (by kernel_rfl)) h0 (fun x hx => hF.below.same (hlt x (by simp [hx]))) (fun x hx => hsp x (by simp [hx]))) (WideElems.Trod_stays Tryd.laidOut_treeDoes (by kernel_rfl) (of_decide_eq_true (by kernel_rfl)) h1 (fun x hx => hF.below.same (hlt x (by simp [hx]))) (fun x hx => hsp x (by simp [hx])))) (fun _ _ => rfl) (by simp) hF (ok_one (by kernel_rfl) rfl (okWide_bool_mk Tryd.underlying4 true))⟩
theorem treeDoes_j0 : (Rows.treeDoesRow.wf (OpenSpec.ofChange Rows.treeDoesSpec)) = true ∧ (laidOutB Tryd.pinned.checked.prog) = true ∧ (mapsRowed Tryd.pinned.checked.prog) = true ∧ (Tryd.f3.params.all (Tryd.pinned.checked.prog.readableRec ·)) = true ∧ (namedTie Tryd.pinned.checked.prog Rows.treeDoesRow.named Rows.treeDoesSpec.vars) = true ∧ (Rows.treeDoesRow.stops == []) = true ∧ (Tryd.pinned.checked.prog.stops == []) = true ∧ (Rows.treeDoesRow.knobs == []) = true ∧ (Tryd.pinned.checked.prog.stopKnobs == []) = true := ⟨by kernel_rfl, by kernel_rfl, by kernel_rfl, by kernel_rfl, by kernel_rfl, by kernel_rfl, by kernel_rfl, by kernel_rfl, by kernel_rfl⟩
theorem treeDoes_j1 : (Rows.treeDoesRow.inPlace == Tryd.pinned.checked.prog.inPlace 3) = true ∧ (Rows.treeDoesRow.unfollowed == Tryd.pinned.checked.prog.unfollowed 3) = true := ⟨by kernel_rfl, by kernel_rfl⟩
theorem treeDoes_j2 : (Rows.treeDoesRow.recurses == Tryd.pinned.checked.prog.recurses 3) = true ∧ (Rows.treeDoesRow.named == Tryd.pinned.checked.prog.varsNamed 3) = true := ⟨by kernel_rfl, by kernel_rfl⟩
theorem treeDoes_j3 : (Rows.treeDoesRow.maps == (Tryd.f3.params.toList ++ Rows.treeDoesSpec.plain.varTypes Tryd.pinned.checked.prog).any (Tryd.pinned.checked.prog.mapsRec ·)) = true ∧ (Rows.treeDoesRow.ifaces == (Tryd.f3.params.toList ++ Rows.treeDoesSpec.plain.varTypes Tryd.pinned.checked.prog).any (Tryd.pinned.checked.prog.ifacesRec ·)) = true ∧ (Rows.treeDoesRow.mapsOut == Tryd.pinned.checked.prog.mapsAmong Tryd.f3.resultTypes.toList) = true ∧ (Rows.treeDoesRow.loops == (Tryd.f3.params.toList ++ Rows.treeDoesSpec.plain.varTypes Tryd.pinned.checked.prog).any (Tryd.pinned.checked.prog.loopsFrom ·)) = true ∧ (Rows.treeDoesRow.wideKeys == (Tryd.f3.params.toList ++ Rows.treeDoesSpec.plain.varTypes Tryd.pinned.checked.prog ++ Tryd.f3.resultTypes.toList).any (Tryd.pinned.checked.prog.wideKeysFrom ·)) = true := ⟨by kernel_rfl, by kernel_rfl, by kernel_rfl, by kernel_rfl, by kernel_rfl⟩
theorem treeDoes_j4 : (Rows.treeDoesSpec.vars.all (Tryd.pinned.checked.prog.varReadable ·)) = true ∧ (Tryd.f3.resultTypes.all (fun t => Tryd.pinned.checked.prog.readableRec t && decide (t < Tryd.pinned.checked.prog.types.size))) = true ∧ (Rows.treeDoesRow.ifacesOut == Tryd.f3.resultTypes.toList.any (Tryd.pinned.checked.prog.ifacesRec ·)) = true ∧ (Rows.treeDoesRow.loopsOut == Tryd.f3.resultTypes.toList.any (Tryd.pinned.checked.prog.loopsFrom ·)) = true ∧ (Rows.treeDoesRow.plainKeys == Tryd.pinned.checked.prog.plainKeys) = true ∧ (Rows.treeDoesRow.shortTexts.isNone) = true ∧ (Tryd.pinned.checked.prog.stopsHeard) = true ∧ (Tryd.pinned.checked.prog.mayEnter) = true ∧ (Rows.treeDoesRow.lifted == Tryd.pinned.checked.prog.liftsFinal) = true ∧ (Tryd.pinned.checked.prog.make == some Rows.treeDoesRow.make) = true ∧ (Rows.treeDoesRow.kinds == (if Rows.treeDoesRow.domain.isEmpty then [] else Tryd.f3.params.toList.map fun t => match Tryd.pinned.checked.prog.underlying t with | some (.int k) => some k | _ => none)) = true ∧ (Rows.treeDoesRow.pinned == Rows.treeDoesRow.pinnedBy) = true := ⟨by kernel_rfl, by kernel_rfl, by kernel_rfl, by kernel_rfl, by kernel_rfl, by kernel_rfl, by kernel_rfl, by kernel_rfl, by kernel_rfl, by kernel_rfl, by kernel_rfl, by kernel_rfl⟩
theorem treeDoes_j5 : (Rows.treeDoesRow.veiled == (Tryd.f3.params.toList ++ Rows.treeDoesSpec.plain.varTypes Tryd.pinned.checked.prog ++ Tryd.f3.resultTypes.toList).any (Tryd.pinned.checked.prog.veiledRec ·)) = true ∧ (Rows.treeDoesRow.veiledFits Tryd.pinned.checked.prog Tryd.f3.params.toList (Tryd.f3.params.toList ++ Rows.treeDoesSpec.plain.varTypes Tryd.pinned.checked.prog ++ Tryd.f3.resultTypes.toList)) = true := ⟨by kernel_rfl, by kernel_rfl⟩
set_option maxRecDepth 100000 in
theorem treeDoes_jf : joinedFacts Tryd.pinned.checked.prog 3 Tryd.f3 Rows.treeDoesSpec Rows.treeDoesRow = true := (bandI (bandI (bandI (bandI (bandI (bandI (bandI (bandI (bandI (bandI (bandI (bandI (bandI (bandI (bandI (bandI (bandI (bandI (bandI (bandI (bandI (bandI (bandI (bandI (bandI (bandI (bandI (bandI (bandI (bandI (bandI treeDoes_j0.1 treeDoes_j0.2.1) treeDoes_j0.2.2.1) treeDoes_j0.2.2.2.1) treeDoes_j0.2.2.2.2.1) treeDoes_j0.2.2.2.2.2.1) treeDoes_j0.2.2.2.2.2.2.1) treeDoes_j0.2.2.2.2.2.2.2.1) treeDoes_j0.2.2.2.2.2.2.2.2) treeDoes_j1.1) treeDoes_j1.2) treeDoes_j2.1) treeDoes_j2.2) treeDoes_j3.1) treeDoes_j3.2.1) treeDoes_j3.2.2.1) treeDoes_j3.2.2.2.1) treeDoes_j3.2.2.2.2) treeDoes_j4.1) treeDoes_j4.2.1) treeDoes_j4.2.2.1) treeDoes_j4.2.2.2.1) treeDoes_j4.2.2.2.2.1) treeDoes_j4.2.2.2.2.2.1) treeDoes_j4.2.2.2.2.2.2.1) treeDoes_j4.2.2.2.2.2.2.2.1) treeDoes_j4.2.2.2.2.2.2.2.2.1) treeDoes_j4.2.2.2.2.2.2.2.2.2.1) treeDoes_j4.2.2.2.2.2.2.2.2.2.2.1) treeDoes_j4.2.2.2.2.2.2.2.2.2.2.2) treeDoes_j5.1) treeDoes_j5.2)
theorem treeDoes_fn : Tryd.pinned.checked.prog.funcNamed Rows.treeDoesRow.func = some 3 := by kernel_rfl

theorem treeDoes_said : Rows.TreeDoesSaid :=
  OpenClaim.holds_of_wide 3 Tryd.f3 rfl rfl rfl rfl rfl rfl rfl ⟨rfl, rfl, rfl, rfl, rfl⟩ rfl rfl rfl rfl rfl treeDoes_fn Tryd.func3 treeDoes_jf
    (of_decide_eq_true (by kernel_rfl)) (by unfold Func.isWrapper; first | (rw [if_pos (by decide +kernel)]; kernel_rfl) | (rw [if_neg (by decide +kernel)]; exact ⟨rfl, rfl⟩))
    (fun os started H enc _ => treeDoes_lifted os started H enc)
theorem treeDoes_w : Rows.treeDoesRow.wfByText (OpenSpec.ofChange Rows.treeDoesSpec) = true := by kernel_rfl
theorem treeDoes_m : Tryd.pinned.checked.prog.mainIs = some (true, "4e9d58d4572607adca996765bd59d579cc081f5c4a473c82a35263225debb448".toList) := by kernel_rfl
theorem treeDoes_lk : false = Tryd.pinned.checked.prog.looks [] := by kernel_rfl
theorem treeDoes_g : false = Rows.treeDoesRow.goesBy Tryd.pinned.checked.prog := by kernel_rfl

theorem treeDoes_holds : Rows.TreeDoesCardSaid :=
  Claim7.holds_tied_plain_at .later [] [.data, .data] true (true, "4e9d58d4572607adca996765bd59d579cc081f5c4a473c82a35263225debb448") false
    treeDoes_said (fun _ h => by cases h) treeDoes_w (fun _ h => by cases h) treeDoes_row_tie rfl ⟨rfl, rfl⟩ treeDoes_m rfl
    (fun f fn hf hfn => by
      obtain rfl : f = 3 := Option.some.inj ((show Tryd.prog.funcNamed "almagest/almagestlaw15.TreeDoes" = some 3 by kernel_rfl).symm.trans hf) |>.symm
      obtain rfl : fn = Tryd.f3 := (Option.some.inj (Tryd.func3.symm.trans hfn)).symm
      refine ⟨treeDoes_lk, fun j t ht => ?_⟩
      rw [Tryd.params3] at ht
      rcases j with _ | j
      · obtain rfl : t = 22 := by simpa using ht.symm
        exact (show Tryd.prog.wantsStandIn 22 = false by kernel_rfl)
      · rcases j with _ | j
        · obtain rfl : t = 3 := by simpa using ht.symm
          exact (show Tryd.prog.wantsStandIn 3 = false by kernel_rfl)
        · simp at ht)
    treeDoes_g
end Go.Proofs.YtokdfjelilhekaaDoor
