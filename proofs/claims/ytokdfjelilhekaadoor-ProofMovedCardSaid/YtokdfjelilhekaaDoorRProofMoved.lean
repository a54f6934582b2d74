/- The card of ProofMoved: whatever the input is, the law returns true and leaves all as it was; the listed variables hold what the program's text lays. -/
import Derived.Test.YtokdfjelilhekaaDoorRows
import Derived.Test.YtokdfjelilhekaaDoorCards
import Derived.Test.YtokdfjelilhekaaDoorTie
import Derived.Test.YtokdfjelilhekaaDoorL16c
import Derived.Test.YtokdfjelilhekaaDoorLib9
import Derived.Test.YtokdfjelilhekaaDoorLib8
import Derived.ProofKit
import Derived.LaidMore
import Derived.OpenShut
import Derived.Stop.Joined
import Derived.SevenTiedAt
namespace Go.Proofs.YtokdfjelilhekaaDoor
open Go Go.ChangeShapes Go.WideShapes Go.ChangeAt Go.RowKit Go.Alm

theorem Tryd.own_proofMoved : ownKnob Tryd.prog.godebug = none := by kernel_rfl
theorem Tryd.laidOut_proofMoved : laidOutB Tryd.prog = true := by kernel_rfl
def laid_proofMoved {H : Type} : List (String × DataW H) := [("almagest/sha.keys", Rows.laid_almagest_sha_keys)]
theorem door_proofMoved (os : Os) (args : Array Value) : laidMetH Tryd.prog laid_proofMoved ((World.doorLaid Tryd.prog 4000 os).forCall (fun _ _ => 0) ⟨#[], args, []⟩).memory :=
  laidMetH_of_parts3 (fuel := 8) (laidMet_of_run' 8 (by kernel_rfl) (by kernel_rfl)) (by kernel_rfl) (by kernel_rfl)
theorem keys_proofMoved {W : World} (h : laidMetH Tryd.prog laid_proofMoved W) : Rd W (some ⟨1, 0, none⟩) (hw KL).toList := by
  rw [MakeChecks.laidMetH_plain _ _ _ (by kernel_rfl)] at h
  obtain ⟨ps, ⟨g0, t0, cs0, f0, p0, q0, hg0, ht0, hv0, hd0, _, _⟩, _, _⟩ := h
  obtain rfl := Option.some.inj ((show Tryd.prog.globalNamed "almagest/sha.keys" = some 1 by kernel_rfl).symm.trans hg0)
  obtain rfl := Option.some.inj ((show (Tryd.prog.globals[1]?).map (·.type) = some 137 by kernel_rfl).symm.trans ht0)
  exact keys_of_laid (e := 29) hg0 hv0 (by kernel_rfl) (by kernel_rfl) (by kernel_rfl) hd0 (by kernel_rfl)

set_option maxRecDepth 100000 in
theorem proofMoved_lifted (os : Os) (started : os.Started) (H : Type) (enc : TypeId × Value → H) :
    ReturnsInHanded {} Tryd.checked os 9 .any (fun w args => (Rows.proofMovedSpec.pre enc Tryd.prog Tryd.f9 [] false w args ∧ laidMetH Tryd.prog laid_proofMoved w) ∧ sizedMet enc Tryd.prog Tryd.f9 (OpenSpec.ofChange Rows.proofMovedSpec) false w args)
      (Rows.proofMovedSpec.post enc Tryd.prog Tryd.f9 false true false false) := by
  refine returnsInHanded_of_change_and (C := Tryd.checked) (X := fun w _ => laidMetH Tryd.prog laid_proofMoved w) (fun _ _ _ hh h => h.of_heap hh) Tryd.own_proofMoved started (by kernel_rfl) Tryd.func9
    (ChangeSpec.witness_shaped (enc := enc) (C := Tryd.checked) (os := os) (X := fun w _ => laidMetH Tryd.prog laid_proofMoved w) false (World.doorLaid Tryd.prog 4000 os) #[.agg #[(.int .u8 0), (.int .u8 0), (.int .u8 0), (.int .u8 0), (.int .u8 0), (.int .u8 0), (.int .u8 0), (.int .u8 0), (.int .u8 0), (.int .u8 0), (.int .u8 0), (.int .u8 0), (.int .u8 0), (.int .u8 0), (.int .u8 0), (.int .u8 0), (.int .u8 0), (.int .u8 0), (.int .u8 0), (.int .u8 0), (.int .u8 0), (.int .u8 0), (.int .u8 0), (.int .u8 0), (.int .u8 0), (.int .u8 0), (.int .u8 0), (.int .u8 0), (.int .u8 0), (.int .u8 0), (.int .u8 0), (.int .u8 0)], .int .i64 0, .agg #[(.int .u8 0), (.int .u8 0), (.int .u8 0), (.int .u8 0), (.int .u8 0), (.int .u8 0), (.int .u8 0), (.int .u8 0), (.int .u8 0), (.int .u8 0), (.int .u8 0), (.int .u8 0), (.int .u8 0), (.int .u8 0), (.int .u8 0), (.int .u8 0), (.int .u8 0), (.int .u8 0), (.int .u8 0), (.int .u8 0), (.int .u8 0), (.int .u8 0), (.int .u8 0), (.int .u8 0), (.int .u8 0), (.int .u8 0), (.int .u8 0), (.int .u8 0), (.int .u8 0), (.int .u8 0), (.int .u8 0), (.int .u8 0), (.int .u8 0), (.int .u8 0), (.int .u8 0), (.int .u8 0), (.int .u8 0), (.int .u8 0), (.int .u8 0), (.int .u8 0), (.int .u8 0), (.int .u8 0), (.int .u8 0), (.int .u8 0), (.int .u8 0), (.int .u8 0), (.int .u8 0), (.int .u8 0), (.int .u8 0), (.int .u8 0), (.int .u8 0), (.int .u8 0), (.int .u8 0), (.int .u8 0), (.int .u8 0), (.int .u8 0), (.int .u8 0), (.int .u8 0), (.int .u8 0), (.int .u8 0), (.int .u8 0), (.int .u8 0), (.int .u8 0), (.int .u8 0), (.int .u8 0), (.int .u8 0), (.int .u8 0), (.int .u8 0), (.int .u8 0), (.int .u8 0), (.int .u8 0), (.int .u8 0), (.int .u8 0), (.int .u8 0), (.int .u8 0), (.int .u8 0), (.int .u8 0), (.int .u8 0), (.int .u8 0), (.int .u8 0), (.int .u8 0), (.int .u8 0), (.int .u8 0), (.int .u8 0), (.int .u8 0), (.int .u8 0), (.int .u8 0), (.int .u8 0), (.int .u8 0), (.int .u8 0), (.int .u8 0), (.int .u8 0), (.int .u8 0), (.int .u8 0), (.int .u8 0), (.int .u8 0), (.int .u8 0), (.int .u8 0), (.int .u8 0), (.int .u8 0), (.int .u8 0), (.int .u8 0), (.int .u8 0), (.int .u8 0), (.int .u8 0), (.int .u8 0), (.int .u8 0), (.int .u8 0), (.int .u8 0), (.int .u8 0), (.int .u8 0), (.int .u8 0), (.int .u8 0), (.int .u8 0), (.int .u8 0), (.int .u8 0), (.int .u8 0), (.int .u8 0), (.int .u8 0), (.int .u8 0), (.int .u8 0), (.int .u8 0), (.int .u8 0), (.int .u8 0), (.int .u8 0), (.int .u8 0), (.int .u8 0), (.int .u8 0)], .int .i64 0, .int .i64 0, .int .u8 0] 8 rfl (World.shaped_of_RefB (by kernel_rfl) (by kernel_rfl)) (by kernel_rfl) (by kernel_rfl) (by kernel_rfl) (door_proofMoved os _)) ?_
  intro W base args ds gs before hval0 hW _ _ hL _
  have hval : ∀ (j : Nat) t v, Tryd.f9.params[j]? = some t → args[j]? = some v → Value.okWide Tryd.prog W .any base t v := hval0
  have hW' := hW
  obtain ⟨p, q, hA0, hV, rfl, hfz, hnd⟩ := hW
  have hA : DataW.TrodAll enc Tryd.prog W 0 (fun _ => true) true Tryd.f9.params.toList args.toList ds p := hA0
  rw [Tryd.params9] at hA hval
  obtain ⟨v0, v1, v2, v3, v4, v5, d0, d1, d2, d3, d4, d5, p0, p1, p2, p3, p4, p5, rfl, rfl, rfl, h0, h1, h2, h3, h4, h5⟩ := trodAll_six hA
  obtain ⟨rfl, rfl⟩ := trodVars_none hV
  have hK := keys_proofMoved hL
  obtain ⟨q0, rfl, hq0⟩ := okWide_array Tryd.underlying50 (hval 0 50 v0 rfl rfl)
  obtain ⟨fu0, hf0⟩ := id h0; obtain ⟨y0, hy0, e0⟩ := hash_of (e := 5) ⟨(by kernel_rfl), (by kernel_rfl), (by kernel_rfl), (by kernel_rfl)⟩ hf0
  have hc0 : q0 = hv y0 := agg_eq e0
  obtain ⟨n1, rfl⟩ := okWide_int Tryd.underlying3 (hval 1 3 v1 rfl rfl)
  have hi1 := i64_of_trod (by kernel_rfl) h1
  obtain ⟨q2, rfl, hq2⟩ := okWide_array Tryd.underlying52 (hval 2 52 v2 rfl rfl)
  obtain ⟨fu2, hf2⟩ := id h2; obtain ⟨y2, hy2, e2⟩ := path_of (th := 50) (e := 5) ⟨(by kernel_rfl), ⟨(by kernel_rfl), (by kernel_rfl), (by kernel_rfl), (by kernel_rfl)⟩, (by kernel_rfl)⟩ hf2
  have hc2 : q2 = y2.cells := agg_eq e2
  obtain ⟨n3, rfl⟩ := okWide_int Tryd.underlying3 (hval 3 3 v3 rfl rfl)
  have hi3 := i64_of_trod (by kernel_rfl) h3
  obtain ⟨n4, rfl⟩ := okWide_int Tryd.underlying3 (hval 4 3 v4 rfl rfl)
  have hi4 := i64_of_trod (by kernel_rfl) h4
  obtain ⟨n5', rfl⟩ := okWide_int Tryd.underlying5 (hval 5 5 v5 rfl rfl)
  obtain ⟨n5, rfl, hn5⟩ : ∃ n : Nat, n5' = (n : Int) ∧ n < 256 := nat_of_trod_u8 (by kernel_rfl) h5
  clear hA0 hval0 hval hA
  simp only [List.append_nil] at hW'
  have hlt : ∀ x ∈ p0 ++ p1 ++ p2 ++ p3 ++ p4 ++ p5, x.block < W.heap.size := fun x hx => by simpa using hW'.lt x hx
  have hro : RoA W [(.rd (some ⟨1, 0, none⟩) (hw KL).toList)] := (.cons hK .nil)
  have hcall := Does.row (proofMoved_j y0 n1 y2 n3 n4 n5 hy0 hi1 hy2 hi3 hi4 hn5) hro.out
  rw [← hc0, ← hc2] at hcall
  refine hcall.mono fun e W' ⟨he, hF⟩ => ?_
  subst he
  exact ⟨_, rfl, post_of_fr (pa := p0 ++ (p1 ++ (p2 ++ (p3 ++ (p4 ++ (p5)))))) (pv := []) hW' (fun _ _ _ => trodAll_mk1 (shut_bool Tryd.underlying4 true)) (fun sp hsp => trodAll_mk6 (WideElems.Trod_stays Tryd.laidOut_proofMoved (by kernel_rfl) (of_decide_eq_true (by kernel_rfl)) h0 (fun x hx => hF.below.same (hlt x (by simp [hx]))) (fun x hx => hsp x (by simp [hx]))) (WideElems.Trod_stays Tryd.laidOut_proofMoved (by kernel_rfl) (of_decide_eq_true (by kernel_rfl)) h1 (fun x hx => hF.below.same (hlt x (by simp [hx]))) (fun x hx => hsp x (by simp [hx]))) (WideElems.Trod_stays Tryd.laidOut_proofMoved (by kernel_rfl) (of_decide_eq_true (by kernel_rfl)) h2 (fun x hx => hF.below.same (hlt x (by simp [hx]))) (fun x hx => hsp x (by simp [hx]))) (WideElems.Trod_stays Tryd.laidOut_proofMoved (by kernel_rfl) (of_decide_eq_true (by kernel_rfl)) h3 (fun x hx => hF.below.same (hlt x (by simp [hx]))) (fun x hx => hsp x (by simp [hx]))) (WideElems.Trod_stays Tryd.laidOut_proofMoved (by kernel_rfl) (of_decide_eq_true (by kernel_rfl)) h4 (fun x hx => hF.below.same (hlt x (by simp [hx]))) (fun x hx => hsp x (by simp [hx]))) (WideElems.Trod_stays Tryd.laidOut_proofMoved (by kernel_rfl) (of_decide_eq_true (by kernel_rfl)) h5 (fun x hx => hF.below.same (hlt x (by simp [hx]))) (fun x hx => hsp x (by simp [hx])))) (fun _ _ => rfl) (by simp) hF (ok_one (by kernel_rfl) rfl (okWide_bool_mk Tryd.underlying4 true))⟩
theorem proofMoved_j0 : (Rows.proofMovedRow.wf (OpenSpec.ofChange Rows.proofMovedSpec)) = true ∧ (laidOutB Tryd.pinned.checked.prog) = true ∧ (mapsRowed Tryd.pinned.checked.prog) = true ∧ (Tryd.f9.params.all (Tryd.pinned.checked.prog.readableRec ·)) = true ∧ (namedTie Tryd.pinned.checked.prog Rows.proofMovedRow.named Rows.proofMovedSpec.vars) = true ∧ (Rows.proofMovedRow.stops == []) = true ∧ (Tryd.pinned.checked.prog.stops == []) = true ∧ (Rows.proofMovedRow.knobs == []) = true ∧ (Tryd.pinned.checked.prog.stopKnobs == []) = true := ⟨by kernel_rfl, by kernel_rfl, by kernel_rfl, by kernel_rfl, by kernel_rfl, by kernel_rfl, by kernel_rfl, by kernel_rfl, by kernel_rfl⟩
theorem proofMoved_j1 : (Rows.proofMovedRow.inPlace == Tryd.pinned.checked.prog.inPlace 9) = true ∧ (Rows.proofMovedRow.unfollowed == Tryd.pinned.checked.prog.unfollowed 9) = true := ⟨by kernel_rfl, by kernel_rfl⟩
theorem proofMoved_j2 : (Rows.proofMovedRow.recurses == Tryd.pinned.checked.prog.recurses 9) = true ∧ (Rows.proofMovedRow.named == Tryd.pinned.checked.prog.varsNamed 9) = true := ⟨by kernel_rfl, by kernel_rfl⟩
theorem proofMoved_j3 : (Rows.proofMovedRow.maps == (Tryd.f9.params.toList ++ Rows.proofMovedSpec.plain.varTypes Tryd.pinned.checked.prog).any (Tryd.pinned.checked.prog.mapsRec ·)) = true ∧ (Rows.proofMovedRow.ifaces == (Tryd.f9.params.toList ++ Rows.proofMovedSpec.plain.varTypes Tryd.pinned.checked.prog).any (Tryd.pinned.checked.prog.ifacesRec ·)) = true ∧ (Rows.proofMovedRow.mapsOut == Tryd.pinned.checked.prog.mapsAmong Tryd.f9.resultTypes.toList) = true ∧ (Rows.proofMovedRow.loops == (Tryd.f9.params.toList ++ Rows.proofMovedSpec.plain.varTypes Tryd.pinned.checked.prog).any (Tryd.pinned.checked.prog.loopsFrom ·)) = true ∧ (Rows.proofMovedRow.wideKeys == (Tryd.f9.params.toList ++ Rows.proofMovedSpec.plain.varTypes Tryd.pinned.checked.prog ++ Tryd.f9.resultTypes.toList).any (Tryd.pinned.checked.prog.wideKeysFrom ·)) = true := ⟨by kernel_rfl, by kernel_rfl, by kernel_rfl, by kernel_rfl, by kernel_rfl⟩
theorem proofMoved_j4 : (Rows.proofMovedSpec.vars.all (Tryd.pinned.checked.prog.varReadable ·)) = true ∧ (Tryd.f9.resultTypes.all (fun t => Tryd.pinned.checked.prog.readableRec t && decide (t < Tryd.pinned.checked.prog.types.size))) = true ∧ (Rows.proofMovedRow.ifacesOut == Tryd.f9.resultTypes.toList.any (Tryd.pinned.checked.prog.ifacesRec ·)) = true ∧ (Rows.proofMovedRow.loopsOut == Tryd.f9.resultTypes.toList.any (Tryd.pinned.checked.prog.loopsFrom ·)) = true ∧ (Rows.proofMovedRow.plainKeys == Tryd.pinned.checked.prog.plainKeys) = true ∧ (Rows.proofMovedRow.shortTexts.isNone) = true ∧ (Tryd.pinned.checked.prog.stopsHeard) = true ∧ (Tryd.pinned.checked.prog.mayEnter) = true ∧ (Rows.proofMovedRow.lifted == Tryd.pinned.checked.prog.liftsFinal) = true ∧ (Tryd.pinned.checked.prog.make == some Rows.proofMovedRow.make) = true ∧ (Rows.proofMovedRow.kinds == (if Rows.proofMovedRow.domain.isEmpty then [] else Tryd.f9.params.toList.map fun t => match Tryd.pinned.checked.prog.underlying t with | some (.int k) => some k | _ => none)) = true ∧ (Rows.proofMovedRow.pinned == Rows.proofMovedRow.pinnedBy) = true := ⟨by kernel_rfl, by kernel_rfl, by kernel_rfl, by kernel_rfl, by kernel_rfl, by kernel_rfl, by kernel_rfl, by kernel_rfl, by kernel_rfl, by kernel_rfl, by kernel_rfl, by kernel_rfl⟩
theorem proofMoved_j5 : (Rows.proofMovedRow.veiled == (Tryd.f9.params.toList ++ Rows.proofMovedSpec.plain.varTypes Tryd.pinned.checked.prog ++ Tryd.f9.resultTypes.toList).any (Tryd.pinned.checked.prog.veiledRec ·)) = true ∧ (Rows.proofMovedRow.veiledFits Tryd.pinned.checked.prog Tryd.f9.params.toList (Tryd.f9.params.toList ++ Rows.proofMovedSpec.plain.varTypes Tryd.pinned.checked.prog ++ Tryd.f9.resultTypes.toList)) = true := ⟨by kernel_rfl, by kernel_rfl⟩
set_option maxRecDepth 100000 in
theorem proofMoved_jf : joinedFacts Tryd.pinned.checked.prog 9 Tryd.f9 Rows.proofMovedSpec Rows.proofMovedRow = true := (bandI (bandI (bandI (bandI (bandI (bandI (bandI (bandI (bandI (bandI (bandI (bandI (bandI (bandI (bandI (bandI (bandI (bandI (bandI (bandI (bandI (bandI (bandI (bandI (bandI (bandI (bandI (bandI (bandI (bandI (bandI proofMoved_j0.1 proofMoved_j0.2.1) proofMoved_j0.2.2.1) proofMoved_j0.2.2.2.1) proofMoved_j0.2.2.2.2.1) proofMoved_j0.2.2.2.2.2.1) proofMoved_j0.2.2.2.2.2.2.1) proofMoved_j0.2.2.2.2.2.2.2.1) proofMoved_j0.2.2.2.2.2.2.2.2) proofMoved_j1.1) proofMoved_j1.2) proofMoved_j2.1) proofMoved_j2.2) proofMoved_j3.1) proofMoved_j3.2.1) proofMoved_j3.2.2.1) proofMoved_j3.2.2.2.1) proofMoved_j3.2.2.2.2) proofMoved_j4.1) proofMoved_j4.2.1) proofMoved_j4.2.2.1) proofMoved_j4.2.2.2.1) proofMoved_j4.2.2.2.2.1) proofMoved_j4.2.2.2.2.2.1) proofMoved_j4.2.2.2.2.2.2.1) proofMoved_j4.2.2.2.2.2.2.2.1) proofMoved_j4.2.2.2.2.2.2.2.2.1) proofMoved_j4.2.2.2.2.2.2.2.2.2.1) proofMoved_j4.2.2.2.2.2.2.2.2.2.2.1) proofMoved_j4.2.2.2.2.2.2.2.2.2.2.2) proofMoved_j5.1) proofMoved_j5.2)
theorem proofMoved_fn : Tryd.pinned.checked.prog.funcNamed Rows.proofMovedRow.func = some 9 := by kernel_rfl

theorem proofMoved_said : Rows.ProofMovedSaid :=
  OpenClaim.holds_of_wide 9 Tryd.f9 rfl rfl rfl rfl rfl rfl rfl ⟨rfl, rfl, rfl, rfl, rfl⟩ rfl rfl rfl rfl rfl proofMoved_fn Tryd.func9 proofMoved_jf
    (of_decide_eq_true (by kernel_rfl)) (by unfold Func.isWrapper; first | (rw [if_pos (by decide +kernel)]; kernel_rfl) | (rw [if_neg (by decide +kernel)]; exact ⟨rfl, rfl⟩))
    (fun os started H enc _ => proofMoved_lifted os started H enc)
theorem proofMoved_w : Rows.proofMovedRow.wfByText (OpenSpec.ofChange Rows.proofMovedSpec) = true := by kernel_rfl
theorem proofMoved_m : Tryd.pinned.checked.prog.mainIs = some (true, "4e9d58d4572607adca996765bd59d579cc081f5c4a473c82a35263225debb448".toList) := by kernel_rfl
theorem proofMoved_lk : false = Tryd.pinned.checked.prog.looks [] := by kernel_rfl
theorem proofMoved_g : false = Rows.proofMovedRow.goesBy Tryd.pinned.checked.prog := by kernel_rfl

theorem proofMoved_holds : Rows.ProofMovedCardSaid :=
  Claim7.holds_tied_plain_at .later [] [.data] true (true, "4e9d58d4572607adca996765bd59d579cc081f5c4a473c82a35263225debb448") false
    proofMoved_said (fun _ h => by cases h) proofMoved_w (fun _ h => by cases h) proofMoved_row_tie rfl ⟨rfl, rfl⟩ proofMoved_m rfl
    (fun f fn hf hfn => by
      obtain rfl : f = 9 := Option.some.inj ((show Tryd.prog.funcNamed "almagest/almagestlaw16.ProofMoved" = some 9 by kernel_rfl).symm.trans hf) |>.symm
      obtain rfl : fn = Tryd.f9 := (Option.some.inj (Tryd.func9.symm.trans hfn)).symm
      refine ⟨proofMoved_lk, fun j t ht => ?_⟩
      rw [Tryd.params9] at ht
      rcases j with _ | j
      · obtain rfl : t = 50 := by simpa using ht.symm
        exact (show Tryd.prog.wantsStandIn 50 = false by kernel_rfl)
      · rcases j with _ | j
        · obtain rfl : t = 3 := by simpa using ht.symm
          exact (show Tryd.prog.wantsStandIn 3 = false by kernel_rfl)
        · rcases j with _ | j
          · obtain rfl : t = 52 := by simpa using ht.symm
            exact (show Tryd.prog.wantsStandIn 52 = false by kernel_rfl)
          · rcases j with _ | j
            · obtain rfl : t = 3 := by simpa using ht.symm
              exact (show Tryd.prog.wantsStandIn 3 = false by kernel_rfl)
            · rcases j with _ | j
              · obtain rfl : t = 3 := by simpa using ht.symm
                exact (show Tryd.prog.wantsStandIn 3 = false by kernel_rfl)
              · rcases j with _ | j
                · obtain rfl : t = 5 := by simpa using ht.symm
                  exact (show Tryd.prog.wantsStandIn 5 = false by kernel_rfl)
                · simp at ht)
    proofMoved_g
end Go.Proofs.YtokdfjelilhekaaDoor
