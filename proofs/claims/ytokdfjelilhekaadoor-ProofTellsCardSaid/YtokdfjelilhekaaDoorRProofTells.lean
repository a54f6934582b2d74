/- The card of ProofTells: whatever the input is, the law returns true and leaves all as it was; the listed variables hold what the program's text lays. -/
import Derived.Test.YtokdfjelilhekaaDoorRows
import Derived.Test.YtokdfjelilhekaaDoorCards
import Derived.Test.YtokdfjelilhekaaDoorTie
import Derived.Test.YtokdfjelilhekaaDoorL16a
import Derived.Test.YtokdfjelilhekaaDoorLib9
import Derived.Test.YtokdfjelilhekaaDoorLib8
import Derived.ProofKit
import Derived.LaidMore
import Derived.OpenShut
import Derived.Stop.Joined
import Derived.SevenTiedAt
namespace Go.Proofs.YtokdfjelilhekaaDoor
open Go Go.ChangeShapes Go.WideShapes Go.ChangeAt Go.RowKit Go.Alm

theorem Tryd.own_proofTells : ownKnob Tryd.prog.godebug = none := by kernel_rfl
theorem Tryd.laidOut_proofTells : laidOutB Tryd.prog = true := by kernel_rfl
def laid_proofTells {H : Type} : List (String × DataW H) := [("almagest/almagestref02.k", Rows.laid_almagest_almagestref02_k), ("almagest/sha.keys", Rows.laid_almagest_sha_keys)]
theorem door_proofTells (os : Os) (args : Array Value) : laidMetH Tryd.prog laid_proofTells ((World.doorLaid Tryd.prog 4000 os).forCall (fun _ _ => 0) ⟨#[], args, []⟩).memory :=
  laidMetH_of_parts3 (fuel := 8) (laidMet_of_run' 8 (by kernel_rfl) (by kernel_rfl)) (by kernel_rfl) (by kernel_rfl)
theorem keys_proofTells {W : World} (h : laidMetH Tryd.prog laid_proofTells W) : Rd W (some ⟨0, 0, none⟩) (hw KL).toList ∧ Rd W (some ⟨1, 0, none⟩) (hw KL).toList := by
  rw [MakeChecks.laidMetH_plain _ _ _ (by kernel_rfl)] at h
  obtain ⟨ps, ⟨g0, t0, cs0, f0, p0, q0, hg0, ht0, hv0, hd0, ⟨g1, t1, cs1, f1, p1, q1, hg1, ht1, hv1, hd1, _, _⟩, _⟩, _, _⟩ := h
  obtain rfl := Option.some.inj ((show Tryd.prog.globalNamed "almagest/almagestref02.k" = some 0 by kernel_rfl).symm.trans hg0)
  obtain rfl := Option.some.inj ((show (Tryd.prog.globals[0]?).map (·.type) = some 137 by kernel_rfl).symm.trans ht0)
  obtain rfl := Option.some.inj ((show Tryd.prog.globalNamed "almagest/sha.keys" = some 1 by kernel_rfl).symm.trans hg1)
  obtain rfl := Option.some.inj ((show (Tryd.prog.globals[1]?).map (·.type) = some 137 by kernel_rfl).symm.trans ht1)
  exact ⟨keys_of_laid (e := 29) hg0 hv0 (by kernel_rfl) (by kernel_rfl) (by kernel_rfl) hd0 (by kernel_rfl), keys_of_laid (e := 29) hg1 hv1 (by kernel_rfl) (by kernel_rfl) (by kernel_rfl) hd1 (by kernel_rfl)⟩

set_option maxRecDepth 100000 in
theorem proofTells_lifted (os : Os) (started : os.Started) (H : Type) (enc : TypeId × Value → H) :
    ReturnsInHanded {} Tryd.checked os 7 .any (fun w args => (Rows.proofTellsSpec.pre enc Tryd.prog Tryd.f7 [] false w args ∧ laidMetH Tryd.prog laid_proofTells w) ∧ sizedMet enc Tryd.prog Tryd.f7 (OpenSpec.ofChange Rows.proofTellsSpec) false w args)
      (Rows.proofTellsSpec.post enc Tryd.prog Tryd.f7 false true false false) := by
  refine returnsInHanded_of_change_and (C := Tryd.checked) (X := fun w _ => laidMetH Tryd.prog laid_proofTells w) (fun _ _ _ hh h => h.of_heap hh) Tryd.own_proofTells started (by kernel_rfl) Tryd.func7
    (ChangeSpec.witness_shaped (enc := enc) (C := Tryd.checked) (os := os) (X := fun w _ => laidMetH Tryd.prog laid_proofTells w) false (World.doorLaid Tryd.prog 4000 os) #[.agg #[(.int .u8 0), (.int .u8 0), (.int .u8 0), (.int .u8 0), (.int .u8 0), (.int .u8 0), (.int .u8 0), (.int .u8 0), (.int .u8 0), (.int .u8 0), (.int .u8 0), (.int .u8 0), (.int .u8 0), (.int .u8 0), (.int .u8 0), (.int .u8 0), (.int .u8 0), (.int .u8 0), (.int .u8 0), (.int .u8 0), (.int .u8 0), (.int .u8 0), (.int .u8 0), (.int .u8 0), (.int .u8 0), (.int .u8 0), (.int .u8 0), (.int .u8 0), (.int .u8 0), (.int .u8 0), (.int .u8 0), (.int .u8 0)], .agg #[(.int .u8 0), (.int .u8 0), (.int .u8 0), (.int .u8 0), (.int .u8 0), (.int .u8 0), (.int .u8 0), (.int .u8 0), (.int .u8 0), (.int .u8 0), (.int .u8 0), (.int .u8 0), (.int .u8 0), (.int .u8 0), (.int .u8 0), (.int .u8 0), (.int .u8 0), (.int .u8 0), (.int .u8 0), (.int .u8 0), (.int .u8 0), (.int .u8 0), (.int .u8 0), (.int .u8 0), (.int .u8 0), (.int .u8 0), (.int .u8 0), (.int .u8 0), (.int .u8 0), (.int .u8 0), (.int .u8 0), (.int .u8 0)], .int .i64 0, .agg #[(.string (⟨#[]⟩ : ByteArray)), (.int .u64 0), (.int .u32 0)], .agg #[(.int .u8 0), (.int .u8 0), (.int .u8 0), (.int .u8 0), (.int .u8 0), (.int .u8 0), (.int .u8 0), (.int .u8 0), (.int .u8 0), (.int .u8 0), (.int .u8 0), (.int .u8 0), (.int .u8 0), (.int .u8 0), (.int .u8 0), (.int .u8 0), (.int .u8 0), (.int .u8 0), (.int .u8 0), (.int .u8 0), (.int .u8 0), (.int .u8 0), (.int .u8 0), (.int .u8 0), (.int .u8 0), (.int .u8 0), (.int .u8 0), (.int .u8 0), (.int .u8 0), (.int .u8 0), (.int .u8 0), (.int .u8 0), (.int .u8 0), (.int .u8 0), (.int .u8 0), (.int .u8 0), (.int .u8 0), (.int .u8 0), (.int .u8 0), (.int .u8 0), (.int .u8 0), (.int .u8 0), (.int .u8 0), (.int .u8 0), (.int .u8 0), (.int .u8 0), (.int .u8 0), (.int .u8 0), (.int .u8 0), (.int .u8 0), (.int .u8 0), (.int .u8 0), (.int .u8 0), (.int .u8 0), (.int .u8 0), (.int .u8 0), (.int .u8 0), (.int .u8 0), (.int .u8 0), (.int .u8 0), (.int .u8 0), (.int .u8 0), (.int .u8 0), (.int .u8 0), (.int .u8 0), (.int .u8 0), (.int .u8 0), (.int .u8 0), (.int .u8 0), (.int .u8 0), (.int .u8 0), (.int .u8 0), (.int .u8 0), (.int .u8 0), (.int .u8 0), (.int .u8 0), (.int .u8 0), (.int .u8 0), (.int .u8 0), (.int .u8 0), (.int .u8 0), (.int .u8 0), (.int .u8 0), (.int .u8 0), (.int .u8 0), (.int .u8 0), (.int .u8 0), (.int .u8 0), (.int .u8 0), (.int .u8 0), (.int .u8 0), (.int .u8 0), (.int .u8 0), (.int .u8 0), (.int .u8 0), (.int .u8 0), (.int .u8 0), (.int .u8 0), (.int .u8 0), (.int .u8 0), (.int .u8 0), (.int .u8 0), (.int .u8 0), (.int .u8 0), (.int .u8 0), (.int .u8 0), (.int .u8 0), (.int .u8 0), (.int .u8 0), (.int .u8 0), (.int .u8 0), (.int .u8 0), (.int .u8 0), (.int .u8 0), (.int .u8 0), (.int .u8 0), (.int .u8 0), (.int .u8 0), (.int .u8 0), (.int .u8 0), (.int .u8 0), (.int .u8 0), (.int .u8 0), (.int .u8 0), (.int .u8 0), (.int .u8 0), (.int .u8 0), (.int .u8 0)], .slice none 0 0] 8 rfl (World.shaped_of_RefB (by kernel_rfl) (by kernel_rfl)) (by kernel_rfl) (by kernel_rfl) (by kernel_rfl) (door_proofTells os _)) ?_
  intro W base args ds gs before hval0 hW _ _ hL _
  have hval : ∀ (j : Nat) t v, Tryd.f7.params[j]? = some t → args[j]? = some v → Value.okWide Tryd.prog W .any base t v := hval0
  have hW' := hW
  obtain ⟨p, q, hA0, hV, rfl, hfz, hnd⟩ := hW
  have hA : DataW.TrodAll enc Tryd.prog W 0 (fun _ => true) true Tryd.f7.params.toList args.toList ds p := hA0
  rw [Tryd.params7] at hA hval
  obtain ⟨v0, v1, v2, v3, v4, v5, d0, d1, d2, d3, d4, d5, p0, p1, p2, p3, p4, p5, rfl, rfl, rfl, h0, h1, h2, h3, h4, h5⟩ := trodAll_six hA
  obtain ⟨rfl, rfl⟩ := trodVars_none hV
  have hK := keys_proofTells hL
  obtain ⟨q0, rfl, hq0⟩ := okWide_array Tryd.underlying50 (hval 0 50 v0 rfl rfl)
  obtain ⟨fu0, hf0⟩ := id h0; obtain ⟨y0, hy0, e0⟩ := hash_of (e := 5) ⟨(by kernel_rfl), (by kernel_rfl), (by kernel_rfl), (by kernel_rfl)⟩ hf0
  have hc0 : q0 = hv y0 := agg_eq e0
  obtain ⟨q1, rfl, hq1⟩ := okWide_array Tryd.underlying50 (hval 1 50 v1 rfl rfl)
  obtain ⟨fu1, hf1⟩ := id h1; obtain ⟨y1, hy1, e1⟩ := hash_of (e := 5) ⟨(by kernel_rfl), (by kernel_rfl), (by kernel_rfl), (by kernel_rfl)⟩ hf1
  have hc1 : q1 = hv y1 := agg_eq e1
  obtain ⟨n2, rfl⟩ := okWide_int Tryd.underlying3 (hval 2 3 v2 rfl rfl)
  have hi2 := i64_of_trod (by kernel_rfl) h2
  obtain ⟨q3, rfl, hq3⟩ := okWide_struct Tryd.underlying36 (hval 3 36 v3 rfl rfl)
  obtain ⟨fu3, hf3⟩ := id h3; obtain ⟨y3, hy3, e3⟩ := acct_of (ts := 9) (tu := 28) (tn := 29) ⟨⟨(by kernel_rfl), (by kernel_rfl), (by kernel_rfl), (by kernel_rfl)⟩, (by kernel_rfl), ⟨(by kernel_rfl)⟩, ⟨(by kernel_rfl)⟩⟩ hf3
  have hc3 : q3 = y3.cells := agg_eq e3
  obtain ⟨q4, rfl, hq4⟩ := okWide_array Tryd.underlying52 (hval 4 52 v4 rfl rfl)
  obtain ⟨fu4, hf4⟩ := id h4; obtain ⟨y4, hy4, e4⟩ := path_of (th := 50) (e := 5) ⟨(by kernel_rfl), ⟨(by kernel_rfl), (by kernel_rfl), (by kernel_rfl), (by kernel_rfl)⟩, (by kernel_rfl)⟩ hf4
  have hc4 : q4 = y4.cells := agg_eq e4
  obtain ⟨a5, len5, c5, rfl⟩ := okWide_slice Tryd.underlying64 (hval 5 64 v5 rfl rfl)
  obtain ⟨fu5, hf5⟩ := id h5; obtain ⟨ao5, l5, cap5, e5, hR5, hB5, hlc5, hcm5⟩ := bytes_of_trod (t := 64) (e := 5) (by kernel_rfl) (by kernel_rfl) (by kernel_rfl) hf5
  have e5' : Value.slice a5 len5 c5 = .slice ao5 l5.length cap5 := by simpa [Value.cells] using e5
  rw [e5'] at hW' h5 ⊢
  clear hA0 hval0 hval hA
  simp only [List.append_nil] at hW'
  have hlt : ∀ x ∈ p0 ++ p1 ++ p2 ++ p3 ++ p4 ++ p5, x.block < W.heap.size := fun x hx => by simpa using hW'.lt x hx
  have hro : RoA W [(.rd ao5 (B l5)), (.rd (some ⟨0, 0, none⟩) (hw KL).toList), (.rd (some ⟨1, 0, none⟩) (hw KL).toList)] := (.cons hR5 (.cons hK.1 (.cons hK.2 .nil)))
  have hcall := Does.row (proofTells_j y0 y1 n2 y3 y4 ao5 cap5 l5 hy0 hy1 hi2 hy3 hy4 hB5 hlc5 (by simp only [maxLen] at hcm5; exact hcm5)) hro.out
  rw [← hc0, ← hc1, ← hc3, ← hc4] at hcall
  refine hcall.mono fun e W' ⟨he, hF⟩ => ?_
  subst he
  exact ⟨_, rfl, post_of_fr (pa := p0 ++ (p1 ++ (p2 ++ (p3 ++ (p4 ++ (p5)))))) (pv := []) hW' (fun _ _ _ => trodAll_mk1 (shut_bool Tryd.underlying4 true)) (fun sp hsp => trodAll_mk6 (WideElems.Trod_stays Tryd.laidOut_proofTells (by kernel_rfl) (of_decide_eq_true (by kernel_rfl)) h0 (fun x hx => hF.below.same (hlt x (by simp [hx]))) (fun x hx => hsp x (by simp [hx]))) (WideElems.Trod_stays Tryd.laidOut_proofTells (by kernel_rfl) (of_decide_eq_true (by kernel_rfl)) h1 (fun x hx => hF.below.same (hlt x (by simp [hx]))) (fun x hx => hsp x (by simp [hx]))) (WideElems.Trod_stays Tryd.laidOut_proofTells (by kernel_rfl) (of_decide_eq_true (by kernel_rfl)) h2 (fun x hx => hF.below.same (hlt x (by simp [hx]))) (fun x hx => hsp x (by simp [hx]))) (WideElems.Trod_stays Tryd.laidOut_proofTells (by kernel_rfl) (of_decide_eq_true (by kernel_rfl)) h3 (fun x hx => hF.below.same (hlt x (by simp [hx]))) (fun x hx => hsp x (by simp [hx]))) (WideElems.Trod_stays Tryd.laidOut_proofTells (by kernel_rfl) (of_decide_eq_true (by kernel_rfl)) h4 (fun x hx => hF.below.same (hlt x (by simp [hx]))) (fun x hx => hsp x (by simp [hx]))) (WideElems.Trod_stays Tryd.laidOut_proofTells (by kernel_rfl) (of_decide_eq_true (by kernel_rfl)) h5 (fun x hx => hF.below.same (hlt x (by simp [hx]))) (fun x hx => hsp x (by simp [hx])))) (fun _ _ => rfl) (by simp) hF (ok_one (by kernel_rfl) rfl (okWide_bool_mk Tryd.underlying4 true))⟩
theorem proofTells_j0 : (Rows.proofTellsRow.wf (OpenSpec.ofChange Rows.proofTellsSpec)) = true ∧ (laidOutB Tryd.pinned.checked.prog) = true ∧ (mapsRowed Tryd.pinned.checked.prog) = true ∧ (Tryd.f7.params.all (Tryd.pinned.checked.prog.readableRec ·)) = true ∧ (namedTie Tryd.pinned.checked.prog Rows.proofTellsRow.named Rows.proofTellsSpec.vars) = true ∧ (Rows.proofTellsRow.stops == []) = true ∧ (Tryd.pinned.checked.prog.stops == []) = true ∧ (Rows.proofTellsRow.knobs == []) = true ∧ (Tryd.pinned.checked.prog.stopKnobs == []) = true := ⟨by kernel_rfl, by kernel_rfl, by kernel_rfl, by kernel_rfl, by kernel_rfl, by kernel_rfl, by kernel_rfl, by kernel_rfl, by kernel_rfl⟩
theorem proofTells_j1 : (Rows.proofTellsRow.inPlace == Tryd.pinned.checked.prog.inPlace 7) = true ∧ (Rows.proofTellsRow.unfollowed == Tryd.pinned.checked.prog.unfollowed 7) = true := ⟨by kernel_rfl, by kernel_rfl⟩
theorem proofTells_j2 : (Rows.proofTellsRow.recurses == Tryd.pinned.checked.prog.recurses 7) = true ∧ (Rows.proofTellsRow.named == Tryd.pinned.checked.prog.varsNamed 7) = true := ⟨by kernel_rfl, by kernel_rfl⟩
theorem proofTells_j3 : (Rows.proofTellsRow.maps == (Tryd.f7.params.toList ++ Rows.proofTellsSpec.plain.varTypes Tryd.pinned.checked.prog).any (Tryd.pinned.checked.prog.mapsRec ·)) = true ∧ (Rows.proofTellsRow.ifaces == (Tryd.f7.params.toList ++ Rows.proofTellsSpec.plain.varTypes Tryd.pinned.checked.prog).any (Tryd.pinned.checked.prog.ifacesRec ·)) = true ∧ (Rows.proofTellsRow.mapsOut == Tryd.pinned.checked.prog.mapsAmong Tryd.f7.resultTypes.toList) = true ∧ (Rows.proofTellsRow.loops == (Tryd.f7.params.toList ++ Rows.proofTellsSpec.plain.varTypes Tryd.pinned.checked.prog).any (Tryd.pinned.checked.prog.loopsFrom ·)) = true ∧ (Rows.proofTellsRow.wideKeys == (Tryd.f7.params.toList ++ Rows.proofTellsSpec.plain.varTypes Tryd.pinned.checked.prog ++ Tryd.f7.resultTypes.toList).any (Tryd.pinned.checked.prog.wideKeysFrom ·)) = true := ⟨by kernel_rfl, by kernel_rfl, by kernel_rfl, by kernel_rfl, by kernel_rfl⟩
theorem proofTells_j4 : (Rows.proofTellsSpec.vars.all (Tryd.pinned.checked.prog.varReadable ·)) = true ∧ (Tryd.f7.resultTypes.all (fun t => Tryd.pinned.checked.prog.readableRec t && decide (t < Tryd.pinned.checked.prog.types.size))) = true ∧ (Rows.proofTellsRow.ifacesOut == Tryd.f7.resultTypes.toList.any (Tryd.pinned.checked.prog.ifacesRec ·)) = true ∧ (Rows.proofTellsRow.loopsOut == Tryd.f7.resultTypes.toList.any (Tryd.pinned.checked.prog.loopsFrom ·)) = true ∧ (Rows.proofTellsRow.plainKeys == Tryd.pinned.checked.prog.plainKeys) = true ∧ (Rows.proofTellsRow.shortTexts.isNone) = true ∧ (Tryd.pinned.checked.prog.stopsHeard) = true ∧ (Tryd.pinned.checked.prog.mayEnter) = true ∧ (Rows.proofTellsRow.lifted == Tryd.pinned.checked.prog.liftsFinal) = true ∧ (Tryd.pinned.checked.prog.make == some Rows.proofTellsRow.make) = true ∧ (Rows.proofTellsRow.kinds == (if Rows.proofTellsRow.domain.isEmpty then [] else Tryd.f7.params.toList.map fun t => match Tryd.pinned.checked.prog.underlying t with | some (.int k) => some k | _ => none)) = true ∧ (Rows.proofTellsRow.pinned == Rows.proofTellsRow.pinnedBy) = true := ⟨by kernel_rfl, by kernel_rfl, by kernel_rfl, by kernel_rfl, by kernel_rfl, by kernel_rfl, by kernel_rfl, by kernel_rfl, by kernel_rfl, by kernel_rfl, by kernel_rfl, by kernel_rfl⟩
theorem proofTells_j5 : (Rows.proofTellsRow.veiled == (Tryd.f7.params.toList ++ Rows.proofTellsSpec.plain.varTypes Tryd.pinned.checked.prog ++ Tryd.f7.resultTypes.toList).any (Tryd.pinned.checked.prog.veiledRec ·)) = true ∧ (Rows.proofTellsRow.veiledFits Tryd.pinned.checked.prog Tryd.f7.params.toList (Tryd.f7.params.toList ++ Rows.proofTellsSpec.plain.varTypes Tryd.pinned.checked.prog ++ Tryd.f7.resultTypes.toList)) = true := ⟨by kernel_rfl, by kernel_rfl⟩
set_option maxRecDepth 100000 in
theorem proofTells_jf : joinedFacts Tryd.pinned.checked.prog 7 Tryd.f7 Rows.proofTellsSpec Rows.proofTellsRow = true := (bandI (bandI (bandI (bandI (bandI (bandI (bandI (bandI (bandI (bandI (bandI (bandI (bandI (bandI (bandI (bandI (bandI (bandI (bandI (bandI (bandI (bandI (bandI (bandI (bandI (bandI (bandI (bandI (bandI (bandI (bandI proofTells_j0.1 proofTells_j0.2.1) proofTells_j0.2.2.1) proofTells_j0.2.2.2.1) proofTells_j0.2.2.2.2.1) proofTells_j0.2.2.2.2.2.1) proofTells_j0.2.2.2.2.2.2.1) proofTells_j0.2.2.2.2.2.2.2.1) proofTells_j0.2.2.2.2.2.2.2.2) proofTells_j1.1) proofTells_j1.2) proofTells_j2.1) proofTells_j2.2) proofTells_j3.1) proofTells_j3.2.1) proofTells_j3.2.2.1) proofTells_j3.2.2.2.1) proofTells_j3.2.2.2.2) proofTells_j4.1) proofTells_j4.2.1) proofTells_j4.2.2.1) proofTells_j4.2.2.2.1) proofTells_j4.2.2.2.2.1) proofTells_j4.2.2.2.2.2.1) proofTells_j4.2.2.2.2.2.2.1) proofTells_j4.2.2.2.2.2.2.2.1) proofTells_j4.2.2.2.2.2.2.2.2.1) proofTells_j4.2.2.2.2.2.2.2.2.2.1) proofTells_j4.2.2.2.2.2.2.2.2.2.2.1) proofTells_j4.2.2.2.2.2.2.2.2.2.2.2) proofTells_j5.1) proofTells_j5.2)
theorem proofTells_fn : Tryd.pinned.checked.prog.funcNamed Rows.proofTellsRow.func = some 7 := by kernel_rfl

theorem proofTells_said : Rows.ProofTellsSaid :=
  OpenClaim.holds_of_wide 7 Tryd.f7 rfl rfl rfl rfl rfl rfl rfl ⟨rfl, rfl, rfl, rfl, rfl⟩ rfl rfl rfl rfl rfl proofTells_fn Tryd.func7 proofTells_jf
    (of_decide_eq_true (by kernel_rfl)) (by unfold Func.isWrapper; first | (rw [if_pos (by decide +kernel)]; kernel_rfl) | (rw [if_neg (by decide +kernel)]; exact ⟨rfl, rfl⟩))
    (fun os started H enc _ => proofTells_lifted os started H enc)
theorem proofTells_w : Rows.proofTellsRow.wfByText (OpenSpec.ofChange Rows.proofTellsSpec) = true := by kernel_rfl
theorem proofTells_m : Tryd.pinned.checked.prog.mainIs = some (true, "4e9d58d4572607adca996765bd59d579cc081f5c4a473c82a35263225debb448".toList) := by kernel_rfl
theorem proofTells_lk : false = Tryd.pinned.checked.prog.looks [] := by kernel_rfl
theorem proofTells_g : false = Rows.proofTellsRow.goesBy Tryd.pinned.checked.prog := by kernel_rfl

theorem proofTells_holds : Rows.ProofTellsCardSaid :=
  Claim7.holds_tied_plain_at .later [] [.data, .data] true (true, "4e9d58d4572607adca996765bd59d579cc081f5c4a473c82a35263225debb448") false
    proofTells_said (fun _ h => by cases h) proofTells_w (fun _ h => by cases h) proofTells_row_tie rfl ⟨rfl, rfl⟩ proofTells_m rfl
    (fun f fn hf hfn => by
      obtain rfl : f = 7 := Option.some.inj ((show Tryd.prog.funcNamed "almagest/almagestlaw16.ProofTells" = some 7 by kernel_rfl).symm.trans hf) |>.symm
      obtain rfl : fn = Tryd.f7 := (Option.some.inj (Tryd.func7.symm.trans hfn)).symm
      refine ⟨proofTells_lk, fun j t ht => ?_⟩
      rw [Tryd.params7] at ht
      rcases j with _ | j
      · obtain rfl : t = 50 := by simpa using ht.symm
        exact (show Tryd.prog.wantsStandIn 50 = false by kernel_rfl)
      · rcases j with _ | j
        · obtain rfl : t = 50 := by simpa using ht.symm
          exact (show Tryd.prog.wantsStandIn 50 = false by kernel_rfl)
        · rcases j with _ | j
          · obtain rfl : t = 3 := by simpa using ht.symm
            exact (show Tryd.prog.wantsStandIn 3 = false by kernel_rfl)
          · rcases j with _ | j
            · obtain rfl : t = 36 := by simpa using ht.symm
              exact (show Tryd.prog.wantsStandIn 36 = false by kernel_rfl)
            · rcases j with _ | j
              · obtain rfl : t = 52 := by simpa using ht.symm
                exact (show Tryd.prog.wantsStandIn 52 = false by kernel_rfl)
              · rcases j with _ | j
                · obtain rfl : t = 64 := by simpa using ht.symm
                  exact (show Tryd.prog.wantsStandIn 64 = false by kernel_rfl)
                · simp at ht)
    proofTells_g
end Go.Proofs.YtokdfjelilhekaaDoor
