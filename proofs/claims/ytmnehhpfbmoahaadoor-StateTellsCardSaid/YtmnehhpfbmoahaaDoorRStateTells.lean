/- The card of StateTells: whatever the input is, the law returns true and leaves all as it was; the listed variables hold what the program's text lays. -/
import Derived.Test.YtmnehhpfbmoahaaDoorRows
import Derived.Test.YtmnehhpfbmoahaaDoorCards
import Derived.Test.YtmnehhpfbmoahaaDoorTie
import Derived.Test.YtmnehhpfbmoahaaDoorL09
import Derived.Test.YtmnehhpfbmoahaaDoorLib6
import Derived.Test.YtmnehhpfbmoahaaDoorLib5
import Derived.ProofKit
import Derived.LaidMore
import Derived.OpenShut
import Derived.Stop.Joined
import Derived.SevenTiedAt
namespace Go.Proofs.YtmnehhpfbmoahaaDoor
open Go Go.ChangeShapes Go.WideShapes Go.ChangeAt Go.RowKit Go.Alm

theorem Tryd.own_stateTells : ownKnob Tryd.prog.godebug = none := by kernel_rfl
theorem Tryd.laidOut_stateTells : laidOutB Tryd.prog = true := by kernel_rfl
def laid_stateTells {H : Type} : List (String × DataW H) := [("almagest/almagestref02.k", Rows.laid_almagest_almagestref02_k), ("almagest/sha.keys", Rows.laid_almagest_sha_keys)]
theorem door_stateTells (os : Os) (args : Array Value) : laidMetH Tryd.prog laid_stateTells ((World.doorLaid Tryd.prog 4000 os).forCall (fun _ _ => 0) ⟨#[], args, []⟩).memory :=
  laidMetH_of_parts3 (fuel := 8) (laidMet_of_run' 8 (by kernel_rfl) (by kernel_rfl)) (by kernel_rfl) (by kernel_rfl)
theorem keys_stateTells {W : World} (h : laidMetH Tryd.prog laid_stateTells W) : Rd W (some ⟨0, 0, none⟩) (hw KL).toList ∧ Rd W (some ⟨1, 0, none⟩) (hw KL).toList := by
  rw [MakeChecks.laidMetH_plain _ _ _ (by kernel_rfl)] at h
  obtain ⟨ps, ⟨g0, t0, cs0, f0, p0, q0, hg0, ht0, hv0, hd0, ⟨g1, t1, cs1, f1, p1, q1, hg1, ht1, hv1, hd1, _, _⟩, _⟩, _, _⟩ := h
  obtain rfl := Option.some.inj ((show Tryd.prog.globalNamed "almagest/almagestref02.k" = some 0 by kernel_rfl).symm.trans hg0)
  obtain rfl := Option.some.inj ((show (Tryd.prog.globals[0]?).map (·.type) = some 271 by kernel_rfl).symm.trans ht0)
  obtain rfl := Option.some.inj ((show Tryd.prog.globalNamed "almagest/sha.keys" = some 1 by kernel_rfl).symm.trans hg1)
  obtain rfl := Option.some.inj ((show (Tryd.prog.globals[1]?).map (·.type) = some 271 by kernel_rfl).symm.trans ht1)
  exact ⟨keys_of_laid (e := 24) hg0 hv0 (by kernel_rfl) (by kernel_rfl) (by kernel_rfl) hd0 (by kernel_rfl), keys_of_laid (e := 24) hg1 hv1 (by kernel_rfl) (by kernel_rfl) (by kernel_rfl) hd1 (by kernel_rfl)⟩

set_option maxRecDepth 100000 in
theorem stateTells_lifted (os : Os) (started : os.Started) (H : Type) (enc : TypeId × Value → H) :
    ReturnsInHanded {} Tryd.checked os 14 .any (fun w args => (Rows.stateTellsSpec.pre enc Tryd.prog Tryd.f14 [] false w args ∧ laidMetH Tryd.prog laid_stateTells w) ∧ sizedMet enc Tryd.prog Tryd.f14 (OpenSpec.ofChange Rows.stateTellsSpec) false w args)
      (Rows.stateTellsSpec.post enc Tryd.prog Tryd.f14 false true false false) := by
  refine returnsInHanded_of_change_and (C := Tryd.checked) (X := fun w _ => laidMetH Tryd.prog laid_stateTells w) (fun _ _ _ hh h => h.of_heap hh) Tryd.own_stateTells started (by kernel_rfl) Tryd.func14
    (ChangeSpec.witness_shaped (enc := enc) (C := Tryd.checked) (os := os) (X := fun w _ => laidMetH Tryd.prog laid_stateTells w) false (World.doorLaid Tryd.prog 4000 os) #[.agg #[(.int .u8 0), (.int .u8 0), (.int .u8 0), (.int .u8 0), (.int .u8 0), (.int .u8 0), (.int .u8 0), (.int .u8 0), (.int .u8 0), (.int .u8 0), (.int .u8 0), (.int .u8 0), (.int .u8 0), (.int .u8 0), (.int .u8 0), (.int .u8 0), (.int .u8 0), (.int .u8 0), (.int .u8 0), (.int .u8 0), (.int .u8 0), (.int .u8 0), (.int .u8 0), (.int .u8 0), (.int .u8 0), (.int .u8 0), (.int .u8 0), (.int .u8 0), (.int .u8 0), (.int .u8 0), (.int .u8 0), (.int .u8 0), (.int .u8 0), (.int .u8 0), (.int .u8 0), (.int .u8 0), (.int .u8 0), (.int .u8 0), (.int .u8 0), (.int .u8 0), (.int .u8 0), (.int .u8 0), (.int .u8 0), (.int .u8 0), (.int .u8 0), (.int .u8 0), (.int .u8 0), (.int .u8 0), (.int .u8 0), (.int .u8 0), (.int .u8 0), (.int .u8 0), (.int .u8 0), (.int .u8 0), (.int .u8 0), (.int .u8 0), (.int .u8 0), (.int .u8 0), (.int .u8 0), (.int .u8 0), (.int .u8 0), (.int .u8 0), (.int .u8 0), (.int .u8 0), (.int .u8 0), (.int .u8 0), (.int .u8 0), (.int .u8 0), (.int .u8 0), (.int .u8 0), (.int .u8 0), (.int .u8 0), (.int .u8 0), (.int .u8 0), (.int .u8 0), (.int .u8 0), (.int .u8 0), (.int .u8 0), (.int .u8 0), (.int .u8 0), (.int .u8 0), (.int .u8 0), (.int .u8 0), (.int .u8 0), (.int .u8 0), (.int .u8 0), (.int .u8 0), (.int .u8 0), (.int .u8 0), (.int .u8 0), (.int .u8 0), (.int .u8 0), (.int .u8 0), (.int .u8 0), (.int .u8 0), (.int .u8 0), (.int .u32 0), (.int .u32 0), (.int .u32 0), (.int .u32 0), (.int .u32 0), (.int .u32 0), (.int .u32 0), (.int .u32 0), (.int .u32 0), (.int .u8 0), (.int .u8 0), (.int .u8 0), (.int .u8 0), (.int .u8 0), (.int .u8 0), (.int .u8 0), (.int .u8 0), (.int .u8 0), (.int .u8 0), (.int .u8 0), (.int .u8 0), (.int .u8 0), (.int .u8 0), (.int .u8 0), (.int .u8 0), (.int .u8 0), (.int .u8 0), (.int .u8 0), (.int .u8 0), (.int .u8 0), (.int .u8 0), (.int .u8 0), (.int .u8 0), (.int .u8 0), (.int .u8 0), (.int .u8 0), (.int .u8 0), (.int .u8 0), (.int .u8 0), (.int .u8 0), (.int .u8 0), (.int .u8 0), (.int .u8 0), (.int .u8 0), (.int .u8 0), (.int .u8 0), (.int .u8 0), (.int .u8 0), (.int .u8 0), (.int .u8 0), (.int .u8 0), (.int .u8 0), (.int .u8 0), (.int .u8 0), (.int .u8 0), (.int .u8 0), (.int .u8 0), (.int .u8 0), (.int .u8 0), (.int .u8 0), (.int .u8 0), (.int .u8 0), (.int .u8 0), (.int .u8 0), (.int .u8 0), (.int .u8 0), (.int .u8 0), (.int .u8 0), (.int .u8 0), (.int .u8 0), (.int .u8 0), (.int .u8 0), (.int .u8 0), (.int .u8 0), (.int .u8 0), (.int .u8 0), (.int .u8 0), (.int .u8 0), (.int .u8 0), (.int .u8 0), (.int .u8 0), (.int .u8 0), (.int .u8 0), (.int .u8 0), (.int .u8 0), (.int .u8 0), (.int .u8 0), (.int .u8 0), (.int .u8 0), (.int .u8 0), (.int .u8 0), (.int .u8 0), (.int .u8 0), (.int .u8 0), (.int .u8 0), (.int .u8 0), (.int .u8 0), (.int .u8 0), (.int .u8 0), (.int .u8 0), (.int .u8 0), (.int .u8 0), (.int .u8 0), (.int .u8 0), (.int .u8 0), (.int .u8 0), (.int .u8 0), (.int .u8 0), (.int .u8 0), (.int .u8 0), (.int .u8 0), (.int .u8 0), (.int .u8 0), (.int .u8 0), (.int .u8 0), (.int .u8 0), (.int .u8 0), (.int .u8 0), (.int .u8 0), (.int .u8 0), (.int .u8 0), (.int .u8 0), (.int .u8 0), (.int .u8 0), (.int .u8 0), (.int .u8 0), (.int .u8 0), (.int .u8 0), (.int .u8 0), (.int .u8 0), (.int .u8 0), (.int .u8 0), (.int .u8 0), (.int .u8 0), (.int .u8 0), (.int .u8 0), (.int .u8 0), (.int .u32 0), (.int .u8 0), (.int .u8 0), (.int .u8 0), (.int .u8 0), (.int .u8 0), (.int .u8 0), (.int .u8 0), (.int .u8 0), (.int .u8 0), (.int .u8 0), (.int .u8 0), (.int .u8 0), (.int .u8 0), (.int .u8 0), (.int .u8 0), (.int .u8 0), (.int .u8 0), (.int .u8 0), (.int .u8 0), (.int .u8 0), (.int .u8 0), (.int .u8 0), (.int .u8 0), (.int .u8 0), (.int .u8 0), (.int .u8 0), (.int .u8 0), (.int .u8 0), (.int .u8 0), (.int .u8 0), (.int .u8 0), (.int .u8 0), (.int .u8 0), (.int .u8 0), (.int .u8 0), (.int .u8 0), (.int .u8 0), (.int .u8 0), (.int .u8 0), (.int .u8 0), (.int .u8 0), (.int .u8 0), (.int .u8 0), (.int .u8 0), (.int .u8 0), (.int .u8 0), (.int .u8 0), (.int .u8 0), (.int .u8 0), (.int .u8 0), (.int .u8 0), (.int .u8 0), (.int .u8 0), (.int .u8 0), (.int .u8 0), (.int .u8 0), (.int .u8 0), (.int .u8 0), (.int .u8 0), (.int .u8 0), (.int .u8 0), (.int .u8 0), (.int .u8 0), (.int .u8 0), (.int .u8 0), (.int .u8 0), (.int .u8 0), (.int .u8 0), (.int .u8 0), (.int .u8 0), (.int .u8 0), (.int .u8 0), (.int .u8 0), (.int .u8 0), (.int .u8 0), (.int .u8 0), (.int .u8 0), (.int .u8 0), (.int .u8 0), (.int .u8 0), (.int .u8 0), (.int .u8 0), (.int .u8 0), (.int .u8 0), (.int .u8 0), (.int .u8 0), (.int .u8 0), (.int .u8 0), (.int .u8 0), (.int .u8 0), (.int .u8 0), (.int .u8 0), (.int .u8 0), (.int .u8 0), (.int .u8 0), (.int .u8 0), (.int .u8 0), (.int .u8 0), (.int .u8 0), (.int .u8 0), (.int .u8 0), (.int .u8 0), (.int .u8 0), (.int .u8 0), (.int .u8 0), (.int .u8 0), (.int .u8 0), (.int .u8 0), (.int .u8 0), (.int .u8 0), (.int .u8 0), (.int .u8 0), (.int .u8 0), (.int .u8 0), (.int .u8 0), (.int .u8 0), (.int .u8 0), (.int .u8 0), (.int .u8 0), (.int .u8 0), (.int .u8 0), (.int .u8 0), (.int .u8 0), (.int .u8 0), (.int .u8 0), (.int .u8 0), (.int .u8 0), (.int .u8 0), (.int .u32 0)], .agg #[(.int .u8 0), (.int .u8 0), (.int .u8 0), (.int .u8 0), (.int .u8 0), (.int .u8 0), (.int .u8 0), (.int .u8 0), (.int .u8 0), (.int .u8 0), (.int .u8 0), (.int .u8 0), (.int .u8 0), (.int .u8 0), (.int .u8 0), (.int .u8 0), (.int .u8 0), (.int .u8 0), (.int .u8 0), (.int .u8 0), (.int .u8 0), (.int .u8 0), (.int .u8 0), (.int .u8 0), (.int .u8 0), (.int .u8 0), (.int .u8 0), (.int .u8 0), (.int .u8 0), (.int .u8 0), (.int .u8 0), (.int .u8 0)]] 8 rfl (World.shaped_of_RefB (by kernel_rfl) (by kernel_rfl)) (by kernel_rfl) (by kernel_rfl) (by kernel_rfl) (door_stateTells os _)) ?_
  intro W base args ds gs before hval0 hW _ _ hL _
  have hval : ∀ (j : Nat) t v, Tryd.f14.params[j]? = some t → args[j]? = some v → Value.okWide Tryd.prog W .any base t v := hval0
  have hW' := hW
  obtain ⟨p, q, hA0, hV, rfl, hfz, hnd⟩ := hW
  have hA : DataW.TrodAll enc Tryd.prog W 0 (fun _ => true) true Tryd.f14.params.toList args.toList ds p := hA0
  rw [Tryd.params14] at hA hval
  obtain ⟨v0, v1, d0, d1, p0, p1, rfl, rfl, rfl, h0, h1⟩ := trodAll_two hA
  obtain ⟨rfl, rfl⟩ := trodVars_none hV
  have hK := keys_stateTells hL
  obtain ⟨q0, rfl, hq0⟩ := okWide_struct Tryd.underlying101 (hval 0 101 v0 rfl rfl)
  obtain ⟨fu0, hf0⟩ := id h0; obtain ⟨y0, hy0, e0⟩ := state_of (th := 23) (e := 5) (tn := 24) (tw := 99) (tr := 97) (tc := 95) (tp := 28) (td := 26) ⟨⟨(by kernel_rfl), (by kernel_rfl), (by kernel_rfl), (by kernel_rfl)⟩, ⟨(by kernel_rfl), (by kernel_rfl), (by kernel_rfl), (by kernel_rfl)⟩, ⟨(by kernel_rfl)⟩, ⟨⟨(by kernel_rfl), (by kernel_rfl), (by kernel_rfl), (by kernel_rfl)⟩, ⟨⟨(by kernel_rfl), (by kernel_rfl), (by kernel_rfl), (by kernel_rfl)⟩, ⟨(by kernel_rfl), ⟨(by kernel_rfl)⟩, (by kernel_rfl), (by kernel_rfl)⟩⟩⟩, ⟨⟨(by kernel_rfl), (by kernel_rfl), (by kernel_rfl), (by kernel_rfl)⟩, ⟨⟨(by kernel_rfl), (by kernel_rfl), (by kernel_rfl), (by kernel_rfl)⟩, ⟨(by kernel_rfl), (by kernel_rfl), (by kernel_rfl), (by kernel_rfl)⟩, ⟨(by kernel_rfl)⟩⟩⟩⟩ hf0
  have hc0 : q0 = y0.cells := agg_eq e0
  obtain ⟨q1, rfl, hq1⟩ := okWide_array Tryd.underlying23 (hval 1 23 v1 rfl rfl)
  obtain ⟨fu1, hf1⟩ := id h1; obtain ⟨y1, hy1, e1⟩ := hash_of (e := 5) ⟨(by kernel_rfl), (by kernel_rfl), (by kernel_rfl), (by kernel_rfl)⟩ hf1
  have hc1 : q1 = hv y1 := agg_eq e1
  clear hA0 hval0 hval hA
  simp only [List.append_nil] at hW'
  have hlt : ∀ x ∈ p0 ++ p1, x.block < W.heap.size := fun x hx => by simpa using hW'.lt x hx
  have hro : RoA W [(.rd (some ⟨0, 0, none⟩) (hw KL).toList), (.rd (some ⟨1, 0, none⟩) (hw KL).toList)] := (.cons hK.1 (.cons hK.2 .nil))
  have hcall := Does.row (stateTells_j y0 y1 hy0 hy1) hro.out
  rw [← hc0, ← hc1] at hcall
  refine hcall.mono fun e W' ⟨he, hF⟩ => ?_
  subst he
  exact ⟨_, rfl, post_of_fr (pa := p0 ++ (p1)) (pv := []) hW' (fun _ _ _ => trodAll_mk1 (shut_bool Tryd.underlying4 true)) (fun sp hsp => trodAll_mk2 (WideElems.Trod_stays Tryd.laidOut_stateTells (by kernel_rfl) (of_decide_eq_true (by kernel_rfl)) h0 (fun x hx => hF.below.same (hlt x (by simp [hx]))) (fun x hx => hsp x (by simp [hx]))) (WideElems.Trod_stays Tryd.laidOut_stateTells (by kernel_rfl) (of_decide_eq_true (by kernel_rfl)) h1 (fun x hx => hF.below.same (hlt x (by simp [hx]))) (fun x hx => hsp x (by simp [hx])))) (fun _ _ => rfl) (by simp) hF (ok_one (by kernel_rfl) rfl (okWide_bool_mk Tryd.underlying4 true))⟩
theorem stateTells_j0 : (Rows.stateTellsRow.wf (OpenSpec.ofChange Rows.stateTellsSpec)) = true ∧ (laidOutB Tryd.pinned.checked.prog) = true ∧ (mapsRowed Tryd.pinned.checked.prog) = true ∧ (Tryd.f14.params.all (Tryd.pinned.checked.prog.readableRec ·)) = true ∧ (namedTie Tryd.pinned.checked.prog Rows.stateTellsRow.named Rows.stateTellsSpec.vars) = true ∧ (Rows.stateTellsRow.stops == []) = true ∧ (Tryd.pinned.checked.prog.stops == []) = true ∧ (Rows.stateTellsRow.knobs == []) = true ∧ (Tryd.pinned.checked.prog.stopKnobs == []) = true := ⟨by kernel_rfl, by kernel_rfl, by kernel_rfl, by kernel_rfl, by kernel_rfl, by kernel_rfl, by kernel_rfl, by kernel_rfl, by kernel_rfl⟩
theorem stateTells_j1 : (Rows.stateTellsRow.inPlace == Tryd.pinned.checked.prog.inPlace 14) = true ∧ (Rows.stateTellsRow.unfollowed == Tryd.pinned.checked.prog.unfollowed 14) = true := ⟨by kernel_rfl, by kernel_rfl⟩
theorem stateTells_j2 : (Rows.stateTellsRow.recurses == Tryd.pinned.checked.prog.recurses 14) = true ∧ (Rows.stateTellsRow.named == Tryd.pinned.checked.prog.varsNamed 14) = true := ⟨by kernel_rfl, by kernel_rfl⟩
theorem stateTells_j3 : (Rows.stateTellsRow.maps == (Tryd.f14.params.toList ++ Rows.stateTellsSpec.plain.varTypes Tryd.pinned.checked.prog).any (Tryd.pinned.checked.prog.mapsRec ·)) = true ∧ (Rows.stateTellsRow.ifaces == (Tryd.f14.params.toList ++ Rows.stateTellsSpec.plain.varTypes Tryd.pinned.checked.prog).any (Tryd.pinned.checked.prog.ifacesRec ·)) = true ∧ (Rows.stateTellsRow.mapsOut == Tryd.pinned.checked.prog.mapsAmong Tryd.f14.resultTypes.toList) = true ∧ (Rows.stateTellsRow.loops == (Tryd.f14.params.toList ++ Rows.stateTellsSpec.plain.varTypes Tryd.pinned.checked.prog).any (Tryd.pinned.checked.prog.loopsFrom ·)) = true ∧ (Rows.stateTellsRow.wideKeys == (Tryd.f14.params.toList ++ Rows.stateTellsSpec.plain.varTypes Tryd.pinned.checked.prog ++ Tryd.f14.resultTypes.toList).any (Tryd.pinned.checked.prog.wideKeysFrom ·)) = true := ⟨by kernel_rfl, by kernel_rfl, by kernel_rfl, by kernel_rfl, by kernel_rfl⟩
theorem stateTells_j4 : (Rows.stateTellsSpec.vars.all (Tryd.pinned.checked.prog.varReadable ·)) = true ∧ (Tryd.f14.resultTypes.all (fun t => Tryd.pinned.checked.prog.readableRec t && decide (t < Tryd.pinned.checked.prog.types.size))) = true ∧ (Rows.stateTellsRow.ifacesOut == Tryd.f14.resultTypes.toList.any (Tryd.pinned.checked.prog.ifacesRec ·)) = true ∧ (Rows.stateTellsRow.loopsOut == Tryd.f14.resultTypes.toList.any (Tryd.pinned.checked.prog.loopsFrom ·)) = true ∧ (Rows.stateTellsRow.plainKeys == Tryd.pinned.checked.prog.plainKeys) = true ∧ (Rows.stateTellsRow.shortTexts.isNone) = true ∧ (Tryd.pinned.checked.prog.stopsHeard) = true ∧ (Tryd.pinned.checked.prog.mayEnter) = true ∧ (Rows.stateTellsRow.lifted == Tryd.pinned.checked.prog.liftsFinal) = true ∧ (Tryd.pinned.checked.prog.make == some Rows.stateTellsRow.make) = true ∧ (Rows.stateTellsRow.kinds == (if Rows.stateTellsRow.domain.isEmpty then [] else Tryd.f14.params.toList.map fun t => match Tryd.pinned.checked.prog.underlying t with | some (.int k) => some k | _ => none)) = true ∧ (Rows.stateTellsRow.pinned == Rows.stateTellsRow.pinnedBy) = true := ⟨by kernel_rfl, by kernel_rfl, by kernel_rfl, by kernel_rfl, by kernel_rfl, by kernel_rfl, by kernel_rfl, by kernel_rfl, by kernel_rfl, by kernel_rfl, by kernel_rfl, by kernel_rfl⟩
theorem stateTells_j5 : (Rows.stateTellsRow.veiled == (Tryd.f14.params.toList ++ Rows.stateTellsSpec.plain.varTypes Tryd.pinned.checked.prog ++ Tryd.f14.resultTypes.toList).any (Tryd.pinned.checked.prog.veiledRec ·)) = true ∧ (Rows.stateTellsRow.veiledFits Tryd.pinned.checked.prog Tryd.f14.params.toList (Tryd.f14.params.toList ++ Rows.stateTellsSpec.plain.varTypes Tryd.pinned.checked.prog ++ Tryd.f14.resultTypes.toList)) = true := ⟨by kernel_rfl, by kernel_rfl⟩
set_option maxRecDepth 100000 in
theorem stateTells_jf : joinedFacts Tryd.pinned.checked.prog 14 Tryd.f14 Rows.stateTellsSpec Rows.stateTellsRow = true := (bandI (bandI (bandI (bandI (bandI (bandI (bandI (bandI (bandI (bandI (bandI (bandI (bandI (bandI (bandI (bandI (bandI (bandI (bandI (bandI (bandI (bandI (bandI (bandI (bandI (bandI (bandI (bandI (bandI (bandI (bandI stateTells_j0.1 stateTells_j0.2.1) stateTells_j0.2.2.1) stateTells_j0.2.2.2.1) stateTells_j0.2.2.2.2.1) stateTells_j0.2.2.2.2.2.1) stateTells_j0.2.2.2.2.2.2.1) stateTells_j0.2.2.2.2.2.2.2.1) stateTells_j0.2.2.2.2.2.2.2.2) stateTells_j1.1) stateTells_j1.2) stateTells_j2.1) stateTells_j2.2) stateTells_j3.1) stateTells_j3.2.1) stateTells_j3.2.2.1) stateTells_j3.2.2.2.1) stateTells_j3.2.2.2.2) stateTells_j4.1) stateTells_j4.2.1) stateTells_j4.2.2.1) stateTells_j4.2.2.2.1) stateTells_j4.2.2.2.2.1) stateTells_j4.2.2.2.2.2.1) stateTells_j4.2.2.2.2.2.2.1) stateTells_j4.2.2.2.2.2.2.2.1) stateTells_j4.2.2.2.2.2.2.2.2.1) stateTells_j4.2.2.2.2.2.2.2.2.2.1) stateTells_j4.2.2.2.2.2.2.2.2.2.2.1) stateTells_j4.2.2.2.2.2.2.2.2.2.2.2) stateTells_j5.1) stateTells_j5.2)
theorem stateTells_fn : Tryd.pinned.checked.prog.funcNamed Rows.stateTellsRow.func = some 14 := by kernel_rfl

theorem stateTells_said : Rows.StateTellsSaid :=
  OpenClaim.holds_of_wide 14 Tryd.f14 rfl rfl rfl rfl rfl rfl rfl ⟨rfl, rfl, rfl, rfl, rfl⟩ rfl rfl rfl rfl rfl stateTells_fn Tryd.func14 stateTells_jf
    (of_decide_eq_true (by kernel_rfl)) (by unfold Func.isWrapper; first | (rw [if_pos (by decide +kernel)]; kernel_rfl) | (rw [if_neg (by decide +kernel)]; exact ⟨rfl, rfl⟩))
    (fun os started H enc _ => stateTells_lifted os started H enc)
theorem stateTells_w : Rows.stateTellsRow.wfByText (OpenSpec.ofChange Rows.stateTellsSpec) = true := by kernel_rfl
theorem stateTells_m : Tryd.pinned.checked.prog.mainIs = some (true, "b6a4ea6cb61e0d01f3dbd37aed29265e33fd8127019479cf5f040513dfc5b12c".toList) := by kernel_rfl
theorem stateTells_lk : false = Tryd.pinned.checked.prog.looks [] := by kernel_rfl
theorem stateTells_g : false = Rows.stateTellsRow.goesBy Tryd.pinned.checked.prog := by kernel_rfl

theorem stateTells_holds : Rows.StateTellsCardSaid :=
  Claim7.holds_tied_plain_at .later [] [.data, .data] true (true, "b6a4ea6cb61e0d01f3dbd37aed29265e33fd8127019479cf5f040513dfc5b12c") false
    stateTells_said (fun _ h => by cases h) stateTells_w (fun _ h => by cases h) stateTells_row_tie rfl ⟨rfl, rfl⟩ stateTells_m rfl
    (fun f fn hf hfn => by
      obtain rfl : f = 14 := Option.some.inj ((show Tryd.prog.funcNamed "almagest/almagestlaw09.StateTells" = some 14 by kernel_rfl).symm.trans hf) |>.symm
      obtain rfl : fn = Tryd.f14 := (Option.some.inj (Tryd.func14.symm.trans hfn)).symm
      refine ⟨stateTells_lk, fun j t ht => ?_⟩
      rw [Tryd.params14] at ht
      rcases j with _ | j
      · obtain rfl : t = 101 := by simpa using ht.symm
        exact (show Tryd.prog.wantsStandIn 101 = false by kernel_rfl)
      · rcases j with _ | j
        · obtain rfl : t = 23 := by simpa using ht.symm
          exact (show Tryd.prog.wantsStandIn 23 = false by kernel_rfl)
        · simp at ht)
    stateTells_g
end Go.Proofs.YtmnehhpfbmoahaaDoor
