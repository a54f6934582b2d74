/- The card of OrderGreatest: whatever the input is, the law returns true and leaves all as it was; the listed variables hold what the program's text lays. -/
import Derived.Test.YtmnehhpfbmoahaaDoorRows
import Derived.Test.YtmnehhpfbmoahaaDoorCards
import Derived.Test.YtmnehhpfbmoahaaDoorTie
import Derived.Test.YtmnehhpfbmoahaaDoorL12b
import Derived.Test.YtmnehhpfbmoahaaDoorLib6
import Derived.Test.YtmnehhpfbmoahaaDoorLib7
import Derived.Test.YtmnehhpfbmoahaaDoorLib5
import Derived.ProofKit
import Derived.LaidMore
import Derived.OpenShut
import Derived.Stop.Joined
import Derived.SevenTiedAt
namespace Go.Proofs.YtmnehhpfbmoahaaDoor
open Go Go.ChangeShapes Go.WideShapes Go.ChangeAt Go.RowKit Go.Alm

theorem Tryd.own_orderGreatest : ownKnob Tryd.prog.godebug = none := by kernel_rfl
theorem Tryd.laidOut_orderGreatest : laidOutB Tryd.prog = true := by kernel_rfl
def laid_orderGreatest {H : Type} : List (String × DataW H) := [("almagest/sha.keys", Rows.laid_almagest_sha_keys)]
theorem door_orderGreatest (os : Os) (args : Array Value) : laidMetH Tryd.prog laid_orderGreatest ((World.doorLaid Tryd.prog 4000 os).forCall (fun _ _ => 0) ⟨#[], args, []⟩).memory :=
  laidMetH_of_parts3 (fuel := 8) (laidMet_of_run' 8 (by kernel_rfl) (by kernel_rfl)) (by kernel_rfl) (by kernel_rfl)
theorem keys_orderGreatest {W : World} (h : laidMetH Tryd.prog laid_orderGreatest W) : Rd W (some ⟨1, 0, none⟩) (hw KL).toList := by
  rw [MakeChecks.laidMetH_plain _ _ _ (by kernel_rfl)] at h
  obtain ⟨ps, ⟨g0, t0, cs0, f0, p0, q0, hg0, ht0, hv0, hd0, _, _⟩, _, _⟩ := h
  obtain rfl := Option.some.inj ((show Tryd.prog.globalNamed "almagest/sha.keys" = some 1 by kernel_rfl).symm.trans hg0)
  obtain rfl := Option.some.inj ((show (Tryd.prog.globals[1]?).map (·.type) = some 271 by kernel_rfl).symm.trans ht0)
  exact keys_of_laid (e := 24) hg0 hv0 (by kernel_rfl) (by kernel_rfl) (by kernel_rfl) hd0 (by kernel_rfl)

set_option maxRecDepth 100000 in
theorem orderGreatest_lifted (os : Os) (started : os.Started) (H : Type) (enc : TypeId × Value → H) :
    ReturnsInHanded {} Tryd.checked os 13 .any (fun w args => (Rows.orderGreatestSpec.pre enc Tryd.prog Tryd.f13 [] false w args ∧ laidMetH Tryd.prog laid_orderGreatest w) ∧ sizedMet enc Tryd.prog Tryd.f13 (OpenSpec.ofChange Rows.orderGreatestSpec) false w args)
      (Rows.orderGreatestSpec.post enc Tryd.prog Tryd.f13 false true false false) := by
  refine returnsInHanded_of_change_and (C := Tryd.checked) (X := fun w _ => laidMetH Tryd.prog laid_orderGreatest w) (fun _ _ _ hh h => h.of_heap hh) Tryd.own_orderGreatest started (by kernel_rfl) Tryd.func13
    (ChangeSpec.witness_shaped (enc := enc) (C := Tryd.checked) (os := os) (X := fun w _ => laidMetH Tryd.prog laid_orderGreatest w) false (World.doorLaid Tryd.prog 4000 os) #[.slice none 0 0, .int .i64 0] 8 rfl (World.shaped_of_RefB (by kernel_rfl) (by kernel_rfl)) (by kernel_rfl) (by kernel_rfl) (by kernel_rfl) (door_orderGreatest os _)) ?_
  intro W base args ds gs before hval0 hW _ _ hL _
  have hval : ∀ (j : Nat) t v, Tryd.f13.params[j]? = some t → args[j]? = some v → Value.okWide Tryd.prog W .any base t v := hval0
  have hW' := hW
  obtain ⟨p, q, hA0, hV, rfl, hfz, hnd⟩ := hW
  have hA : DataW.TrodAll enc Tryd.prog W 0 (fun _ => true) true Tryd.f13.params.toList args.toList ds p := hA0
  rw [Tryd.params13] at hA hval
  obtain ⟨v0, v1, d0, d1, p0, p1, rfl, rfl, rfl, h0, h1⟩ := trodAll_two hA
  obtain ⟨rfl, rfl⟩ := trodVars_none hV
  have hK := keys_orderGreatest hL
  obtain ⟨a0, len0, c0, rfl⟩ := okWide_slice Tryd.underlying104 (hval 0 104 v0 rfl rfl)
  obtain ⟨fu0, hf0⟩ := id h0; obtain ⟨ao0, ls0, cap0, e0, hR0, hB0, hlc0, hcm0⟩ := recs_of_trod (t := 104) (e := 103) (f := OKey.cells) (Ok := OKey.Ok) (sz := 65) OKey.size (by decide) (by kernel_rfl) (by kernel_rfl) (fun _ _ _ hy => key_of (th := 23) (e := 5) (tn := 24) ⟨⟨(by kernel_rfl), (by kernel_rfl), (by kernel_rfl), (by kernel_rfl)⟩, ⟨(by kernel_rfl), (by kernel_rfl), (by kernel_rfl), (by kernel_rfl)⟩, ⟨(by kernel_rfl)⟩⟩ hy) hf0
  have e0' : Value.slice a0 len0 c0 = .slice ao0 ls0.length cap0 := by simpa [Value.cells] using e0
  rw [e0'] at hW' h0 ⊢
  obtain ⟨n1, rfl⟩ := okWide_int Tryd.underlying3 (hval 1 3 v1 rfl rfl)
  have hi1 := i64_of_trod (by kernel_rfl) h1
  clear hA0 hval0 hval hA
  simp only [List.append_nil] at hW'
  have hlt : ∀ x ∈ p0 ++ p1, x.block < W.heap.size := fun x hx => by simpa using hW'.lt x hx
  have hro : RoA W [(.rd ao0 (RL OKey.cells ls0)), (.rd (some ⟨1, 0, none⟩) (hw KL).toList)] := (.cons hR0 (.cons hK .nil))
  have hcall := Does.row (orderGreatest_j ao0 cap0 ls0 n1 hB0 hlc0 (by simp only [maxLen] at hcm0; exact hcm0) hi1) hro.out
  refine hcall.mono fun e W' ⟨he, hF⟩ => ?_
  subst he
  exact ⟨_, rfl, post_of_fr (pa := p0 ++ (p1)) (pv := []) hW' (fun _ _ _ => trodAll_mk1 (shut_bool Tryd.underlying4 true)) (fun sp hsp => trodAll_mk2 (WideElems.Trod_stays Tryd.laidOut_orderGreatest (by kernel_rfl) (of_decide_eq_true (by kernel_rfl)) h0 (fun x hx => hF.below.same (hlt x (by simp [hx]))) (fun x hx => hsp x (by simp [hx]))) (WideElems.Trod_stays Tryd.laidOut_orderGreatest (by kernel_rfl) (of_decide_eq_true (by kernel_rfl)) h1 (fun x hx => hF.below.same (hlt x (by simp [hx]))) (fun x hx => hsp x (by simp [hx])))) (fun _ _ => rfl) (by simp) hF (ok_one (by kernel_rfl) rfl (okWide_bool_mk Tryd.underlying4 true))⟩
theorem orderGreatest_j0 : (Rows.orderGreatestRow.wf (OpenSpec.ofChange Rows.orderGreatestSpec)) = true ∧ (laidOutB Tryd.pinned.checked.prog) = true ∧ (mapsRowed Tryd.pinned.checked.prog) = true ∧ (Tryd.f13.params.all (Tryd.pinned.checked.prog.readableRec ·)) = true ∧ (namedTie Tryd.pinned.checked.prog Rows.orderGreatestRow.named Rows.orderGreatestSpec.vars) = true ∧ (Rows.orderGreatestRow.stops == []) = true ∧ (Tryd.pinned.checked.prog.stops == []) = true ∧ (Rows.orderGreatestRow.knobs == []) = true ∧ (Tryd.pinned.checked.prog.stopKnobs == []) = true := ⟨by kernel_rfl, by kernel_rfl, by kernel_rfl, by kernel_rfl, by kernel_rfl, by kernel_rfl, by kernel_rfl, by kernel_rfl, by kernel_rfl⟩
theorem orderGreatest_j1 : (Rows.orderGreatestRow.inPlace == Tryd.pinned.checked.prog.inPlace 13) = true ∧ (Rows.orderGreatestRow.unfollowed == Tryd.pinned.checked.prog.unfollowed 13) = true := ⟨by kernel_rfl, by kernel_rfl⟩
theorem orderGreatest_j2 : (Rows.orderGreatestRow.recurses == Tryd.pinned.checked.prog.recurses 13) = true ∧ (Rows.orderGreatestRow.named == Tryd.pinned.checked.prog.varsNamed 13) = true := ⟨by kernel_rfl, by kernel_rfl⟩
theorem orderGreatest_j3 : (Rows.orderGreatestRow.maps == (Tryd.f13.params.toList ++ Rows.orderGreatestSpec.plain.varTypes Tryd.pinned.checked.prog).any (Tryd.pinned.checked.prog.mapsRec ·)) = true ∧ (Rows.orderGreatestRow.ifaces == (Tryd.f13.params.toList ++ Rows.orderGreatestSpec.plain.varTypes Tryd.pinned.checked.prog).any (Tryd.pinned.checked.prog.ifacesRec ·)) = true ∧ (Rows.orderGreatestRow.mapsOut == Tryd.pinned.checked.prog.mapsAmong Tryd.f13.resultTypes.toList) = true ∧ (Rows.orderGreatestRow.loops == (Tryd.f13.params.toList ++ Rows.orderGreatestSpec.plain.varTypes Tryd.pinned.checked.prog).any (Tryd.pinned.checked.prog.loopsFrom ·)) = true ∧ (Rows.orderGreatestRow.wideKeys == (Tryd.f13.params.toList ++ Rows.orderGreatestSpec.plain.varTypes Tryd.pinned.checked.prog ++ Tryd.f13.resultTypes.toList).any (Tryd.pinned.checked.prog.wideKeysFrom ·)) = true := ⟨by kernel_rfl, by kernel_rfl, by kernel_rfl, by kernel_rfl, by kernel_rfl⟩
theorem orderGreatest_j4 : (Rows.orderGreatestSpec.vars.all (Tryd.pinned.checked.prog.varReadable ·)) = true ∧ (Tryd.f13.resultTypes.all (fun t => Tryd.pinned.checked.prog.readableRec t && decide (t < Tryd.pinned.checked.prog.types.size))) = true ∧ (Rows.orderGreatestRow.ifacesOut == Tryd.f13.resultTypes.toList.any (Tryd.pinned.checked.prog.ifacesRec ·)) = true ∧ (Rows.orderGreatestRow.loopsOut == Tryd.f13.resultTypes.toList.any (Tryd.pinned.checked.prog.loopsFrom ·)) = true ∧ (Rows.orderGreatestRow.plainKeys == Tryd.pinned.checked.prog.plainKeys) = true ∧ (Rows.orderGreatestRow.shortTexts.isNone) = true ∧ (Tryd.pinned.checked.prog.stopsHeard) = true ∧ (Tryd.pinned.checked.prog.mayEnter) = true ∧ (Rows.orderGreatestRow.lifted == Tryd.pinned.checked.prog.liftsFinal) = true ∧ (Tryd.pinned.checked.prog.make == some Rows.orderGreatestRow.make) = true ∧ (Rows.orderGreatestRow.kinds == (if Rows.orderGreatestRow.domain.isEmpty then [] else Tryd.f13.params.toList.map fun t => match Tryd.pinned.checked.prog.underlying t with | some (.int k) => some k | _ => none)) = true ∧ (Rows.orderGreatestRow.pinned == Rows.orderGreatestRow.pinnedBy) = true := ⟨by kernel_rfl, by kernel_rfl, by kernel_rfl, by kernel_rfl, by kernel_rfl, by kernel_rfl, by kernel_rfl, by kernel_rfl, by kernel_rfl, by kernel_rfl, by kernel_rfl, by kernel_rfl⟩
theorem orderGreatest_j5 : (Rows.orderGreatestRow.veiled == (Tryd.f13.params.toList ++ Rows.orderGreatestSpec.plain.varTypes Tryd.pinned.checked.prog ++ Tryd.f13.resultTypes.toList).any (Tryd.pinned.checked.prog.veiledRec ·)) = true ∧ (Rows.orderGreatestRow.veiledFits Tryd.pinned.checked.prog Tryd.f13.params.toList (Tryd.f13.params.toList ++ Rows.orderGreatestSpec.plain.varTypes Tryd.pinned.checked.prog ++ Tryd.f13.resultTypes.toList)) = true := ⟨by kernel_rfl, by kernel_rfl⟩
set_option maxRecDepth 100000 in
theorem orderGreatest_jf : joinedFacts Tryd.pinned.checked.prog 13 Tryd.f13 Rows.orderGreatestSpec Rows.orderGreatestRow = true := (bandI (bandI (bandI (bandI (bandI (bandI (bandI (bandI (bandI (bandI (bandI (bandI (bandI (bandI (bandI (bandI (bandI (bandI (bandI (bandI (bandI (bandI (bandI (bandI (bandI (bandI (bandI (bandI (bandI (bandI (bandI orderGreatest_j0.1 orderGreatest_j0.2.1) orderGreatest_j0.2.2.1) orderGreatest_j0.2.2.2.1) orderGreatest_j0.2.2.2.2.1) orderGreatest_j0.2.2.2.2.2.1) orderGreatest_j0.2.2.2.2.2.2.1) orderGreatest_j0.2.2.2.2.2.2.2.1) orderGreatest_j0.2.2.2.2.2.2.2.2) orderGreatest_j1.1) orderGreatest_j1.2) orderGreatest_j2.1) orderGreatest_j2.2) orderGreatest_j3.1) orderGreatest_j3.2.1) orderGreatest_j3.2.2.1) orderGreatest_j3.2.2.2.1) orderGreatest_j3.2.2.2.2) orderGreatest_j4.1) orderGreatest_j4.2.1) orderGreatest_j4.2.2.1) orderGreatest_j4.2.2.2.1) orderGreatest_j4.2.2.2.2.1) orderGreatest_j4.2.2.2.2.2.1) orderGreatest_j4.2.2.2.2.2.2.1) orderGreatest_j4.2.2.2.2.2.2.2.1) orderGreatest_j4.2.2.2.2.2.2.2.2.1) orderGreatest_j4.2.2.2.2.2.2.2.2.2.1) orderGreatest_j4.2.2.2.2.2.2.2.2.2.2.1) orderGreatest_j4.2.2.2.2.2.2.2.2.2.2.2) orderGreatest_j5.1) orderGreatest_j5.2)
theorem orderGreatest_fn : Tryd.pinned.checked.prog.funcNamed Rows.orderGreatestRow.func = some 13 := by kernel_rfl

theorem orderGreatest_said : Rows.OrderGreatestSaid :=
  OpenClaim.holds_of_wide 13 Tryd.f13 rfl rfl rfl rfl rfl rfl rfl ⟨rfl, rfl, rfl, rfl, rfl⟩ rfl rfl rfl rfl rfl orderGreatest_fn Tryd.func13 orderGreatest_jf
    (of_decide_eq_true (by kernel_rfl)) (by unfold Func.isWrapper; first | (rw [if_pos (by decide +kernel)]; kernel_rfl) | (rw [if_neg (by decide +kernel)]; exact ⟨rfl, rfl⟩))
    (fun os started H enc _ => orderGreatest_lifted os started H enc)
theorem orderGreatest_w : Rows.orderGreatestRow.wfByText (OpenSpec.ofChange Rows.orderGreatestSpec) = true := by kernel_rfl
theorem orderGreatest_m : Tryd.pinned.checked.prog.mainIs = some (true, "b6a4ea6cb61e0d01f3dbd37aed29265e33fd8127019479cf5f040513dfc5b12c".toList) := by kernel_rfl
theorem orderGreatest_lk : false = Tryd.pinned.checked.prog.looks [] := by kernel_rfl
theorem orderGreatest_g : false = Rows.orderGreatestRow.goesBy Tryd.pinned.checked.prog := by kernel_rfl

theorem orderGreatest_holds : Rows.OrderGreatestCardSaid :=
  Claim7.holds_tied_plain_at .later [] [.data] true (true, "b6a4ea6cb61e0d01f3dbd37aed29265e33fd8127019479cf5f040513dfc5b12c") false
    orderGreatest_said (fun _ h => by cases h) orderGreatest_w (fun _ h => by cases h) orderGreatest_row_tie rfl ⟨rfl, rfl⟩ orderGreatest_m rfl
    (fun f fn hf hfn => by
      obtain rfl : f = 13 := Option.some.inj ((show Tryd.prog.funcNamed "almagest/almagestlaw12.OrderGreatest" = some 13 by kernel_rfl).symm.trans hf) |>.symm
      obtain rfl : fn = Tryd.f13 := (Option.some.inj (Tryd.func13.symm.trans hfn)).symm
      refine ⟨orderGreatest_lk, fun j t ht => ?_⟩
      rw [Tryd.params13] at ht
      rcases j with _ | j
      · obtain rfl : t = 104 := by simpa using ht.symm
        exact (show Tryd.prog.wantsStandIn 104 = false by kernel_rfl)
      · rcases j with _ | j
        · obtain rfl : t = 3 := by simpa using ht.symm
          exact (show Tryd.prog.wantsStandIn 3 = false by kernel_rfl)
        · simp at ht)
    orderGreatest_g
end Go.Proofs.YtmnehhpfbmoahaaDoor
