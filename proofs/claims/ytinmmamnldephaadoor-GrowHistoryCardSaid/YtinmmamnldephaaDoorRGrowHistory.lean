/- The card of GrowHistory: whatever the input is, the law returns true and leaves all as it was; the listed variables hold what the program's text lays. -/
import Derived.Test.YtinmmamnldephaaDoorRows
import Derived.Test.YtinmmamnldephaaDoorCards
import Derived.Test.YtinmmamnldephaaDoorTie
import Derived.Test.YtinmmamnldephaaDoorL10i
import Derived.Test.YtinmmamnldephaaDoorLib7
import Derived.Test.YtinmmamnldephaaDoorLib5
import Derived.ProofKit
import Derived.LaidMore
import Derived.OpenShut
import Derived.Stop.Joined
import Derived.SevenTiedAt
namespace Go.Proofs.YtinmmamnldephaaDoor
open Go Go.ChangeShapes Go.WideShapes Go.ChangeAt Go.RowKit Go.Alm

theorem Tryd.own_growHistory : ownKnob Tryd.prog.godebug = none := by kernel_rfl
theorem Tryd.laidOut_growHistory : laidOutB Tryd.prog = true := by kernel_rfl
def laid_growHistory {H : Type} : List (String × DataW H) := [("almagest/almagestref02.k", Rows.laid_almagest_almagestref02_k), ("almagest/sha.keys", Rows.laid_almagest_sha_keys)]
theorem door_growHistory (os : Os) (args : Array Value) : laidMetH Tryd.prog laid_growHistory ((World.doorLaid Tryd.prog 4000 os).forCall (fun _ _ => 0) ⟨#[], args, []⟩).memory :=
  laidMetH_of_parts3 (fuel := 8) (laidMet_of_run' 8 (by kernel_rfl) (by kernel_rfl)) (by kernel_rfl) (by kernel_rfl)
theorem keys_growHistory {W : World} (h : laidMetH Tryd.prog laid_growHistory W) : Rd W (some ⟨0, 0, none⟩) (hw KL).toList ∧ Rd W (some ⟨1, 0, none⟩) (hw KL).toList := by
  rw [MakeChecks.laidMetH_plain _ _ _ (by kernel_rfl)] at h
  obtain ⟨ps, ⟨g0, t0, cs0, f0, p0, q0, hg0, ht0, hv0, hd0, ⟨g1, t1, cs1, f1, p1, q1, hg1, ht1, hv1, hd1, _, _⟩, _⟩, _, _⟩ := h
  obtain rfl := Option.some.inj ((show Tryd.prog.globalNamed "almagest/almagestref02.k" = some 0 by kernel_rfl).symm.trans hg0)
  obtain rfl := Option.some.inj ((show (Tryd.prog.globals[0]?).map (·.type) = some 173 by kernel_rfl).symm.trans ht0)
  obtain rfl := Option.some.inj ((show Tryd.prog.globalNamed "almagest/sha.keys" = some 1 by kernel_rfl).symm.trans hg1)
  obtain rfl := Option.some.inj ((show (Tryd.prog.globals[1]?).map (·.type) = some 173 by kernel_rfl).symm.trans ht1)
  exact ⟨keys_of_laid (e := 27) hg0 hv0 (by kernel_rfl) (by kernel_rfl) (by kernel_rfl) hd0 (by kernel_rfl), keys_of_laid (e := 27) hg1 hv1 (by kernel_rfl) (by kernel_rfl) (by kernel_rfl) hd1 (by kernel_rfl)⟩

set_option maxRecDepth 100000 in
theorem growHistory_lifted (os : Os) (started : os.Started) (H : Type) (enc : TypeId × Value → H) :
    ReturnsInHanded {} Tryd.checked os 3 .any (fun w args => (Rows.growHistorySpec.pre enc Tryd.prog Tryd.f3 [] false w args ∧ laidMetH Tryd.prog laid_growHistory w) ∧ sizedMet enc Tryd.prog Tryd.f3 (OpenSpec.ofChange Rows.growHistorySpec) false w args)
      (Rows.growHistorySpec.post enc Tryd.prog Tryd.f3 false true false false) := by
  refine returnsInHanded_of_change_and (C := Tryd.checked) (X := fun w _ => laidMetH Tryd.prog laid_growHistory w) (fun _ _ _ hh h => h.of_heap hh) Tryd.own_growHistory started (by kernel_rfl) Tryd.func3
    (ChangeSpec.witness_shaped (enc := enc) (C := Tryd.checked) (os := os) (X := fun w _ => laidMetH Tryd.prog laid_growHistory w) false (World.doorLaid Tryd.prog 4000 os) #[.agg #[(.int .u8 0), (.int .u8 0), (.int .u8 0), (.int .u8 0), (.int .u8 0), (.int .u8 0), (.int .u8 0), (.int .u8 0), (.int .u8 0), (.int .u8 0), (.int .u8 0), (.int .u8 0), (.int .u8 0), (.int .u8 0), (.int .u8 0), (.int .u8 0), (.int .u8 0), (.int .u8 0), (.int .u8 0), (.int .u8 0), (.int .u8 0), (.int .u8 0), (.int .u8 0), (.int .u8 0), (.int .u8 0), (.int .u8 0), (.int .u8 0), (.int .u8 0), (.int .u8 0), (.int .u8 0), (.int .u8 0), (.int .u8 0)], .slice none 0 0, .slice none 0 0] 8 rfl (World.shaped_of_RefB (by kernel_rfl) (by kernel_rfl)) (by kernel_rfl) (by kernel_rfl) (by kernel_rfl) (door_growHistory os _)) ?_
  intro W base args ds gs before hval0 hW _ _ hL _
  have hval : ∀ (j : Nat) t v, Tryd.f3.params[j]? = some t → args[j]? = some v → Value.okWide Tryd.prog W .any base t v := hval0
  have hW' := hW
  obtain ⟨p, q, hA0, hV, rfl, hfz, hnd⟩ := hW
  have hA : DataW.TrodAll enc Tryd.prog W 0 (fun _ => true) true Tryd.f3.params.toList args.toList ds p := hA0
  rw [Tryd.params3] at hA hval
  obtain ⟨v0, v1, v2, d0, d1, d2, p0, p1, p2, rfl, rfl, rfl, h0, h1, h2⟩ := trodAll_three hA
  obtain ⟨rfl, rfl⟩ := trodVars_none hV
  have hK := keys_growHistory hL
  obtain ⟨q0, rfl, hq0⟩ := okWide_array Tryd.underlying23 (hval 0 23 v0 rfl rfl)
  obtain ⟨fu0, hf0⟩ := id h0; obtain ⟨y0, hy0, e0⟩ := hash_of (e := 5) ⟨(by kernel_rfl), (by kernel_rfl), (by kernel_rfl), (by kernel_rfl)⟩ hf0
  have hc0 : q0 = hv y0 := agg_eq e0
  obtain ⟨a1, len1, c1, rfl⟩ := okWide_slice Tryd.underlying24 (hval 1 24 v1 rfl rfl)
  obtain ⟨fu1, hf1⟩ := id h1; obtain ⟨ao1, ls1, cap1, e1, hR1, hB1, hlc1, hcm1⟩ := recs_of_trod (t := 24) (e := 27) (f := nC) (Ok := (fun n : Nat => n < 4294967296)) (sz := 1) nC_size (by decide) (by kernel_rfl) (by kernel_rfl) (fun _ _ _ hy => num_of ⟨(by kernel_rfl)⟩ hy) hf1
  have e1' : Value.slice a1 len1 c1 = .slice ao1 ls1.length cap1 := by simpa [Value.cells] using e1
  rw [e1'] at hW' h1 ⊢
  obtain ⟨a2, len2, c2, rfl⟩ := okWide_slice Tryd.underlying25 (hval 2 25 v2 rfl rfl)
  obtain ⟨fu2, hf2⟩ := id h2; obtain ⟨ao2, ls2, cap2, e2, hR2, hB2, hlc2, hcm2⟩ := recs_of_trod (t := 25) (e := 23) (f := hv) (Ok := H32) (sz := 32) hv_size (by decide) (by kernel_rfl) (by kernel_rfl) (fun _ _ _ hy => hash_of' (e := 5) ⟨(by kernel_rfl), (by kernel_rfl), (by kernel_rfl), (by kernel_rfl)⟩ hy) hf2
  have e2' : Value.slice a2 len2 c2 = .slice ao2 ls2.length cap2 := by simpa [Value.cells] using e2
  rw [e2'] at hW' h2 ⊢
  clear hA0 hval0 hval hA
  simp only [List.append_nil] at hW'
  have hlt : ∀ x ∈ p0 ++ p1 ++ p2, x.block < W.heap.size := fun x hx => by simpa using hW'.lt x hx
  have hro : RoA W [(.rd ao1 (RL nC ls1)), (.rd ao2 (RL hv ls2)), (.rd (some ⟨0, 0, none⟩) (hw KL).toList), (.rd (some ⟨1, 0, none⟩) (hw KL).toList)] := (.cons hR1 (.cons hR2 (.cons hK.1 (.cons hK.2 .nil))))
  have hcall := Does.row (growHistory_j y0 ao1 cap1 ls1 ao2 cap2 ls2 hy0 hB1 (by simp only [maxLen] at hcm1; omega) hB2 (by simp only [maxLen] at hcm2; omega)) hro.out
  rw [← hc0] at hcall
  refine hcall.mono fun e W' ⟨he, hF⟩ => ?_
  subst he
  exact ⟨_, rfl, post_of_fr (pa := p0 ++ (p1 ++ (p2))) (pv := []) hW' (fun _ _ _ => trodAll_mk1 (shut_bool Tryd.underlying4 true)) (fun sp hsp => trodAll_mk3 (WideElems.Trod_stays Tryd.laidOut_growHistory (by kernel_rfl) (of_decide_eq_true (by kernel_rfl)) h0 (fun x hx => hF.below.same (hlt x (by simp [hx]))) (fun x hx => hsp x (by simp [hx]))) (WideElems.Trod_stays Tryd.laidOut_growHistory (by kernel_rfl) (of_decide_eq_true (by kernel_rfl)) h1 (fun x hx => hF.below.same (hlt x (by simp [hx]))) (fun x hx => hsp x (by simp [hx]))) (WideElems.Trod_stays Tryd.laidOut_growHistory (by kernel_rfl) (of_decide_eq_true (by kernel_rfl)) h2 (fun x hx => hF.below.same (hlt x (by simp [hx]))) (fun x hx => hsp x (by simp [hx])))) (fun _ _ => rfl) (by simp) hF (ok_one (by kernel_rfl) rfl (okWide_bool_mk Tryd.underlying4 true))⟩
theorem growHistory_j0 : (Rows.growHistoryRow.wf (OpenSpec.ofChange Rows.growHistorySpec)) = true ∧ (laidOutB Tryd.pinned.checked.prog) = true ∧ (mapsRowed Tryd.pinned.checked.prog) = true ∧ (Tryd.f3.params.all (Tryd.pinned.checked.prog.readableRec ·)) = true ∧ (namedTie Tryd.pinned.checked.prog Rows.growHistoryRow.named Rows.growHistorySpec.vars) = true ∧ (Rows.growHistoryRow.stops == []) = true ∧ (Tryd.pinned.checked.prog.stops == []) = true ∧ (Rows.growHistoryRow.knobs == []) = true ∧ (Tryd.pinned.checked.prog.stopKnobs == []) = true := ⟨by kernel_rfl, by kernel_rfl, by kernel_rfl, by kernel_rfl, by kernel_rfl, by kernel_rfl, by kernel_rfl, by kernel_rfl, by kernel_rfl⟩
theorem growHistory_j1 : (Rows.growHistoryRow.inPlace == Tryd.pinned.checked.prog.inPlace 3) = true ∧ (Rows.growHistoryRow.unfollowed == Tryd.pinned.checked.prog.unfollowed 3) = true := ⟨by kernel_rfl, by kernel_rfl⟩
theorem growHistory_j2 : (Rows.growHistoryRow.recurses == Tryd.pinned.checked.prog.recurses 3) = true ∧ (Rows.growHistoryRow.named == Tryd.pinned.checked.prog.varsNamed 3) = true := ⟨by kernel_rfl, by kernel_rfl⟩
theorem growHistory_j3 : (Rows.growHistoryRow.maps == (Tryd.f3.params.toList ++ Rows.growHistorySpec.plain.varTypes Tryd.pinned.checked.prog).any (Tryd.pinned.checked.prog.mapsRec ·)) = true ∧ (Rows.growHistoryRow.ifaces == (Tryd.f3.params.toList ++ Rows.growHistorySpec.plain.varTypes Tryd.pinned.checked.prog).any (Tryd.pinned.checked.prog.ifacesRec ·)) = true ∧ (Rows.growHistoryRow.mapsOut == Tryd.pinned.checked.prog.mapsAmong Tryd.f3.resultTypes.toList) = true ∧ (Rows.growHistoryRow.loops == (Tryd.f3.params.toList ++ Rows.growHistorySpec.plain.varTypes Tryd.pinned.checked.prog).any (Tryd.pinned.checked.prog.loopsFrom ·)) = true ∧ (Rows.growHistoryRow.wideKeys == (Tryd.f3.params.toList ++ Rows.growHistorySpec.plain.varTypes Tryd.pinned.checked.prog ++ Tryd.f3.resultTypes.toList).any (Tryd.pinned.checked.prog.wideKeysFrom ·)) = true := ⟨by kernel_rfl, by kernel_rfl, by kernel_rfl, by kernel_rfl, by kernel_rfl⟩
theorem growHistory_j4 : (Rows.growHistorySpec.vars.all (Tryd.pinned.checked.prog.varReadable ·)) = true ∧ (Tryd.f3.resultTypes.all (fun t => Tryd.pinned.checked.prog.readableRec t && decide (t < Tryd.pinned.checked.prog.types.size))) = true ∧ (Rows.growHistoryRow.ifacesOut == Tryd.f3.resultTypes.toList.any (Tryd.pinned.checked.prog.ifacesRec ·)) = true ∧ (Rows.growHistoryRow.loopsOut == Tryd.f3.resultTypes.toList.any (Tryd.pinned.checked.prog.loopsFrom ·)) = true ∧ (Rows.growHistoryRow.plainKeys == Tryd.pinned.checked.prog.plainKeys) = true ∧ (Rows.growHistoryRow.shortTexts.isNone) = true ∧ (Tryd.pinned.checked.prog.stopsHeard) = true ∧ (Tryd.pinned.checked.prog.mayEnter) = true ∧ (Rows.growHistoryRow.lifted == Tryd.pinned.checked.prog.liftsFinal) = true ∧ (Tryd.pinned.checked.prog.make == some Rows.growHistoryRow.make) = true ∧ (Rows.growHistoryRow.kinds == (if Rows.growHistoryRow.domain.isEmpty then [] else Tryd.f3.params.toList.map fun t => match Tryd.pinned.checked.prog.underlying t with | some (.int k) => some k | _ => none)) = true ∧ (Rows.growHistoryRow.pinned == Rows.growHistoryRow.pinnedBy) = true := ⟨by kernel_rfl, by kernel_rfl, by kernel_rfl, by kernel_rfl, by kernel_rfl, by kernel_rfl, by kernel_rfl, by kernel_rfl, by kernel_rfl, by kernel_rfl, by kernel_rfl, by kernel_rfl⟩
theorem growHistory_j5 : (Rows.growHistoryRow.veiled == (Tryd.f3.params.toList ++ Rows.growHistorySpec.plain.varTypes Tryd.pinned.checked.prog ++ Tryd.f3.resultTypes.toList).any (Tryd.pinned.checked.prog.veiledRec ·)) = true ∧ (Rows.growHistoryRow.veiledFits Tryd.pinned.checked.prog Tryd.f3.params.toList (Tryd.f3.params.toList ++ Rows.growHistorySpec.plain.varTypes Tryd.pinned.checked.prog ++ Tryd.f3.resultTypes.toList)) = true := ⟨by kernel_rfl, by kernel_rfl⟩
set_option maxRecDepth 100000 in
theorem growHistory_jf : joinedFacts Tryd.pinned.checked.prog 3 Tryd.f3 Rows.growHistorySpec Rows.growHistoryRow = true := (bandI (bandI (bandI (bandI (bandI (bandI (bandI (bandI (bandI (bandI (bandI (bandI (bandI (bandI (bandI (bandI (bandI (bandI (bandI (bandI (bandI (bandI (bandI (bandI (bandI (bandI (bandI (bandI (bandI (bandI (bandI growHistory_j0.1 growHistory_j0.2.1) growHistory_j0.2.2.1) growHistory_j0.2.2.2.1) growHistory_j0.2.2.2.2.1) growHistory_j0.2.2.2.2.2.1) growHistory_j0.2.2.2.2.2.2.1) growHistory_j0.2.2.2.2.2.2.2.1) growHistory_j0.2.2.2.2.2.2.2.2) growHistory_j1.1) growHistory_j1.2) growHistory_j2.1) growHistory_j2.2) growHistory_j3.1) growHistory_j3.2.1) growHistory_j3.2.2.1) growHistory_j3.2.2.2.1) growHistory_j3.2.2.2.2) growHistory_j4.1) growHistory_j4.2.1) growHistory_j4.2.2.1) growHistory_j4.2.2.2.1) growHistory_j4.2.2.2.2.1) growHistory_j4.2.2.2.2.2.1) growHistory_j4.2.2.2.2.2.2.1) growHistory_j4.2.2.2.2.2.2.2.1) growHistory_j4.2.2.2.2.2.2.2.2.1) growHistory_j4.2.2.2.2.2.2.2.2.2.1) growHistory_j4.2.2.2.2.2.2.2.2.2.2.1) growHistory_j4.2.2.2.2.2.2.2.2.2.2.2) growHistory_j5.1) growHistory_j5.2)
theorem growHistory_fn : Tryd.pinned.checked.prog.funcNamed Rows.growHistoryRow.func = some 3 := by kernel_rfl

theorem growHistory_said : Rows.GrowHistorySaid :=
  OpenClaim.holds_of_wide 3 Tryd.f3 rfl rfl rfl rfl rfl rfl rfl ⟨rfl, rfl, rfl, rfl, rfl⟩ rfl rfl rfl rfl rfl growHistory_fn Tryd.func3 growHistory_jf
    (of_decide_eq_true (by kernel_rfl)) (by unfold Func.isWrapper; first | (rw [if_pos (by decide +kernel)]; kernel_rfl) | (rw [if_neg (by decide +kernel)]; exact ⟨rfl, rfl⟩))
    (fun os started H enc _ => growHistory_lifted os started H enc)
theorem growHistory_w : Rows.growHistoryRow.wfByText (OpenSpec.ofChange Rows.growHistorySpec) = true := by kernel_rfl
theorem growHistory_m : Tryd.pinned.checked.prog.mainIs = some (true, "54eb5fc5aebd434a01a7b09e45412a78bb00e1830260e908c53024f3d8a7de3d".toList) := by kernel_rfl
theorem growHistory_lk : false = Tryd.pinned.checked.prog.looks [] := by kernel_rfl
theorem growHistory_g : false = Rows.growHistoryRow.goesBy Tryd.pinned.checked.prog := by kernel_rfl

theorem growHistory_holds : Rows.GrowHistoryCardSaid :=
  Claim7.holds_tied_plain_at .later [] [.data, .data] true (true, "54eb5fc5aebd434a01a7b09e45412a78bb00e1830260e908c53024f3d8a7de3d") false
    growHistory_said (fun _ h => by cases h) growHistory_w (fun _ h => by cases h) growHistory_row_tie rfl ⟨rfl, rfl⟩ growHistory_m rfl
    (fun f fn hf hfn => by
      obtain rfl : f = 3 := Option.some.inj ((show Tryd.prog.funcNamed "almagest/almagestlaw10.GrowHistory" = some 3 by kernel_rfl).symm.trans hf) |>.symm
      obtain rfl : fn = Tryd.f3 := (Option.some.inj (Tryd.func3.symm.trans hfn)).symm
      refine ⟨growHistory_lk, fun j t ht => ?_⟩
      rw [Tryd.params3] at ht
      rcases j with _ | j
      · obtain rfl : t = 23 := by simpa using ht.symm
        exact (show Tryd.prog.wantsStandIn 23 = false by kernel_rfl)
      · rcases j with _ | j
        · obtain rfl : t = 24 := by simpa using ht.symm
          exact (show Tryd.prog.wantsStandIn 24 = false by kernel_rfl)
        · rcases j with _ | j
          · obtain rfl : t = 25 := by simpa using ht.symm
            exact (show Tryd.prog.wantsStandIn 25 = false by kernel_rfl)
          · simp at ht)
    growHistory_g
end Go.Proofs.YtinmmamnldephaaDoor
