/- The card of TreeAlone: whatever the input is, the law returns true and leaves all as it was; the listed variables hold what the program's text lays. -/
import Derived.Test.YtokdfjelilhekaaDoorRows
import Derived.Test.YtokdfjelilhekaaDoorCards
import Derived.Test.YtokdfjelilhekaaDoorTie
import Derived.Test.YtokdfjelilhekaaDoorL15d
import Derived.Test.YtokdfjelilhekaaDoorLib8
import Derived.Test.YtokdfjelilhekaaDoorLib7
import Derived.ProofKit
import Derived.LaidMore
import Derived.OpenShut
import Derived.Stop.Joined
import Derived.SevenTiedAt
namespace Go.Proofs.YtokdfjelilhekaaDoor
open Go Go.ChangeShapes Go.WideShapes Go.ChangeAt Go.RowKit Go.Alm

theorem Tryd.own_treeAlone : ownKnob Tryd.prog.godebug = none := by kernel_rfl
theorem Tryd.laidOut_treeAlone : laidOutB Tryd.prog = true := by kernel_rfl
def laid_treeAlone {H : Type} : List (String × DataW H) := [("almagest/sha.keys", Rows.laid_almagest_sha_keys)]
theorem door_treeAlone (os : Os) (args : Array Value) : laidMetH Tryd.prog laid_treeAlone ((World.doorLaid Tryd.prog 4000 os).forCall (fun _ _ => 0) ⟨#[], args, []⟩).memory :=
  laidMetH_of_parts3 (fuel := 8) (laidMet_of_run' 8 (by kernel_rfl) (by kernel_rfl)) (by kernel_rfl) (by kernel_rfl)
theorem keys_treeAlone {W : World} (h : laidMetH Tryd.prog laid_treeAlone W) : Rd W (some ⟨1, 0, none⟩) (hw KL).toList := by
  rw [MakeChecks.laidMetH_plain _ _ _ (by kernel_rfl)] at h
  obtain ⟨ps, ⟨g0, t0, cs0, f0, p0, q0, hg0, ht0, hv0, hd0, _, _⟩, _, _⟩ := h
  obtain rfl := Option.some.inj ((show Tryd.prog.globalNamed "almagest/sha.keys" = some 1 by kernel_rfl).symm.trans hg0)
  obtain rfl := Option.some.inj ((show (Tryd.prog.globals[1]?).map (·.type) = some 137 by kernel_rfl).symm.trans ht0)
  exact keys_of_laid (e := 29) hg0 hv0 (by kernel_rfl) (by kernel_rfl) (by kernel_rfl) hd0 (by kernel_rfl)

set_option maxRecDepth 100000 in
theorem treeAlone_lifted (os : Os) (started : os.Started) (H : Type) (enc : TypeId × Value → H) :
    ReturnsInHanded {} Tryd.checked os 6 .any (fun w args => (Rows.treeAloneSpec.pre enc Tryd.prog Tryd.f6 [] false w args ∧ laidMetH Tryd.prog laid_treeAlone w) ∧ sizedMet enc Tryd.prog Tryd.f6 (OpenSpec.ofChange Rows.treeAloneSpec) false w args)
      (Rows.treeAloneSpec.post enc Tryd.prog Tryd.f6 false true false false) := by
  refine returnsInHanded_of_change_and (C := Tryd.checked) (X := fun w _ => laidMetH Tryd.prog laid_treeAlone w) (fun _ _ _ hh h => h.of_heap hh) Tryd.own_treeAlone started (by kernel_rfl) Tryd.func6
    (ChangeSpec.witness_shaped (enc := enc) (C := Tryd.checked) (os := os) (X := fun w _ => laidMetH Tryd.prog laid_treeAlone w) false (World.doorLaid Tryd.prog 4000 os) #[.slice none 0 0, .agg #[(.int .i64 0), (.int .i64 0), (.string (⟨#[]⟩ : ByteArray)), (.int .u64 0), (.int .u32 0)]] 8 rfl (World.shaped_of_RefB (by kernel_rfl) (by kernel_rfl)) (by kernel_rfl) (by kernel_rfl) (by kernel_rfl) (door_treeAlone os _)) ?_
  intro W base args ds gs before hval0 hW _ _ hL _
  have hval : ∀ (j : Nat) t v, Tryd.f6.params[j]? = some t → args[j]? = some v → Value.okWide Tryd.prog W .any base t v := hval0
  have hW' := hW
  obtain ⟨p, q, hA0, hV, rfl, hfz, hnd⟩ := hW
  have hA : DataW.TrodAll enc Tryd.prog W 0 (fun _ => true) true Tryd.f6.params.toList args.toList ds p := hA0
  rw [Tryd.params6] at hA hval
  obtain ⟨v0, v1, d0, d1, p0, p1, rfl, rfl, rfl, h0, h1⟩ := trodAll_two hA
  obtain ⟨rfl, rfl⟩ := trodVars_none hV
  have hK := keys_treeAlone hL
  obtain ⟨a0, len0, c0, rfl⟩ := okWide_slice Tryd.underlying22 (hval 0 22 v0 rfl rfl)
  obtain ⟨fu0, hf0⟩ := id h0; obtain ⟨ao0, ls0, cap0, e0, hR0, hB0, hlc0, hcm0⟩ := recs_of_trod (t := 22) (e := 38) (f := AAct.cells) (Ok := AAct.Ok) (sz := 5) AAct.size (by decide) (by kernel_rfl) (by kernel_rfl) (fun _ _ _ hy => act_of (ti := 3) (ta := 36) (ts := 9) (tu := 28) (tn := 29) ⟨⟨(by kernel_rfl), (by kernel_rfl), (by kernel_rfl), (by kernel_rfl)⟩, ⟨(by kernel_rfl)⟩, ⟨⟨(by kernel_rfl), (by kernel_rfl), (by kernel_rfl), (by kernel_rfl)⟩, (by kernel_rfl), ⟨(by kernel_rfl)⟩, ⟨(by kernel_rfl)⟩⟩⟩ hy) hf0
  have e0' : Value.slice a0 len0 c0 = .slice ao0 ls0.length cap0 := by simpa [Value.cells] using e0
  rw [e0'] at hW' h0 ⊢
  obtain ⟨q1, rfl, hq1⟩ := okWide_struct Tryd.underlying38 (hval 1 38 v1 rfl rfl)
  obtain ⟨fu1, hf1⟩ := id h1; obtain ⟨y1, hy1, e1⟩ := act_of (ti := 3) (ta := 36) (ts := 9) (tu := 28) (tn := 29) ⟨⟨(by kernel_rfl), (by kernel_rfl), (by kernel_rfl), (by kernel_rfl)⟩, ⟨(by kernel_rfl)⟩, ⟨⟨(by kernel_rfl), (by kernel_rfl), (by kernel_rfl), (by kernel_rfl)⟩, (by kernel_rfl), ⟨(by kernel_rfl)⟩, ⟨(by kernel_rfl)⟩⟩⟩ hf1
  have hc1 : q1 = y1.cells := agg_eq e1
  clear hA0 hval0 hval hA
  simp only [List.append_nil] at hW'
  have hlt : ∀ x ∈ p0 ++ p1, x.block < W.heap.size := fun x hx => by simpa using hW'.lt x hx
  have hro : RoA W [(.rd ao0 (RL AAct.cells ls0)), (.rd (some ⟨1, 0, none⟩) (hw KL).toList)] := (.cons hR0 (.cons hK .nil))
  have hcall := Does.row (treeAlone_j ao0 cap0 ls0 y1 hB0 (by simp only [maxLen] at hcm0; omega) hy1) hro.out
  rw [← hc1] at hcall
  refine hcall.mono fun e W' ⟨he, hF⟩ => ?_
  subst he
  exact ⟨_, rfl, post_of_fr (pa := p0 ++ (p1)) (pv := []) hW' (fun _ _ _ => trodAll_mk1 (shut_bool Tryd.underlying4 true)) (fun sp hsp => trodAll_mk2 (WideElems.Trod_stays Tryd.laidOut_treeAlone (by kernel_rfl) (of_decide_eq_true (by kernel_rfl)) h0 (fun x hx => hF.below.same (hlt x (by simp [hx]))) (fun x hx => hsp x (by simp [hx]))) (WideElems.Trod_stays Tryd.laidOut_treeAlone (by kernel_rfl) (of_decide_eq_true (by kernel_rfl)) h1 (fun x hx => hF.below.same (hlt x (by simp [hx]))) (fun x hx => hsp x (by simp [hx])))) (fun _ _ => rfl) (by simp) hF (ok_one (by kernel_rfl) rfl (okWide_bool_mk Tryd.underlying4 true))⟩
theorem treeAlone_j0 : (Rows.treeAloneRow.wf (OpenSpec.ofChange Rows.treeAloneSpec)) = true ∧ (laidOutB Tryd.pinned.checked.prog) = true ∧ (mapsRowed Tryd.pinned.checked.prog) = true ∧ (Tryd.f6.params.all (Tryd.pinned.checked.prog.readableRec ·)) = true ∧ (namedTie Tryd.pinned.checked.prog Rows.treeAloneRow.named Rows.treeAloneSpec.vars) = true ∧ (Rows.treeAloneRow.stops == []) = true ∧ (Tryd.pinned.checked.prog.stops == []) = true ∧ (Rows.treeAloneRow.knobs == []) = true ∧ (Tryd.pinned.checked.prog.stopKnobs == []) = true := ⟨by kernel_rfl, by kernel_rfl, by kernel_rfl, by kernel_rfl, by kernel_rfl, by kernel_rfl, by kernel_rfl, by kernel_rfl, by kernel_rfl⟩
theorem treeAlone_j1 : (Rows.treeAloneRow.inPlace == Tryd.pinned.checked.prog.inPlace 6) = true ∧ (Rows.treeAloneRow.unfollowed == Tryd.pinned.checked.prog.unfollowed 6) = true := ⟨by kernel_rfl, by kernel_rfl⟩
theorem treeAlone_j2 : (Rows.treeAloneRow.recurses == Tryd.pinned.checked.prog.recurses 6) = true ∧ (Rows.treeAloneRow.named == Tryd.pinned.checked.prog.varsNamed 6) = true := ⟨by kernel_rfl, by kernel_rfl⟩
theorem treeAlone_j3 : (Rows.treeAloneRow.maps == (Tryd.f6.params.toList ++ Rows.treeAloneSpec.plain.varTypes Tryd.pinned.checked.prog).any (Tryd.pinned.checked.prog.mapsRec ·)) = true ∧ (Rows.treeAloneRow.ifaces == (Tryd.f6.params.toList ++ Rows.treeAloneSpec.plain.varTypes Tryd.pinned.checked.prog).any (Tryd.pinned.checked.prog.ifacesRec ·)) = true ∧ (Rows.treeAloneRow.mapsOut == Tryd.pinned.checked.prog.mapsAmong Tryd.f6.resultTypes.toList) = true ∧ (Rows.treeAloneRow.loops == (Tryd.f6.params.toList ++ Rows.treeAloneSpec.plain.varTypes Tryd.pinned.checked.prog).any (Tryd.pinned.checked.prog.loopsFrom ·)) = true ∧ (Rows.treeAloneRow.wideKeys == (Tryd.f6.params.toList ++ Rows.treeAloneSpec.plain.varTypes Tryd.pinned.checked.prog ++ Tryd.f6.resultTypes.toList).any (Tryd.pinned.checked.prog.wideKeysFrom ·)) = true := ⟨by kernel_rfl, by kernel_rfl, by kernel_rfl, by kernel_rfl, by kernel_rfl⟩
theorem treeAlone_j4 : (Rows.treeAloneSpec.vars.all (Tryd.pinned.checked.prog.varReadable ·)) = true ∧ (Tryd.f6.resultTypes.all (fun t => Tryd.pinned.checked.prog.readableRec t && decide (t < Tryd.pinned.checked.prog.types.size))) = true ∧ (Rows.treeAloneRow.ifacesOut == Tryd.f6.resultTypes.toList.any (Tryd.pinned.checked.prog.ifacesRec ·)) = true ∧ (Rows.treeAloneRow.loopsOut == Tryd.f6.resultTypes.toList.any (Tryd.pinned.checked.prog.loopsFrom ·)) = true ∧ (Rows.treeAloneRow.plainKeys == Tryd.pinned.checked.prog.plainKeys) = true ∧ (Rows.treeAloneRow.shortTexts.isNone) = true ∧ (Tryd.pinned.checked.prog.stopsHeard) = true ∧ (Tryd.pinned.checked.prog.mayEnter) = true ∧ (Rows.treeAloneRow.lifted == Tryd.pinned.checked.prog.liftsFinal) = true ∧ (Tryd.pinned.checked.prog.make == some Rows.treeAloneRow.make) = true ∧ (Rows.treeAloneRow.kinds == (if Rows.treeAloneRow.domain.isEmpty then [] else Tryd.f6.params.toList.map fun t => match Tryd.pinned.checked.prog.underlying t with | some (.int k) => some k | _ => none)) = true ∧ (Rows.treeAloneRow.pinned == Rows.treeAloneRow.pinnedBy) = true := ⟨by kernel_rfl, by kernel_rfl, by kernel_rfl, by kernel_rfl, by kernel_rfl, by kernel_rfl, by kernel_rfl, by kernel_rfl, by kernel_rfl, by kernel_rfl, by kernel_rfl, by kernel_rfl⟩
theorem treeAlone_j5 : (Rows.treeAloneRow.veiled == (Tryd.f6.params.toList ++ Rows.treeAloneSpec.plain.varTypes Tryd.pinned.checked.prog ++ Tryd.f6.resultTypes.toList).any (Tryd.pinned.checked.prog.veiledRec ·)) = true ∧ (Rows.treeAloneRow.veiledFits Tryd.pinned.checked.prog Tryd.f6.params.toList (Tryd.f6.params.toList ++ Rows.treeAloneSpec.plain.varTypes Tryd.pinned.checked.prog ++ Tryd.f6.resultTypes.toList)) = true := ⟨by kernel_rfl, by kernel_rfl⟩
set_option maxRecDepth 100000 in
theorem treeAlone_jf : joinedFacts Tryd.pinned.checked.prog 6 Tryd.f6 Rows.treeAloneSpec Rows.treeAloneRow = true := (bandI (bandI (bandI (bandI (bandI (bandI (bandI (bandI (bandI (bandI (bandI (bandI (bandI (bandI (bandI (bandI (bandI (bandI (bandI (bandI (bandI (bandI (bandI (bandI (bandI (bandI (bandI (bandI (bandI (bandI (bandI treeAlone_j0.1 treeAlone_j0.2.1) treeAlone_j0.2.2.1) treeAlone_j0.2.2.2.1) treeAlone_j0.2.2.2.2.1) treeAlone_j0.2.2.2.2.2.1) treeAlone_j0.2.2.2.2.2.2.1) treeAlone_j0.2.2.2.2.2.2.2.1) treeAlone_j0.2.2.2.2.2.2.2.2) treeAlone_j1.1) treeAlone_j1.2) treeAlone_j2.1) treeAlone_j2.2) treeAlone_j3.1) treeAlone_j3.2.1) treeAlone_j3.2.2.1) treeAlone_j3.2.2.2.1) treeAlone_j3.2.2.2.2) treeAlone_j4.1) treeAlone_j4.2.1) treeAlone_j4.2.2.1) treeAlone_j4.2.2.2.1) treeAlone_j4.2.2.2.2.1) treeAlone_j4.2.2.2.2.2.1) treeAlone_j4.2.2.2.2.2.2.1) treeAlone_j4.2.2.2.2.2.2.2.1) treeAlone_j4.2.2.2.2.2.2.2.2.1) treeAlone_j4.2.2.2.2.2.2.2.2.2.1) treeAlone_j4.2.2.2.2.2.2.2.2.2.2.1) treeAlone_j4.2.2.2.2.2.2.2.2.2.2.2) treeAlone_j5.1) treeAlone_j5.2)
theorem treeAlone_fn : Tryd.pinned.checked.prog.funcNamed Rows.treeAloneRow.func = some 6 := by kernel_rfl

theorem treeAlone_said : Rows.TreeAloneSaid :=
  OpenClaim.holds_of_wide 6 Tryd.f6 rfl rfl rfl rfl rfl rfl rfl ⟨rfl, rfl, rfl, rfl, rfl⟩ rfl rfl rfl rfl rfl treeAlone_fn Tryd.func6 treeAlone_jf
    (of_decide_eq_true (by kernel_rfl)) (by unfold Func.isWrapper; first | (rw [if_pos (by decide +kernel)]; kernel_rfl) | (rw [if_neg (by decide +kernel)]; exact ⟨rfl, rfl⟩))
    (fun os started H enc _ => treeAlone_lifted os started H enc)
theorem treeAlone_w : Rows.treeAloneRow.wfByText (OpenSpec.ofChange Rows.treeAloneSpec) = true := by kernel_rfl
theorem treeAlone_m : Tryd.pinned.checked.prog.mainIs = some (true, "4e9d58d4572607adca996765bd59d579cc081f5c4a473c82a35263225debb448".toList) := by kernel_rfl
theorem treeAlone_lk : false = Tryd.pinned.checked.prog.looks [] := by kernel_rfl
theorem treeAlone_g : false = Rows.treeAloneRow.goesBy Tryd.pinned.checked.prog := by kernel_rfl

theorem treeAlone_holds : Rows.TreeAloneCardSaid :=
  Claim7.holds_tied_plain_at .later [] [.data] true (true, "4e9d58d4572607adca996765bd59d579cc081f5c4a473c82a35263225debb448") false
    treeAlone_said (fun _ h => by cases h) treeAlone_w (fun _ h => by cases h) treeAlone_row_tie rfl ⟨rfl, rfl⟩ treeAlone_m rfl
    (fun f fn hf hfn => by
      obtain rfl : f = 6 := Option.some.inj ((show Tryd.prog.funcNamed "almagest/almagestlaw15.TreeAlone" = some 6 by kernel_rfl).symm.trans hf) |>.symm
      obtain rfl : fn = Tryd.f6 := (Option.some.inj (Tryd.func6.symm.trans hfn)).symm
      refine ⟨treeAlone_lk, fun j t ht => ?_⟩
      rw [Tryd.params6] at ht
      rcases j with _ | j
      · obtain rfl : t = 22 := by simpa using ht.symm
        exact (show Tryd.prog.wantsStandIn 22 = false by kernel_rfl)
      · rcases j with _ | j
        · obtain rfl : t = 38 := by simpa using ht.symm
          exact (show Tryd.prog.wantsStandIn 38 = false by kernel_rfl)
        · simp at ht)
    treeAlone_g
end Go.Proofs.YtokdfjelilhekaaDoor
