/- The card of ChooseNear: whatever the input is, the law returns true and leaves all as it was; the listed variables hold what the program's text lays. -/
import Derived.Test.YtinmmamnldephaaDoorRows
import Derived.Test.YtinmmamnldephaaDoorCards
import Derived.Test.YtinmmamnldephaaDoorTie
import Derived.Test.YtinmmamnldephaaDoorL13c
import Derived.Test.YtinmmamnldephaaDoorLib8
import Derived.Test.YtinmmamnldephaaDoorLib7
import Derived.Test.YtinmmamnldephaaDoorLib5
import Derived.ProofKit
import Derived.LaidMore
import Derived.OpenShut
import Derived.Stop.Joined
import Derived.SevenTiedAt
namespace Go.Proofs.YtinmmamnldephaaDoor
open Go Go.ChangeShapes Go.WideShapes Go.ChangeAt Go.RowKit Go.Alm

theorem Tryd.own_chooseNear : ownKnob Tryd.prog.godebug = none := by kernel_rfl
theorem Tryd.laidOut_chooseNear : laidOutB Tryd.prog = true := by kernel_rfl
def laid_chooseNear {H : Type} : List (String × DataW H) := [("almagest/sha.keys", Rows.laid_almagest_sha_keys)]
theorem door_chooseNear (os : Os) (args : Array Value) : laidMetH Tryd.prog laid_chooseNear ((World.doorLaid Tryd.prog 4000 os).forCall (fun _ _ => 0) ⟨#[], args, []⟩).memory :=
  laidMetH_of_parts3 (fuel := 8) (laidMet_of_run' 8 (by kernel_rfl) (by kernel_rfl)) (by kernel_rfl) (by kernel_rfl)
theorem keys_chooseNear {W : World} (h : laidMetH Tryd.prog laid_chooseNear W) : Rd W (some ⟨1, 0, none⟩) (hw KL).toList := by
  rw [MakeChecks.laidMetH_plain _ _ _ (by kernel_rfl)] at h
  obtain ⟨ps, ⟨g0, t0, cs0, f0, p0, q0, hg0, ht0, hv0, hd0, _, _⟩, _, _⟩ := h
  obtain rfl := Option.some.inj ((show Tryd.prog.globalNamed "almagest/sha.keys" = some 1 by kernel_rfl).symm.trans hg0)
  obtain rfl := Option.some.inj ((show (Tryd.prog.globals[1]?).map (·.type) = some 173 by kernel_rfl).symm.trans ht0)
  exact keys_of_laid (e := 27) hg0 hv0 (by kernel_rfl) (by kernel_rfl) (by kernel_rfl) hd0 (by kernel_rfl)

set_option maxRecDepth 100000 in
theorem chooseNear_lifted (os : Os) (started : os.Started) (H : Type) (enc : TypeId × Value → H) :
    ReturnsInHanded {} Tryd.checked os 6 .any (fun w args => (Rows.chooseNearSpec.pre enc Tryd.prog Tryd.f6 [] false w args ∧ laidMetH Tryd.prog laid_chooseNear w) ∧ sizedMet enc Tryd.prog Tryd.f6 (OpenSpec.ofChange Rows.chooseNearSpec) false w args)
      (Rows.chooseNearSpec.post enc Tryd.prog Tryd.f6 false true false false) := by
  refine returnsInHanded_of_change_and (C := Tryd.checked) (X := fun w _ => laidMetH Tryd.prog laid_chooseNear w) (fun _ _ _ hh h => h.of_heap hh) Tryd.own_chooseNear started (by kernel_rfl) Tryd.func6
    (ChangeSpec.witness_shaped (enc := enc) (C := Tryd.checked) (os := os) (X := fun w _ => laidMetH Tryd.prog laid_chooseNear w) false (World.doorLaid Tryd.prog 4000 os) #[.agg #[(.int .u8 0), (.int .u8 0), (.int .u8 0), (.int .u8 0), (.int .u8 0), (.int .u8 0), (.int .u8 0), (.int .u8 0), (.int .u8 0), (.int .u8 0), (.int .u8 0), (.int .u8 0), (.int .u8 0), (.int .u8 0), (.int .u8 0), (.int .u8 0), (.int .u8 0), (.int .u8 0), (.int .u8 0), (.int .u8 0), (.int .u8 0), (.int .u8 0), (.int .u8 0), (.int .u8 0), (.int .u8 0), (.int .u8 0), (.int .u8 0), (.int .u8 0), (.int .u8 0), (.int .u8 0), (.int .u8 0), (.int .u8 0), (.int .u8 0), (.int .u8 0), (.int .u8 0), (.int .u8 0), (.int .u8 0), (.int .u8 0), (.int .u8 0), (.int .u8 0), (.int .u8 0), (.int .u8 0), (.int .u8 0), (.int .u8 0), (.int .u8 0), (.int .u8 0), (.int .u8 0), (.int .u8 0), (.int .u8 0), (.int .u8 0), (.int .u8 0), (.int .u8 0), (.int .u8 0), (.int .u8 0), (.int .u8 0), (.int .u8 0), (.int .u8 0), (.int .u8 0), (.int .u8 0), (.int .u8 0), (.int .u8 0), (.int .u8 0), (.int .u8 0), (.int .u8 0), (.int .u8 0), (.int .u8 0), (.int .u8 0), (.int .u8 0), (.int .u8 0), (.int .u8 0), (.int .u8 0), (.int .u8 0), (.int .u8 0), (.int .u8 0), (.int .u8 0), (.int .u8 0), (.int .u8 0), (.int .u8 0), (.int .u8 0), (.int .u8 0), (.int .u8 0), (.int .u8 0), (.int .u8 0), (.int .u8 0), (.int .u8 0), (.int .u8 0), (.int .u8 0), (.int .u8 0), (.int .u8 0), (.int .u8 0), (.int .u8 0), (.int .u8 0), (.int .u8 0), (.int .u8 0), (.int .u8 0), (.int .u8 0), (.int .u32 0), (.int .u32 0), (.int .u32 0), (.int .u32 0), (.int .u32 0), (.int .u32 0), (.int .u32 0), (.int .u32 0), (.int .u32 0), (.int .u8 0), (.int .u8 0), (.int .u8 0), (.int .u8 0), (.int .u8 0), (.int .u8 0), (.int .u8 0), (.int .u8 0), (.int .u8 0), (.int .u8 0), (.int .u8 0), (.int .u8 0), (.int .u8 0), (.int .u8 0), (.int .u8 0), (.int .u8 0), (.int .u8 0), (.int .u8 0), (.int .u8 0), (.int .u8 0), (.int .u8 0), (.int .u8 0), (.int .u8 0), (.int .u8 0), (.int .u8 0), (.int .u8 0), (.int .u8 0), (.int .u8 0), (.int .u8 0), (.int .u8 0), (.int .u8 0), (.int .u8 0), (.int .u8 0), (.int .u8 0), (.int .u8 0), (.int .u8 0), (.int .u8 0), (.int .u8 0), (.int .u8 0), (.int .u8 0), (.int .u8 0), (.int .u8 0), (.int .u8 0), (.int .u8 0), (.int .u8 0), (.int .u8 0), (.int .u8 0), (.int .u8 0), (.int .u8 0), (.int .u8 0), (.int .u8 0), (.int .u8 0), (.int .u8 0), (.int .u8 0), (.int .u8 0), (.int .u8 0), (.int .u8 0), (.int .u8 0), (.int .u8 0), (.int .u8 0), (.int .u8 0), (.int .u8 0), (.int .u8 0), (.int .u8 0), (.int .u8 0), (.int .u8 0), (.int .u8 0), (.int .u8 0), (.int .u8 0), (.int .u8 0), (.int .u8 0), (.int .u8 0), (.int .u8 0), (.int .u8 0), (.int .u8 0), (.int .u8 0), (.int .u8 0), (.int .u8 0), (.int .u8 0), (.int .u8 0), (.int .u8 0), (.int .u8 0), (.int .u8 0), (.int .u8 0), (.int .u8 0), (.int .u8 0), (.int .u8 0), (.int .u8 0), (.int .u8 0), (.int .u8 0), (.int .u8 0), (.int .u8 0), (.int .u8 0), (.int .u8 0), (.int .u8 0), (.int .u8 0), (.int .u8 0), (.int .u8 0), (.int .u8 0), (.int .u8 0), (.int .u8 0), (.int .u8 0), (.int .u8 0), (.int .u8 0), (.int .u8 0), (.int .u8 0), (.int .u8 0), (.int .u8 0), (.int .u8 0), (.int .u8 0), (.int .u8 0), (.int .u8 0), (.int .u8 0), (.int .u8 0), (.int .u8 0), (.int .u8 0), (.int .u8 0), (.int .u8 0), (.int .u8 0), (.int .u8 0), (.int .u8 0), (.int .u8 0), (.int .u8 0), (.int .u8 0), (.int .u8 0), (.int .u8 0), (.int .u8 0), (.int .u8 0), (.int .u32 0), (.int .u8 0), (.int .u8 0), (.int .u8 0), (.int .u8 0), (.int .u8 0), (.int .u8 0), (.int .u8 0), (.int .u8 0), (.int .u8 0), (.int .u8 0), (.int .u8 0), (.int .u8 0), (.int .u8 0), (.int .u8 0), (.int .u8 0), (.int .u8 0), (.int .u8 0), (.int .u8 0), (.int .u8 0), (.int .u8 0), (.int .u8 0), (.int .u8 0), (.int .u8 0), (.int .u8 0), (.int .u8 0), (.int .u8 0), (.int .u8 0), (.int .u8 0), (.int .u8 0), (.int .u8 0), (.int .u8 0), (.int .u8 0), (.int .u8 0), (.int .u8 0), (.int .u8 0), (.int .u8 0), (.int .u8 0), (.int .u8 0), (.int .u8 0), (.int .u8 0), (.int .u8 0), (.int .u8 0), (.int .u8 0), (.int .u8 0), (.int .u8 0), (.int .u8 0), (.int .u8 0), (.int .u8 0), (.int .u8 0), (.int .u8 0), (.int .u8 0), (.int .u8 0), (.int .u8 0), (.int .u8 0), (.int .u8 0), (.int .u8 0), (.int .u8 0), (.int .u8 0), (.int .u8 0), (.int .u8 0), (.int .u8 0), (.int .u8 0), (.int .u8 0), (.int .u8 0), (.int .u8 0), (.int .u8 0), (.int .u8 0), (.int .u8 0), (.int .u8 0), (.int .u8 0), (.int .u8 0), (.int .u8 0), (.int .u8 0), (.int .u8 0), (.int .u8 0), (.int .u8 0), (.int .u8 0), (.int .u8 0), (.int .u8 0), (.int .u8 0), (.int .u8 0), (.int .u8 0), (.int .u8 0), (.int .u8 0), (.int .u8 0), (.int .u8 0), (.int .u8 0), (.int .u8 0), (.int .u8 0), (.int .u8 0), (.int .u8 0), (.int .u8 0), (.int .u8 0), (.int .u8 0), (.int .u8 0), (.int .u8 0), (.int .u8 0), (.int .u8 0), (.int .u8 0), (.int .u8 0), (.int .u8 0), (.int .u8 0), (.int .u8 0), (.int .u8 0), (.int .u8 0), (.int .u8 0), (.int .u8 0), (.int .u8 0), (.int .u8 0), (.int .u8 0), (.int .u8 0), (.int .u8 0), (.int .u8 0), (.int .u8 0), (.int .u8 0), (.int .u8 0), (.int .u8 0), (.int .u8 0), (.int .u8 0), (.int .u8 0), (.int .u8 0), (.int .u8 0), (.int .u8 0), (.int .u8 0), (.int .u8 0), (.int .u8 0), (.int .u8 0), (.int .u8 0), (.int .u32 0)], .slice none 0 0, .int .i64 0, .int .i64 0] 8 rfl (World.shaped_of_RefB (by kernel_rfl) (by kernel_rfl)) (by kernel_rfl) (by kernel_rfl) (by kernel_rfl) (door_chooseNear os _)) ?_
  intro W base args ds gs before hval0 hW _ hsz0 hL _
  have hval : ∀ (j : Nat) t v, Tryd.f6.params[j]? = some t → args[j]? = some v → Value.okWide Tryd.prog W .any base t v := hval0
  have hW' := hW
  obtain ⟨p, q, hA0, hV, rfl, hfz, hnd⟩ := hW
  have hA : DataW.TrodAll enc Tryd.prog W 0 (fun _ => true) true Tryd.f6.params.toList args.toList ds p := hA0
  rw [Tryd.params6] at hA hval
  obtain ⟨v0, v1, v2, v3, d0, d1, d2, d3, p0, p1, p2, p3, rfl, rfl, rfl, h0, h1, h2, h3⟩ := trodAll_four hA
  obtain ⟨rfl, rfl⟩ := trodVars_none hV
  have hK := keys_chooseNear hL
  obtain ⟨q0, rfl, hq0⟩ := okWide_struct Tryd.underlying38 (hval 0 38 v0 rfl rfl)
  obtain ⟨fu0, hf0⟩ := id h0; obtain ⟨y0, hy0, e0⟩ := state_of (th := 23) (e := 5) (tn := 27) (tw := 32) (tr := 30) (tc := 28) (tp := 36) (td := 34) ⟨⟨(by kernel_rfl), (by kernel_rfl), (by kernel_rfl), (by kernel_rfl)⟩, ⟨(by kernel_rfl), (by kernel_rfl), (by kernel_rfl), (by kernel_rfl)⟩, ⟨(by kernel_rfl)⟩, ⟨⟨(by kernel_rfl), (by kernel_rfl), (by kernel_rfl), (by kernel_rfl)⟩, ⟨⟨(by kernel_rfl), (by kernel_rfl), (by kernel_rfl), (by kernel_rfl)⟩, ⟨(by kernel_rfl), ⟨(by kernel_rfl)⟩, (by kernel_rfl), (by kernel_rfl)⟩⟩⟩, ⟨⟨(by kernel_rfl), (by kernel_rfl), (by kernel_rfl), (by kernel_rfl)⟩, ⟨⟨(by kernel_rfl), (by kernel_rfl), (by kernel_rfl), (by kernel_rfl)⟩, ⟨(by kernel_rfl), (by kernel_rfl), (by kernel_rfl), (by kernel_rfl)⟩, ⟨(by kernel_rfl)⟩⟩⟩⟩ hf0
  have hc0 : q0 = y0.cells := agg_eq e0
  obtain ⟨a1, len1, c1, rfl⟩ := okWide_slice Tryd.underlying57 (hval 1 57 v1 rfl rfl)
  obtain ⟨fu1, hf1⟩ := id h1; obtain ⟨ao1, ls1, cap1, e1, hR1, hB1, hlc1, hcm1⟩ := recs_of_trod (t := 57) (e := 38) (f := SState.cells) (Ok := SState.Ok) (sz := 363) SState.size (by decide) (by kernel_rfl) (by kernel_rfl) (fun _ _ _ hy => state_of (th := 23) (e := 5) (tn := 27) (tw := 32) (tr := 30) (tc := 28) (tp := 36) (td := 34) ⟨⟨(by kernel_rfl), (by kernel_rfl), (by kernel_rfl), (by kernel_rfl)⟩, ⟨(by kernel_rfl), (by kernel_rfl), (by kernel_rfl), (by kernel_rfl)⟩, ⟨(by kernel_rfl)⟩, ⟨⟨(by kernel_rfl), (by kernel_rfl), (by kernel_rfl), (by kernel_rfl)⟩, ⟨⟨(by kernel_rfl), (by kernel_rfl), (by kernel_rfl), (by kernel_rfl)⟩, ⟨(by kernel_rfl), ⟨(by kernel_rfl)⟩, (by kernel_rfl), (by kernel_rfl)⟩⟩⟩, ⟨⟨(by kernel_rfl), (by kernel_rfl), (by kernel_rfl), (by kernel_rfl)⟩, ⟨⟨(by kernel_rfl), (by kernel_rfl), (by kernel_rfl), (by kernel_rfl)⟩, ⟨(by kernel_rfl), (by kernel_rfl), (by kernel_rfl), (by kernel_rfl)⟩, ⟨(by kernel_rfl)⟩⟩⟩⟩ hy) hf1
  have hq1 : len1 * 396 ≤ 140737488351232 := by
    have h9 := len_of_trod 1 hsz0 Tryd.underlying57 hf1 (by kernel_rfl) rfl
    have h8 : Tryd.checked.prog.bytesOf 38 = 396 := by kernel_rfl
    rw [h8] at h9; exact h9
  have hql1 : len1 = ls1.length := by
    have h9 := e1
    simp [Value.cells] at h9; exact h9.2.1
  rw [hql1] at hq1
  have e1' : Value.slice a1 len1 c1 = .slice ao1 ls1.length cap1 := by simpa [Value.cells] using e1
  rw [e1'] at hW' h1 ⊢
  obtain ⟨n2, rfl⟩ := okWide_int Tryd.underlying3 (hval 2 3 v2 rfl rfl)
  have hi2 := i64_of_trod (by kernel_rfl) h2
  obtain ⟨n3, rfl⟩ := okWide_int Tryd.underlying3 (hval 3 3 v3 rfl rfl)
  have hi3 := i64_of_trod (by kernel_rfl) h3
  clear hA0 hval0 hval hA
  simp only [List.append_nil] at hW'
  have hlt : ∀ x ∈ p0 ++ p1 ++ p2 ++ p3, x.block < W.heap.size := fun x hx => by simpa using hW'.lt x hx
  have hro : RoA W [(.rd ao1 (RL SState.cells ls1)), (.rd (some ⟨1, 0, none⟩) (hw KL).toList)] := (.cons hR1 (.cons hK .nil))
  have hcall := Does.row (chooseNear_j y0 ao1 cap1 ls1 n2 n3 hy0 hB1 hlc1 (by simp only [maxLen] at hcm1; exact hcm1) hq1 hi2 hi3) hro.out
  rw [← hc0] at hcall
  refine hcall.mono fun e W' ⟨he, hF⟩ => ?_
  subst he
  exact ⟨_, rfl, post_of_fr (pa := p0 ++ (p1 ++ (p2 ++ (p3)))) (pv := []) hW' (fun _ _ _ => trodAll_mk1 (shut_bool Tryd.underlying4 true)) (fun sp hsp => trodAll_mk4 (WideElems.Trod_stays Tryd.laidOut_chooseNear (by kernel_rfl) (of_decide_eq_true (by kernel_rfl)) h0 (fun x hx => hF.below.same (hlt x (by simp [hx]))) (fun x hx => hsp x (by simp [hx]))) (WideElems.Trod_stays Tryd.laidOut_chooseNear (by kernel_rfl) (of_decide_eq_true (by kernel_rfl)) h1 (fun x hx => hF.below.same (hlt x (by simp [hx]))) (fun x hx => hsp x (by simp [hx]))) (WideElems.Trod_stays Tryd.laidOut_chooseNear (by kernel_rfl) (of_decide_eq_true (by kernel_rfl)) h2 (fun x hx => hF.below.same (hlt x (by simp [hx]))) (fun x hx => hsp x (by simp [hx]))) (WideElems.Trod_stays Tryd.laidOut_chooseNear (by kernel_rfl) (of_decide_eq_true (by kernel_rfl)) h3 (fun x hx => hF.below.same (hlt x (by simp [hx]))) (fun x hx => hsp x (by simp [hx])))) (fun _ _ => rfl) (by simp) hF (ok_one (by kernel_rfl) rfl (okWide_bool_mk Tryd.underlying4 true))⟩
theorem chooseNear_j0 : (Rows.chooseNearRow.wf (OpenSpec.ofChange Rows.chooseNearSpec)) = true ∧ (laidOutB Tryd.pinned.checked.prog) = true ∧ (mapsRowed Tryd.pinned.checked.prog) = true ∧ (Tryd.f6.params.all (Tryd.pinned.checked.prog.readableRec ·)) = true ∧ (namedTie Tryd.pinned.checked.prog Rows.chooseNearRow.named Rows.chooseNearSpec.vars) = true ∧ (Rows.chooseNearRow.stops == []) = true ∧ (Tryd.pinned.checked.prog.stops == []) = true ∧ (Rows.chooseNearRow.knobs == []) = true ∧ (Tryd.pinned.checked.prog.stopKnobs == []) = true := ⟨by kernel_rfl, by kernel_rfl, by kernel_rfl, by kernel_rfl, by kernel_rfl, by kernel_rfl, by kernel_rfl, by kernel_rfl, by kernel_rfl⟩
theorem chooseNear_j1 : (Rows.chooseNearRow.inPlace == Tryd.pinned.checked.prog.inPlace 6) = true ∧ (Rows.chooseNearRow.unfollowed == Tryd.pinned.checked.prog.unfollowed 6) = true := ⟨by kernel_rfl, by kernel_rfl⟩
theorem chooseNear_j2 : (Rows.chooseNearRow.recurses == Tryd.pinned.checked.prog.recurses 6) = true ∧ (Rows.chooseNearRow.named == Tryd.pinned.checked.prog.varsNamed 6) = true := ⟨by kernel_rfl, by kernel_rfl⟩
theorem chooseNear_j3 : (Rows.chooseNearRow.maps == (Tryd.f6.params.toList ++ Rows.chooseNearSpec.plain.varTypes Tryd.pinned.checked.prog).any (Tryd.pinned.checked.prog.mapsRec ·)) = true ∧ (Rows.chooseNearRow.ifaces == (Tryd.f6.params.toList ++ Rows.chooseNearSpec.plain.varTypes Tryd.pinned.checked.prog).any (Tryd.pinned.checked.prog.ifacesRec ·)) = true ∧ (Rows.chooseNearRow.mapsOut == Tryd.pinned.checked.prog.mapsAmong Tryd.f6.resultTypes.toList) = true ∧ (Rows.chooseNearRow.loops == (Tryd.f6.params.toList ++ Rows.chooseNearSpec.plain.varTypes Tryd.pinned.checked.prog).any (Tryd.pinned.checked.prog.loopsFrom ·)) = true ∧ (Rows.chooseNearRow.wideKeys == (Tryd.f6.params.toList ++ Rows.chooseNearSpec.plain.varTypes Tryd.pinned.checked.prog ++ Tryd.f6.resultTypes.toList).any (Tryd.pinned.checked.prog.wideKeysFrom ·)) = true := ⟨by kernel_rfl, by kernel_rfl, by kernel_rfl, by kernel_rfl, by kernel_rfl⟩
theorem chooseNear_j4 : (Rows.chooseNearSpec.vars.all (Tryd.pinned.checked.prog.varReadable ·)) = true ∧ (Tryd.f6.resultTypes.all (fun t => Tryd.pinned.checked.prog.readableRec t && decide (t < Tryd.pinned.checked.prog.types.size))) = true ∧ (Rows.chooseNearRow.ifacesOut == Tryd.f6.resultTypes.toList.any (Tryd.pinned.checked.prog.ifacesRec ·)) = true ∧ (Rows.chooseNearRow.loopsOut == Tryd.f6.resultTypes.toList.any (Tryd.pinned.checked.prog.loopsFrom ·)) = true ∧ (Rows.chooseNearRow.plainKeys == Tryd.pinned.checked.prog.plainKeys) = true ∧ (Rows.chooseNearRow.shortTexts.isNone) = true ∧ (Tryd.pinned.checked.prog.stopsHeard) = true ∧ (Tryd.pinned.checked.prog.mayEnter) = true ∧ (Rows.chooseNearRow.lifted == Tryd.pinned.checked.prog.liftsFinal) = true ∧ (Tryd.pinned.checked.prog.make == some Rows.chooseNearRow.make) = true ∧ (Rows.chooseNearRow.kinds == (if Rows.chooseNearRow.domain.isEmpty then [] else Tryd.f6.params.toList.map fun t => match Tryd.pinned.checked.prog.underlying t with | some (.int k) => some k | _ => none)) = true ∧ (Rows.chooseNearRow.pinned == Rows.chooseNearRow.pinnedBy) = true := ⟨by kernel_rfl, by kernel_rfl, by kernel_rfl, by kernel_rfl, by kernel_rfl, by kernel_rfl, by kernel_rfl, by kernel_rfl, by kernel_rfl, by kernel_rfl, by kernel_rfl, by kernel_rfl⟩
theorem chooseNear_j5 : (Rows.chooseNearRow.veiled == (Tryd.f6.params.toList ++ Rows.chooseNearSpec.plain.varTypes Tryd.pinned.checked.prog ++ Tryd.f6.resultTypes.toList).any (Tryd.pinned.checked.prog.veiledRec ·)) = true ∧ (Rows.chooseNearRow.veiledFits Tryd.pinned.checked.prog Tryd.f6.params.toList (Tryd.f6.params.toList ++ Rows.chooseNearSpec.plain.varTypes Tryd.pinned.checked.prog ++ Tryd.f6.resultTypes.toList)) = true := ⟨by kernel_rfl, by kernel_rfl⟩
set_option maxRecDepth 100000 in
theorem chooseNear_jf : joinedFacts Tryd.pinned.checked.prog 6 Tryd.f6 Rows.chooseNearSpec Rows.chooseNearRow = true := (bandI (bandI (bandI (bandI (bandI (bandI (bandI (bandI (bandI (bandI (bandI (bandI (bandI (bandI (bandI (bandI (bandI (bandI (bandI (bandI (bandI (bandI (bandI (bandI (bandI (bandI (bandI (bandI (bandI (bandI (bandI chooseNear_j0.1 chooseNear_j0.2.1) chooseNear_j0.2.2.1) chooseNear_j0.2.2.2.1) chooseNear_j0.2.2.2.2.1) chooseNear_j0.2.2.2.2.2.1) chooseNear_j0.2.2.2.2.2.2.1) chooseNear_j0.2.2.2.2.2.2.2.1) chooseNear_j0.2.2.2.2.2.2.2.2) chooseNear_j1.1) chooseNear_j1.2) chooseNear_j2.1) chooseNear_j2.2) chooseNear_j3.1) chooseNear_j3.2.1) chooseNear_j3.2.2.1) chooseNear_j3.2.2.2.1) chooseNear_j3.2.2.2.2) chooseNear_j4.1) chooseNear_j4.2.1) chooseNear_j4.2.2.1) chooseNear_j4.2.2.2.1) chooseNear_j4.2.2.2.2.1) chooseNear_j4.2.2.2.2.2.1) chooseNear_j4.2.2.2.2.2.2.1) chooseNear_j4.2.2.2.2.2.2.2.1) chooseNear_j4.2.2.2.2.2.2.2.2.1) chooseNear_j4.2.2.2.2.2.2.2.2.2.1) chooseNear_j4.2.2.2.2.2.2.2.2.2.2.1) chooseNear_j4.2.2.2.2.2.2.2.2.2.2.2) chooseNear_j5.1) chooseNear_j5.2)
theorem chooseNear_fn : Tryd.pinned.checked.prog.funcNamed Rows.chooseNearRow.func = some 6 := by kernel_rfl

theorem chooseNear_said : Rows.ChooseNearSaid :=
  OpenClaim.holds_of_wide 6 Tryd.f6 rfl rfl rfl rfl rfl rfl rfl ⟨rfl, rfl, rfl, rfl, rfl⟩ rfl rfl rfl rfl rfl chooseNear_fn Tryd.func6 chooseNear_jf
    (of_decide_eq_true (by kernel_rfl)) (by unfold Func.isWrapper; first | (rw [if_pos (by decide +kernel)]; kernel_rfl) | (rw [if_neg (by decide +kernel)]; exact ⟨rfl, rfl⟩))
    (fun os started H enc _ => chooseNear_lifted os started H enc)
theorem chooseNear_w : Rows.chooseNearRow.wfByText (OpenSpec.ofChange Rows.chooseNearSpec) = true := by kernel_rfl
theorem chooseNear_m : Tryd.pinned.checked.prog.mainIs = some (true, "54eb5fc5aebd434a01a7b09e45412a78bb00e1830260e908c53024f3d8a7de3d".toList) := by kernel_rfl
theorem chooseNear_lk : false = Tryd.pinned.checked.prog.looks [] := by kernel_rfl
theorem chooseNear_g : false = Rows.chooseNearRow.goesBy Tryd.pinned.checked.prog := by kernel_rfl

theorem chooseNear_holds : Rows.ChooseNearCardSaid :=
  Claim7.holds_tied_plain_at .later [] [.data] true (true, "54eb5fc5aebd434a01a7b09e45412a78bb00e1830260e908c53024f3d8a7de3d") false
    chooseNear_said (fun _ h => by cases h) chooseNear_w (fun _ h => by cases h) chooseNear_row_tie rfl ⟨rfl, rfl⟩ chooseNear_m rfl
    (fun f fn hf hfn => by
      obtain rfl : f = 6 := Option.some.inj ((show Tryd.prog.funcNamed "almagest/almagestlaw13.ChooseNear" = some 6 by kernel_rfl).symm.trans hf) |>.symm
      obtain rfl : fn = Tryd.f6 := (Option.some.inj (Tryd.func6.symm.trans hfn)).symm
      refine ⟨chooseNear_lk, fun j t ht => ?_⟩
      rw [Tryd.params6] at ht
      rcases j with _ | j
      · obtain rfl : t = 38 := by simpa using ht.symm
        exact (show Tryd.prog.wantsStandIn 38 = false by kernel_rfl)
      · rcases j with _ | j
        · obtain rfl : t = 57 := by simpa using ht.symm
          exact (show Tryd.prog.wantsStandIn 57 = false by kernel_rfl)
        · rcases j with _ | j
          · obtain rfl : t = 3 := by simpa using ht.symm
            exact (show Tryd.prog.wantsStandIn 3 = false by kernel_rfl)
          · rcases j with _ | j
            · obtain rfl : t = 3 := by simpa using ht.symm
              exact (show Tryd.prog.wantsStandIn 3 = false by kernel_rfl)
            · simp at ht)
    chooseNear_g
end Go.Proofs.YtinmmamnldephaaDoor
