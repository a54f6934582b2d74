/- The card of OrderIs: whatever the input is, the law returns true and leaves all as it was; the listed variables hold what the program's text lays. -/
import Derived.Test.YtmnehhpfbmoahaaDoorRows
import Derived.Test.YtmnehhpfbmoahaaDoorCards
import Derived.Test.YtmnehhpfbmoahaaDoorTie
import Derived.Test.YtmnehhpfbmoahaaDoorL12
import Derived.Test.YtmnehhpfbmoahaaDoorLib4
import Derived.ProofKit
import Derived.LaidMore
import Derived.OpenShut
import Derived.Stop.Joined
import Derived.SevenTiedAt
namespace Go.Proofs.YtmnehhpfbmoahaaDoor
open Go Go.ChangeShapes Go.WideShapes Go.ChangeAt Go.RowKit Go.Alm

theorem Tryd.own_orderIs : ownKnob Tryd.prog.godebug = none := by kernel_rfl
theorem Tryd.laidOut_orderIs : laidOutB Tryd.prog = true := by kernel_rfl
def laid_orderIs {H : Type} : List (String × DataW H) := [("almagest/sha.keys", Rows.laid_almagest_sha_keys)]
theorem door_orderIs (os : Os) (args : Array Value) : laidMetH Tryd.prog laid_orderIs ((World.doorLaid Tryd.prog 4000 os).forCall (fun _ _ => 0) ⟨#[], args, []⟩).memory :=
  laidMetH_of_parts3 (fuel := 8) (laidMet_of_run' 8 (by kernel_rfl) (by kernel_rfl)) (by kernel_rfl) (by kernel_rfl)
theorem keys_orderIs {W : World} (h : laidMetH Tryd.prog laid_orderIs W) : Rd W (some ⟨1, 0, none⟩) (hw KL).toList := by
  rw [MakeChecks.laidMetH_plain _ _ _ (by kernel_rfl)] at h
  obtain ⟨ps, ⟨g0, t0, cs0, f0, p0, q0, hg0, ht0, hv0, hd0, _, _⟩, _, _⟩ := h
  obtain rfl := Option.some.inj ((show Tryd.prog.globalNamed "almagest/sha.keys" = some 1 by kernel_rfl).symm.trans hg0)
  obtain rfl := Option.some.inj ((show (Tryd.prog.globals[1]?).map (·.type) = some 271 by kernel_rfl).symm.trans ht0)
  exact keys_of_laid (e := 24) hg0 hv0 (by kernel_rfl) (by kernel_rfl) (by kernel_rfl) hd0 (by kernel_rfl)

set_option maxRecDepth 100000 in
theorem orderIs_lifted (os : Os) (started : os.Started) (H : Type) (enc : TypeId × Value → H) :
    ReturnsInHanded {} Tryd.checked os 12 .any (fun w args => (Rows.orderIsSpec.pre enc Tryd.prog Tryd.f12 [] false w args ∧ laidMetH Tryd.prog laid_orderIs w) ∧ sizedMet enc Tryd.prog Tryd.f12 (OpenSpec.ofChange Rows.orderIsSpec) false w args)
      (Rows.orderIsSpec.post enc Tryd.prog Tryd.f12 false true false false) := by
  refine returnsInHanded_of_change_and (C := Tryd.checked) (X := fun w _ => laidMetH Tryd.prog laid_orderIs w) (fun _ _ _ hh h => h.of_heap hh) Tryd.own_orderIs started (by kernel_rfl) Tryd.func12
    (ChangeSpec.witness_shaped (enc := enc) (C := Tryd.checked) (os := os) (X := fun w _ => laidMetH Tryd.prog laid_orderIs w) false (World.doorLaid Tryd.prog 4000 os) #[.agg #[(.int .u32 0), (.int .u8 0), (.int .u8 0), (.int .u8 0), (.int .u8 0), (.int .u8 0), (.int .u8 0), (.int .u8 0), (.int .u8 0), (.int .u8 0), (.int .u8 0), (.int .u8 0), (.int .u8 0), (.int .u8 0), (.int .u8 0), (.int .u8 0), (.int .u8 0), (.int .u8 0), (.int .u8 0), (.int .u8 0), (.int .u8 0), (.int .u8 0), (.int .u8 0), (.int .u8 0), (.int .u8 0), (.int .u8 0), (.int .u8 0), (.int .u8 0), (.int .u8 0), (.int .u8 0), (.int .u8 0), (.int .u8 0), (.int .u8 0), (.int .u8 0), (.int .u8 0), (.int .u8 0), (.int .u8 0), (.int .u8 0), (.int .u8 0), (.int .u8 0), (.int .u8 0), (.int .u8 0), (.int .u8 0), (.int .u8 0), (.int .u8 0), (.int .u8 0), (.int .u8 0), (.int .u8 0), (.int .u8 0), (.int .u8 0), (.int .u8 0), (.int .u8 0), (.int .u8 0), (.int .u8 0), (.int .u8 0), (.int .u8 0), (.int .u8 0), (.int .u8 0), (.int .u8 0), (.int .u8 0), (.int .u8 0), (.int .u8 0), (.int .u8 0), (.int .u8 0), (.int .u8 0)], .agg #[(.int .u32 0), (.int .u8 0), (.int .u8 0), (.int .u8 0), (.int .u8 0), (.int .u8 0), (.int .u8 0), (.int .u8 0), (.int .u8 0), (.int .u8 0), (.int .u8 0), (.int .u8 0), (.int .u8 0), (.int .u8 0), (.int .u8 0), (.int .u8 0), (.int .u8 0), (.int .u8 0), (.int .u8 0), (.int .u8 0), (.int .u8 0), (.int .u8 0), (.int .u8 0), (.int .u8 0), (.int .u8 0), (.int .u8 0), (.int .u8 0), (.int .u8 0), (.int .u8 0), (.int .u8 0), (.int .u8 0), (.int .u8 0), (.int .u8 0), (.int .u8 0), (.int .u8 0), (.int .u8 0), (.int .u8 0), (.int .u8 0), (.int .u8 0), (.int .u8 0), (.int .u8 0), (.int .u8 0), (.int .u8 0), (.int .u8 0), (.int .u8 0), (.int .u8 0), (.int .u8 0), (.int .u8 0), (.int .u8 0), (.int .u8 0), (.int .u8 0), (.int .u8 0), (.int .u8 0), (.int .u8 0), (.int .u8 0), (.int .u8 0), (.int .u8 0), (.int .u8 0), (.int .u8 0), (.int .u8 0), (.int .u8 0), (.int .u8 0), (.int .u8 0), (.int .u8 0), (.int .u8 0)], .agg #[(.int .u32 0), (.int .u8 0), (.int .u8 0), (.int .u8 0), (.int .u8 0), (.int .u8 0), (.int .u8 0), (.int .u8 0), (.int .u8 0), (.int .u8 0), (.int .u8 0), (.int .u8 0), (.int .u8 0), (.int .u8 0), (.int .u8 0), (.int .u8 0), (.int .u8 0), (.int .u8 0), (.int .u8 0), (.int .u8 0), (.int .u8 0), (.int .u8 0), (.int .u8 0), (.int .u8 0), (.int .u8 0), (.int .u8 0), (.int .u8 0), (.int .u8 0), (.int .u8 0), (.int .u8 0), (.int .u8 0), (.int .u8 0), (.int .u8 0), (.int .u8 0), (.int .u8 0), (.int .u8 0), (.int .u8 0), (.int .u8 0), (.int .u8 0), (.int .u8 0), (.int .u8 0), (.int .u8 0), (.int .u8 0), (.int .u8 0), (.int .u8 0), (.int .u8 0), (.int .u8 0), (.int .u8 0), (.int .u8 0), (.int .u8 0), (.int .u8 0), (.int .u8 0), (.int .u8 0), (.int .u8 0), (.int .u8 0), (.int .u8 0), (.int .u8 0), (.int .u8 0), (.int .u8 0), (.int .u8 0), (.int .u8 0), (.int .u8 0), (.int .u8 0), (.int .u8 0), (.int .u8 0)]] 8 rfl (World.shaped_of_RefB (by kernel_rfl) (by kernel_rfl)) (by kernel_rfl) (by kernel_rfl) (by kernel_rfl) (door_orderIs os _)) ?_
  intro W base args ds gs before hval0 hW _ _ hL _
  have hval : ∀ (j : Nat) t v, Tryd.f12.params[j]? = some t → args[j]? = some v → Value.okWide Tryd.prog W .any base t v := hval0
  have hW' := hW
  obtain ⟨p, q, hA0, hV, rfl, hfz, hnd⟩ := hW
  have hA : DataW.TrodAll enc Tryd.prog W 0 (fun _ => true) true Tryd.f12.params.toList args.toList ds p := hA0
  rw [Tryd.params12] at hA hval
  obtain ⟨v0, v1, v2, d0, d1, d2, p0, p1, p2, rfl, rfl, rfl, h0, h1, h2⟩ := trodAll_three hA
  obtain ⟨rfl, rfl⟩ := trodVars_none hV
  have hK := keys_orderIs hL
  obtain ⟨q0, rfl, hq0⟩ := okWide_struct Tryd.underlying103 (hval 0 103 v0 rfl rfl)
  obtain ⟨fu0, hf0⟩ := id h0; obtain ⟨y0, hy0, e0⟩ := key_of (th := 23) (e := 5) (tn := 24) ⟨⟨(by kernel_rfl), (by kernel_rfl), (by kernel_rfl), (by kernel_rfl)⟩, ⟨(by kernel_rfl), (by kernel_rfl), (by kernel_rfl), (by kernel_rfl)⟩, ⟨(by kernel_rfl)⟩⟩ hf0
  have hc0 : q0 = y0.cells := agg_eq e0
  obtain ⟨q1, rfl, hq1⟩ := okWide_struct Tryd.underlying103 (hval 1 103 v1 rfl rfl)
  obtain ⟨fu1, hf1⟩ := id h1; obtain ⟨y1, hy1, e1⟩ := key_of (th := 23) (e := 5) (tn := 24) ⟨⟨(by kernel_rfl), (by kernel_rfl), (by kernel_rfl), (by kernel_rfl)⟩, ⟨(by kernel_rfl), (by kernel_rfl), (by kernel_rfl), (by kernel_rfl)⟩, ⟨(by kernel_rfl)⟩⟩ hf1
  have hc1 : q1 = y1.cells := agg_eq e1
  obtain ⟨q2, rfl, hq2⟩ := okWide_struct Tryd.underlying103 (hval 2 103 v2 rfl rfl)
  obtain ⟨fu2, hf2⟩ := id h2; obtain ⟨y2, hy2, e2⟩ := key_of (th := 23) (e := 5) (tn := 24) ⟨⟨(by kernel_rfl), (by kernel_rfl), (by kernel_rfl), (by kernel_rfl)⟩, ⟨(by kernel_rfl), (by kernel_rfl), (by kernel_rfl), (by kernel_rfl)⟩, ⟨(by kernel_rfl)⟩⟩ hf2
  have hc2 : q2 = y2.cells := agg_eq e2
  clear hA0 hval0 hval hA
  simp only [List.append_nil] at hW'
  have hlt : ∀ x ∈ p0 ++ p1 ++ p2, x.block < W.heap.size := fun x hx => by simpa using hW'.lt x hx
  have hro : RoA W [(.rd (some ⟨1, 0, none⟩) (hw KL).toList)] := (.cons hK .nil)
  have hcall := Does.row (orderIs_j y0 y1 y2 hy0 hy1 hy2) hro.out
  rw [← hc0, ← hc1, ← hc2] at hcall
  refine hcall.mono fun e W' ⟨he, hF⟩ => ?_
  subst he
  exact ⟨_, rfl, post_of_fr (pa := p0 ++ (p1 ++ (p2))) (pv := []) hW' (fun _ _ _ => trodAll_mk1 (shut_bool Tryd.underlying4 true)) (fun sp hsp => trodAll_mk3 (WideElems.Trod_stays Tryd.laidOut_orderIs (by kernel_rfl) (of_decide_eq_true (by kernel_rfl)) h0 (fun x hx => hF.below.same (hlt x (by simp [hx]))) (fun x hx => hsp x (by simp [hx]))) (WideElems.Trod_stays Tryd.laidOut_orderIs (by kernel_rfl) (of_decide_eq_true (by kernel_rfl)) h1 (fun x hx => hF.below.same (hlt x (by simp [hx]))) (fun x hx => hsp x (by simp [hx]))) (WideElems.Trod_stays Tryd.laidOut_orderIs (by kernel_rfl) (of_decide_eq_true (by kernel_rfl)) h2 (fun x hx => hF.below.same (hlt x (by simp [hx]))) (fun x hx => hsp x (by simp [hx])))) (fun _ _ => rfl) (by simp) hF (ok_one (by kernel_rfl) rfl (okWide_bool_mk Tryd.underlying4 true))⟩
theorem orderIs_j0 : (Rows.orderIsRow.wf (OpenSpec.ofChange Rows.orderIsSpec)) = true ∧ (laidOutB Tryd.pinned.checked.prog) = true ∧ (mapsRowed Tryd.pinned.checked.prog) = true ∧ (Tryd.f12.params.all (Tryd.pinned.checked.prog.readableRec ·)) = true ∧ (namedTie Tryd.pinned.checked.prog Rows.orderIsRow.named Rows.orderIsSpec.vars) = true ∧ (Rows.orderIsRow.stops == []) = true ∧ (Tryd.pinned.checked.prog.stops == []) = true ∧ (Rows.orderIsRow.knobs == []) = true ∧ (Tryd.pinned.checked.prog.stopKnobs == []) = true := ⟨by kernel_rfl, by kernel_rfl, by kernel_rfl, by kernel_rfl, by kernel_rfl, by kernel_rfl, by kernel_rfl, by kernel_rfl, by kernel_rfl⟩
theorem orderIs_j1 : (Rows.orderIsRow.inPlace == Tryd.pinned.checked.prog.inPlace 12) = true ∧ (Rows.orderIsRow.unfollowed == Tryd.pinned.checked.prog.unfollowed 12) = true := ⟨by kernel_rfl, by kernel_rfl⟩
theorem orderIs_j2 : (Rows.orderIsRow.recurses == Tryd.pinned.checked.prog.recurses 12) = true ∧ (Rows.orderIsRow.named == Tryd.pinned.checked.prog.varsNamed 12) = true := ⟨by kernel_rfl, by kernel_rfl⟩
theorem orderIs_j3 : (Rows.orderIsRow.maps == (Tryd.f12.params.toList ++ Rows.orderIsSpec.plain.varTypes Tryd.pinned.checked.prog).any (Tryd.pinned.checked.prog.mapsRec ·)) = true ∧ (Rows.orderIsRow.ifaces == (Tryd.f12.params.toList ++ Rows.orderIsSpec.plain.varTypes Tryd.pinned.checked.prog).any (Tryd.pinned.checked.prog.ifacesRec ·)) = true ∧ (Rows.orderIsRow.mapsOut == Tryd.pinned.checked.prog.mapsAmong Tryd.f12.resultTypes.toList) = true ∧ (Rows.orderIsRow.loops == (Tryd.f12.params.toList ++ Rows.orderIsSpec.plain.varTypes Tryd.pinned.checked.prog).any (Tryd.pinned.checked.prog.loopsFrom ·)) = true ∧ (Rows.orderIsRow.wideKeys == (Tryd.f12.params.toList ++ Rows.orderIsSpec.plain.varTypes Tryd.pinned.checked.prog ++ Tryd.f12.resultTypes.toList).any (Tryd.pinned.checked.prog.wideKeysFrom ·)) = true := ⟨by kernel_rfl, by kernel_rfl, by kernel_rfl, by kernel_rfl, by kernel_rfl⟩
theorem orderIs_j4 : (Rows.orderIsSpec.vars.all (Tryd.pinned.checked.prog.varReadable ·)) = true ∧ (Tryd.f12.resultTypes.all (fun t => Tryd.pinned.checked.prog.readableRec t && decide (t < Tryd.pinned.checked.prog.types.size))) = true ∧ (Rows.orderIsRow.ifacesOut == Tryd.f12.resultTypes.toList.any (Tryd.pinned.checked.prog.ifacesRec ·)) = true ∧ (Rows.orderIsRow.loopsOut == Tryd.f12.resultTypes.toList.any (Tryd.pinned.checked.prog.loopsFrom ·)) = true ∧ (Rows.orderIsRow.plainKeys == Tryd.pinned.checked.prog.plainKeys) = true ∧ (Rows.orderIsRow.shortTexts.isNone) = true ∧ (Tryd.pinned.checked.prog.stopsHeard) = true ∧ (Tryd.pinned.checked.prog.mayEnter) = true ∧ (Rows.orderIsRow.lifted == Tryd.pinned.checked.prog.liftsFinal) = true ∧ (Tryd.pinned.checked.prog.make == some Rows.orderIsRow.make) = true ∧ (Rows.orderIsRow.kinds == (if Rows.orderIsRow.domain.isEmpty then [] else Tryd.f12.params.toList.map fun t => match Tryd.pinned.checked.prog.underlying t with | some (.int k) => some k | _ => none)) = true ∧ (Rows.orderIsRow.pinned == Rows.orderIsRow.pinnedBy) = true := ⟨by kernel_rfl, by kernel_rfl, by kernel_rfl, by kernel_rfl, by kernel_rfl, by kernel_rfl, by kernel_rfl, by kernel_rfl, by kernel_rfl, by kernel_rfl, by kernel_rfl, by kernel_rfl⟩
theorem orderIs_j5 : (Rows.orderIsRow.veiled == (Tryd.f12.params.toList ++ Rows.orderIsSpec.plain.varTypes Tryd.pinned.checked.prog ++ Tryd.f12.resultTypes.toList).any (Tryd.pinned.checked.prog.veiledRec ·)) = true ∧ (Rows.orderIsRow.veiledFits Tryd.pinned.checked.prog Tryd.f12.params.toList (Tryd.f12.params.toList ++ Rows.orderIsSpec.plain.varTypes Tryd.pinned.checked.prog ++ Tryd.f12.resultTypes.toList)) = true := ⟨by kernel_rfl, by kernel_rfl⟩
set_option maxRecDepth 100000 in
theorem orderIs_jf : joinedFacts Tryd.pinned.checked.prog 12 Tryd.f12 Rows.orderIsSpec Rows.orderIsRow = true := (bandI (bandI (bandI (bandI (bandI (bandI (bandI (bandI (bandI (bandI (bandI (bandI (bandI (bandI (bandI (bandI (bandI (bandI (bandI (bandI (bandI (bandI (bandI (bandI (bandI (bandI (bandI (bandI (bandI (bandI (bandI orderIs_j0.1 orderIs_j0.2.1) orderIs_j0.2.2.1) orderIs_j0.2.2.2.1) orderIs_j0.2.2.2.2.1) orderIs_j0.2.2.2.2.2.1) orderIs_j0.2.2.2.2.2.2.1) orderIs_j0.2.2.2.2.2.2.2.1) orderIs_j0.2.2.2.2.2.2.2.2) orderIs_j1.1) orderIs_j1.2) orderIs_j2.1) orderIs_j2.2) orderIs_j3.1) orderIs_j3.2.1) orderIs_j3.2.2.1) orderIs_j3.2.2.2.1) orderIs_j3.2.2.2.2) orderIs_j4.1) orderIs_j4.2.1) orderIs_j4.2.2.1) orderIs_j4.2.2.2.1) orderIs_j4.2.2.2.2.1) orderIs_j4.2.2.2.2.2.1) orderIs_j4.2.2.2.2.2.2.1) orderIs_j4.2.2.2.2.2.2.2.1) orderIs_j4.2.2.2.2.2.2.2.2.1) orderIs_j4.2.2.2.2.2.2.2.2.2.1) orderIs_j4.2.2.2.2.2.2.2.2.2.2.1) orderIs_j4.2.2.2.2.2.2.2.2.2.2.2) orderIs_j5.1) orderIs_j5.2)
theorem orderIs_fn : Tryd.pinned.checked.prog.funcNamed Rows.orderIsRow.func = some 12 := by kernel_rfl

theorem orderIs_said : Rows.OrderIsSaid :=
  OpenClaim.holds_of_wide 12 Tryd.f12 rfl rfl rfl rfl rfl rfl rfl ⟨rfl, rfl, rfl, rfl, rfl⟩ rfl rfl rfl rfl rfl orderIs_fn Tryd.func12 orderIs_jf
    (of_decide_eq_true (by kernel_rfl)) (by unfold Func.isWrapper; first | (rw [if_pos (by decide +kernel)]; kernel_rfl) | (rw [if_neg (by decide +kernel)]; exact ⟨rfl, rfl⟩))
    (fun os started H enc _ => orderIs_lifted os started H enc)
theorem orderIs_w : Rows.orderIsRow.wfByText (OpenSpec.ofChange Rows.orderIsSpec) = true := by kernel_rfl
theorem orderIs_m : Tryd.pinned.checked.prog.mainIs = some (true, "b6a4ea6cb61e0d01f3dbd37aed29265e33fd8127019479cf5f040513dfc5b12c".toList) := by kernel_rfl
theorem orderIs_lk : false = Tryd.pinned.checked.prog.looks [] := by kernel_rfl
theorem orderIs_g : false = Rows.orderIsRow.goesBy Tryd.pinned.checked.prog := by kernel_rfl

theorem orderIs_holds : Rows.OrderIsCardSaid :=
  Claim7.holds_tied_plain_at .later [] [.data] true (true, "b6a4ea6cb61e0d01f3dbd37aed29265e33fd8127019479cf5f040513dfc5b12c") false
    orderIs_said (fun _ h => by cases h) orderIs_w (fun _ h => by cases h) orderIs_row_tie rfl ⟨rfl, rfl⟩ orderIs_m rfl
    (fun f fn hf hfn => by
      obtain rfl : f = 12 := Option.some.inj ((show Tryd.prog.funcNamed "almagest/almagestlaw12.OrderIs" = some 12 by kernel_rfl).symm.trans hf) |>.symm
      obtain rfl : fn = Tryd.f12 := (Option.some.inj (Tryd.func12.symm.trans hfn)).symm
      refine ⟨orderIs_lk, fun j t ht => ?_⟩
      rw [Tryd.params12] at ht
      rcases j with _ | j
      · obtain rfl : t = 103 := by simpa using ht.symm
        exact (show Tryd.prog.wantsStandIn 103 = false by kernel_rfl)
      · rcases j with _ | j
        · obtain rfl : t = 103 := by simpa using ht.symm
          exact (show Tryd.prog.wantsStandIn 103 = false by kernel_rfl)
        · rcases j with _ | j
          · obtain rfl : t = 103 := by simpa using ht.symm
            exact (show Tryd.prog.wantsStandIn 103 = false by kernel_rfl)
          · simp at ht)
    orderIs_g
end Go.Proofs.YtmnehhpfbmoahaaDoor
