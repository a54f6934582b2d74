/- The card of AccountBack: whatever the input is, the law returns true and leaves all as it was; the listed variables hold what the program's text lays. -/
import Derived.Test.YtboggbknebepdaaDoorRows
import Derived.Test.YtboggbknebepdaaDoorCards
import Derived.Test.YtboggbknebepdaaDoorTie
import Derived.Test.YtboggbknebepdaaDoorU2
import Derived.Test.YtboggbknebepdaaDoorAcctT
import Derived.Test.YtboggbknebepdaaDoorReadT
import Derived.Test.YtboggbknebepdaaDoorLaid
import Derived.ProofKit
import Derived.LaidMore
import Derived.OpenShut
import Derived.Stop.Joined
import Derived.SevenTiedAt
namespace Go.Proofs.YtboggbknebepdaaDoor
open Go Go.ChangeShapes Go.WideShapes Go.ChangeAt Go.RowKit Go.Alm

theorem Tryd.own_accountBack : ownKnob Tryd.prog.godebug = none := by kernel_rfl
theorem Tryd.laidOut_accountBack : laidOutB Tryd.prog = true := by kernel_rfl
def laid_accountBack {H : Type} : List (String × DataW H) := [("almagest/almagestref02.k", Rows.laid_almagest_almagestref02_k), ("almagest/sha.keys", Rows.laid_almagest_sha_keys)]
theorem door_accountBack (os : Os) (args : Array Value) : laidMetH Tryd.prog laid_accountBack ((World.doorLaid Tryd.prog 4000 os).forCall (fun _ _ => 0) ⟨#[], args, []⟩).memory :=
  laidMetH_of_parts3 (fuel := 8) (laidMet_of_run' 8 (by kernel_rfl) (by kernel_rfl)) (by kernel_rfl) (by kernel_rfl)
theorem keys_accountBack {W : World} (h : laidMetH Tryd.prog laid_accountBack W) : Rd W (some ⟨0, 0, none⟩) (hw KL).toList ∧ Rd W (some ⟨1, 0, none⟩) (hw KL).toList := by
  rw [MakeChecks.laidMetH_plain _ _ _ (by kernel_rfl)] at h
  obtain ⟨ps, ⟨g0, t0, cs0, f0, p0, q0, hg0, ht0, hv0, hd0, ⟨g1, t1, cs1, f1, p1, q1, hg1, ht1, hv1, hd1, _, _⟩, _⟩, _, _⟩ := h
  obtain rfl := Option.some.inj ((show Tryd.prog.globalNamed "almagest/almagestref02.k" = some 0 by kernel_rfl).symm.trans hg0)
  obtain rfl := Option.some.inj ((show (Tryd.prog.globals[0]?).map (·.type) = some 103 by kernel_rfl).symm.trans ht0)
  obtain rfl := Option.some.inj ((show Tryd.prog.globalNamed "almagest/sha.keys" = some 1 by kernel_rfl).symm.trans hg1)
  obtain rfl := Option.some.inj ((show (Tryd.prog.globals[1]?).map (·.type) = some 103 by kernel_rfl).symm.trans ht1)
  exact ⟨keys_of_laid (e := 58) hg0 hv0 (by kernel_rfl) (by kernel_rfl) (by kernel_rfl) hd0 (by kernel_rfl), keys_of_laid (e := 58) hg1 hv1 (by kernel_rfl) (by kernel_rfl) (by kernel_rfl) hd1 (by kernel_rfl)⟩

set_option maxRecDepth 100000 in
theorem accountBack_lifted (os : Os) (started : os.Started) (H : Type) (enc : TypeId × Value → H) :
    ReturnsInHanded {} Tryd.checked os 10 .any (fun w args => (Rows.accountBackSpec.pre enc Tryd.prog Tryd.f10 [] false w args ∧ laidMetH Tryd.prog laid_accountBack w) ∧ sizedMet enc Tryd.prog Tryd.f10 (OpenSpec.ofChange Rows.accountBackSpec) false w args)
      (Rows.accountBackSpec.post enc Tryd.prog Tryd.f10 false true false false) := by
  refine returnsInHanded_of_change_and (C := Tryd.checked) (X := fun w _ => laidMetH Tryd.prog laid_accountBack w) (fun _ _ _ hh h => h.of_heap hh) Tryd.own_accountBack started (by kernel_rfl) Tryd.func10
    (ChangeSpec.witness_shaped (enc := enc) (C := Tryd.checked) (os := os) (X := fun w _ => laidMetH Tryd.prog laid_accountBack w) false (World.doorLaid Tryd.prog 4000 os) #[.agg #[(.string (⟨#[]⟩ : ByteArray)), (.int .u64 0), (.int .u32 0)], .agg #[(.string (⟨#[]⟩ : ByteArray)), (.int .u64 0), (.int .u32 0)], .slice none 0 0] 8 rfl (World.shaped_of_RefB (by kernel_rfl) (by kernel_rfl)) (by kernel_rfl) (by kernel_rfl) (by kernel_rfl) (door_accountBack os _)) ?_
  intro W base args ds gs before hval0 hW _ _ hL _
  have hval : ∀ (j : Nat) t v, Tryd.f10.params[j]? = some t → args[j]? = some v → Value.okWide Tryd.prog W .any base t v := hval0
  have hW' := hW
  obtain ⟨p, q, hA0, hV, rfl, hfz, hnd⟩ := hW
  have hA : DataW.TrodAll enc Tryd.prog W 0 (fun _ => true) true Tryd.f10.params.toList args.toList ds p := hA0
  rw [Tryd.params10] at hA hval
  obtain ⟨v0, v1, v2, d0, d1, d2, p0, p1, p2, rfl, rfl, rfl, h0, h1, h2⟩ := trodAll_three hA
  obtain ⟨rfl, rfl⟩ := trodVars_none hV
  have hK := keys_accountBack hL
  obtain ⟨q0, rfl, hq0⟩ := okWide_struct Tryd.underlying60 (hval 0 60 v0 rfl rfl)
  obtain ⟨fu0, hf0⟩ := id h0; obtain ⟨y0, e0, hy0⟩ := acct_of_trod (e := 60) (fs := Tryd.prog.fieldsOf 60) (ts := 9) (tu := 34) (tn := 58) (by kernel_rfl) (by kernel_rfl) (by kernel_rfl) (by kernel_rfl) (by kernel_rfl) (by kernel_rfl) (by kernel_rfl) (by kernel_rfl) (by kernel_rfl) hf0
  obtain rfl : q0 = y0.cells := Array.toList_inj.1 (by simpa [Value.cells] using e0)
  obtain ⟨q1, rfl, hq1⟩ := okWide_struct Tryd.underlying60 (hval 1 60 v1 rfl rfl)
  obtain ⟨fu1, hf1⟩ := id h1; obtain ⟨y1, e1, hy1⟩ := acct_of_trod (e := 60) (fs := Tryd.prog.fieldsOf 60) (ts := 9) (tu := 34) (tn := 58) (by kernel_rfl) (by kernel_rfl) (by kernel_rfl) (by kernel_rfl) (by kernel_rfl) (by kernel_rfl) (by kernel_rfl) (by kernel_rfl) (by kernel_rfl) hf1
  obtain rfl : q1 = y1.cells := Array.toList_inj.1 (by simpa [Value.cells] using e1)
  obtain ⟨a2, len2, c2, rfl⟩ := okWide_slice Tryd.underlying22 (hval 2 22 v2 rfl rfl)
  obtain ⟨fu2, hf2⟩ := id h2; obtain ⟨ao2, l2, cap2, e2, hR2, hB2, hlc2, hcm2⟩ := bytes_of_trod (t := 22) (e := 5) (by kernel_rfl) (by kernel_rfl) (by kernel_rfl) hf2
  have e2' : Value.slice a2 len2 c2 = .slice ao2 l2.length cap2 := by simpa [Value.cells] using e2
  rw [e2'] at hW' h2 ⊢
  clear hA0 hval0 hval hA
  simp only [List.append_nil] at hW'
  have hlt : ∀ x ∈ p0 ++ p1 ++ p2, x.block < W.heap.size := fun x hx => by simpa using hW'.lt x hx
  refine (accountBack_c y0.s y0.bal y0.non y1.s y1.bal y1.non ao2 cap2 l2 W hR2 hK.1 hK.2 hy0.s hy0.bal hy0.non hy1.s hy1.bal hy1.non hB2 hlc2).mono fun e W' ⟨he, hF⟩ => ?_
  subst he
  exact ⟨_, rfl, post_of_fr (pa := p0 ++ (p1 ++ (p2))) (pv := []) hW' (fun _ _ _ => trodAll_mk1 (shut_bool Tryd.underlying4 true)) (fun sp hsp => trodAll_mk3 (WideElems.Trod_stays Tryd.laidOut_accountBack (by kernel_rfl) (of_decide_eq_true (by kernel_rfl)) h0 (fun x hx => hF.below.same (hlt x (by simp [hx]))) (fun x hx => hsp x (by simp [hx]))) (WideElems.Trod_stays Tryd.laidOut_accountBack (by kernel_rfl) (of_decide_eq_true (by kernel_rfl)) h1 (fun x hx => hF.below.same (hlt x (by simp [hx]))) (fun x hx => hsp x (by simp [hx]))) (WideElems.Trod_stays Tryd.laidOut_accountBack (by kernel_rfl) (of_decide_eq_true (by kernel_rfl)) h2 (fun x hx => hF.below.same (hlt x (by simp [hx]))) (fun x hx => hsp x (by simp [hx])))) (fun _ _ => rfl) (by simp) hF (ok_one (by kernel_rfl) rfl (okWide_bool_mk Tryd.underlying4 true))⟩

theorem accountBack_said : Rows.AccountBackSaid :=
  OpenClaim.holds_of_wide 10 Tryd.f10 rfl rfl rfl rfl rfl rfl rfl ⟨rfl, rfl, rfl, rfl, rfl⟩ rfl rfl rfl rfl rfl (by kernel_rfl) Tryd.func10 (by kernel_rfl)
    (of_decide_eq_true (by kernel_rfl)) (by unfold Func.isWrapper; first | (rw [if_pos (by decide +kernel)]; kernel_rfl) | (rw [if_neg (by decide +kernel)]; exact ⟨rfl, rfl⟩))
    (fun os started H enc _ => accountBack_lifted os started H enc)

theorem accountBack_holds : Rows.AccountBackCardSaid :=
  Claim7.holds_tied_plain_at .later [] [.data, .data] true (true, "389940ed73bb70316a318b8a961dd28f29c1155ace7b03e8468f291d330ded09") false
    accountBack_said (fun _ h => by cases h) (by kernel_rfl) (fun _ h => by cases h) accountBack_row_tie rfl ⟨rfl, rfl⟩ (by kernel_rfl) rfl
    (fun f fn hf hfn => by
      obtain rfl : f = 10 := Option.some.inj ((show Tryd.prog.funcNamed "almagest/almagestlaw14.AccountBack" = some 10 by kernel_rfl).symm.trans hf) |>.symm
      obtain rfl : fn = Tryd.f10 := (Option.some.inj (Tryd.func10.symm.trans hfn)).symm
      refine ⟨by kernel_rfl, fun j t ht => ?_⟩
      rw [Tryd.params10] at ht
      rcases j with _ | j
      · obtain rfl : t = 60 := by simpa using ht.symm
        exact (show Tryd.prog.wantsStandIn 60 = false by kernel_rfl)
      · rcases j with _ | j
        · obtain rfl : t = 60 := by simpa using ht.symm
          exact (show Tryd.prog.wantsStandIn 60 = false by kernel_rfl)
        · rcases j with _ | j
          · obtain rfl : t = 22 := by simpa using ht.symm
            exact (show Tryd.prog.wantsStandIn 22 = false by kernel_rfl)
          · simp at ht)
    (by kernel_rfl)
end Go.Proofs.YtboggbknebepdaaDoor
