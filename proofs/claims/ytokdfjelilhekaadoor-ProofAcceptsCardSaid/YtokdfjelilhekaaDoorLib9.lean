/- Plain lemmas and laws of the machine that the walks use; without conditions of their own. -/
import Derived.Test.YtokdfjelilhekaaDoorLib8
import Derived.Test.YtokdfjelilhekaaDoorLib7
import Derived.Test.YtokdfjelilhekaaDoorLib6
import Derived.Test.YtokdfjelilhekaaDoorLib3
import Derived.Test.YtokdfjelilhekaaDoorLib2
/- Layers 10 and 11, plainly: children, chains, and lines. -/
namespace Go.Alm
open Go Go.RowKit
structure GBlk where
  slot : Nat
  led : List Nat
  draw : List Nat
instance : Inhabited GBlk := ⟨⟨0, Z32, Z32⟩⟩
structure GBlk.Ok (b : GBlk) : Prop where
  slot : b.slot < 4294967296
  led : H32 b.led
  draw : H32 b.draw
def GBlk.cells (b : GBlk) : Array Value := aj (aj #[.int .u32 (b.slot : Int)] (hv b.led)) (hv b.draw)
theorem GBlk.size (b : GBlk) : b.cells.size = 65 := by rw [GBlk.cells, aj_size, aj_size, hv_size, hv_size]; rfl
theorem GBlk.wf {b : GBlk} (h : b.Ok) : WfA b.cells := ((WfA.lit (l := [.int .u32 (b.slot : Int)]) ⟨wf_n32 h.slot, trivial⟩).app h.led.wf).app h.draw.wf
def AllB (l : List GBlk) : Prop := ∀ x ∈ l, x.Ok
theorem AllB.get {l : List GBlk} (h : AllB l) {i : Nat} (hi : i < l.length) : (l.getD i default).Ok := by
  rw [List.getD_eq_getElem?_getD, List.getElem?_eq_getElem hi, Option.getD_some]
  exact h _ (List.getElem_mem hi)
instance : Inhabited SState := ⟨state0⟩
def AllS (l : List SState) : Prop := ∀ x ∈ l, x.Ok
theorem AllS.get {l : List SState} (h : AllS l) {i : Nat} (hi : i < l.length) : (l.getD i default).Ok := by
  rw [List.getD_eq_getElem?_getD, List.getElem?_eq_getElem hi, Option.getD_some]
  exact h _ (List.getElem_mem hi)
/-! ### children -/
def firE (a b c d : Nat) : Nat := if a ≠ 0 then a else if b ≠ 0 then b else if c ≠ 0 then c else d
def morV (n k : Nat) : Nat := if n + k < 4294967296 then n + k else 0
def morE (n k : Nat) : Nat := if n + k < 4294967296 then 0 else 5
theorem morV_lt (n k : Nat) : morV n k < 4294967296 := by unfold morV; split <;> omega
theorem morE_lt (n k : Nat) : morE n k < 9223372036854775808 := by unfold morE; split <;> omega
theorem ringPE_lt (r : RRing) (n : Nat) : ringPE r n < 9223372036854775808 := by unfold ringPE; split; omega; split <;> omega
theorem folE_lt (p : EPair) (b : EBlk) : folE p b < 9223372036854775808 := by unfold folE; split; omega; split; omega; split <;> omega
def turnN (a b : Nat) : Nat := if a / 24 < b / 24 then 1 else 0
def gblkE (s : SState) (b : GBlk) : EBlk := ⟨s.slot, b.slot, stH s, s.led, b.draw⟩
def childE (s : SState) (b : GBlk) : Nat :=
  if b.slot ≤ s.slot then 6 else firE (morE s.len 1) (morE s.count (turnN s.slot b.slot)) (ringPE s.win.ring (b.slot / 3)) (folE s.eps (gblkE s b))
def childS (s : SState) (b : GBlk) : SState :=
  if childE s b = 0 then ⟨stH s, b.led, b.draw, b.slot, s.len + 1, s.count + turnN s.slot b.slot, winPut s.win b.slot, folP s.eps (gblkE s b)⟩ else state0
theorem gblkE_ok {s : SState} {b : GBlk} (hs : s.Ok) (hb : b.Ok) : (gblkE s b).Ok := ⟨hs.slot, hb.slot, stH_ok s, hs.led, hb.draw⟩
theorem firE_0 {a b c d : Nat} (h : firE a b c d = 0) : a = 0 ∧ b = 0 ∧ c = 0 ∧ d = 0 := by
  unfold firE at h
  split at h; omega
  split at h; omega
  split at h <;> omega
theorem childE_0 {s : SState} {b : GBlk} (h : childE s b = 0) : s.slot < b.slot ∧ s.len + 1 < 4294967296 ∧ s.count + turnN s.slot b.slot < 4294967296 ∧ ringPE s.win.ring (b.slot / 3) = 0 ∧ folE s.eps (gblkE s b) = 0 := by
  unfold childE at h
  split at h; omega
  obtain ⟨h1, h2, h3, h4⟩ := firE_0 h
  unfold morE at h1 h2
  refine ⟨by omega, ?_, ?_, h3, h4⟩
  · split at h1 <;> omega
  · split at h2 <;> omega
theorem child_slot {s : SState} {b : GBlk} (h : b.slot ≤ s.slot) : childS s b = state0 ∧ childE s b = 6 := by
  have e : childE s b = 6 := if_pos h
  exact ⟨if_neg (by rw [e]; decide), e⟩
theorem child_no {s : SState} {b : GBlk} {t : Nat} (h : ¬ b.slot ≤ s.slot) (ht : turnN s.slot b.slot = t) (k : ¬ firE (morE s.len 1) (morE s.count t) (ringPE s.win.ring (b.slot / 3)) (folE s.eps (gblkE s b)) = 0) :
    childS s b = state0 ∧ childE s b = firE (morE s.len 1) (morE s.count t) (ringPE s.win.ring (b.slot / 3)) (folE s.eps (gblkE s b)) := by
  subst ht
  have e : childE s b = _ := if_neg h
  exact ⟨if_neg (by rw [e]; exact k), e⟩
theorem child_yes {s : SState} {b : GBlk} {t : Nat} (h : ¬ b.slot ≤ s.slot) (ht : turnN s.slot b.slot = t) (k : firE (morE s.len 1) (morE s.count t) (ringPE s.win.ring (b.slot / 3)) (folE s.eps (gblkE s b)) = 0) :
    childS s b = ⟨stH s, b.led, b.draw, b.slot, morV s.len 1, morV s.count t, winPut s.win b.slot, folP s.eps (gblkE s b)⟩ ∧ childE s b = 0 := by
  subst ht
  have e : childE s b = 0 := by rw [childE, if_neg h]; exact k
  obtain ⟨_, h1, h2, _⟩ := childE_0 e
  refine ⟨?_, e⟩
  rw [childS, if_pos e, morV, if_pos h1, morV, if_pos h2]
theorem child_over {s : SState} {b : GBlk} (h : ¬ b.slot ≤ s.slot) (k : s.len = 4294967295 ∨ s.count + turnN s.slot b.slot = 4294967296) : childS s b = state0 ∧ childE s b = 5 := by
  have e : childE s b = 5 := by
    rw [childE, if_neg h]
    unfold firE
    by_cases h1 : s.len = 4294967295
    · have : morE s.len 1 = 5 := by rw [morE, if_neg (by omega)]
      rw [this]; rfl
    · have h2 : s.count + turnN s.slot b.slot = 4294967296 := k.resolve_left h1
      have h3 : morE s.count (turnN s.slot b.slot) = 5 := by rw [morE, if_neg (by omega)]
      rw [h3]
      by_cases h4 : morE s.len 1 ≠ 0
      · rw [if_pos h4]; unfold morE at h4 ⊢; split at h4
        · exact absurd rfl h4
        · rename_i h5; rw [if_neg h5]
      · rw [if_neg h4]; rfl
  exact ⟨if_neg (by rw [e]; decide), e⟩
theorem morE_fit {n k : Nat} (h : n + k < 4294967296) : morE n k = 0 := if_pos h
theorem child_full {s : SState} {b : GBlk} (h : ¬ b.slot ≤ s.slot) (k1 : s.len + 1 < 4294967296) (k2 : s.count + turnN s.slot b.slot < 4294967296) (k3 : ¬ ringPE s.win.ring (b.slot / 3) = 0) : childS s b = state0 ∧ childE s b = ringPE s.win.ring (b.slot / 3) := by
  have e : childE s b = ringPE s.win.ring (b.slot / 3) := by
    rw [childE, if_neg h, morE_fit k1, morE_fit k2, firE, if_neg (by decide), if_neg (by decide), if_pos k3]
  exact ⟨if_neg (by rw [e]; exact k3), e⟩
theorem child_fol {s : SState} {b : GBlk} (h : ¬ b.slot ≤ s.slot) (k1 : s.len + 1 < 4294967296) (k2 : s.count + turnN s.slot b.slot < 4294967296) (k3 : ringPE s.win.ring (b.slot / 3) = 0) (k4 : ¬ folE s.eps (gblkE s b) = 0) : childS s b = state0 ∧ childE s b = folE s.eps (gblkE s b) := by
  have e : childE s b = folE s.eps (gblkE s b) := by
    rw [childE, if_neg h, morE_fit k1, morE_fit k2, k3, firE, if_neg (by decide), if_neg (by decide), if_neg (by decide)]
  exact ⟨if_neg (by rw [e]; exact k4), e⟩
theorem child_good {s : SState} {b : GBlk} (h : ¬ b.slot ≤ s.slot) (k1 : s.len + 1 < 4294967296) (k2 : s.count + turnN s.slot b.slot < 4294967296) (k3 : ringPE s.win.ring (b.slot / 3) = 0) (k4 : folE s.eps (gblkE s b) = 0) :
    childS s b = ⟨stH s, b.led, b.draw, b.slot, s.len + 1, s.count + turnN s.slot b.slot, winPut s.win b.slot, folP s.eps (gblkE s b)⟩ ∧ childE s b = 0 := by
  have e : childE s b = 0 := by
    rw [childE, if_neg h, morE_fit k1, morE_fit k2, k3, k4]; rfl
  exact ⟨if_pos e, e⟩
theorem turn_1 {a b : Nat} (h : a / 24 < b / 24) : turnN a b = 1 := if_pos h
theorem turn_0 {a b : Nat} (h : ¬ a / 24 < b / 24) : turnN a b = 0 := if_neg h
theorem turnN_le (a b : Nat) : turnN a b ≤ 1 := by unfold turnN; split <;> omega
theorem childS_ok {s : SState} {b : GBlk} (hs : s.Ok) (hR : s.Right) (hb : b.Ok) : (childS s b).Ok := by
  unfold childS
  split
  · rename_i e
    obtain ⟨_, h1, h2, _⟩ := childE_0 e
    exact ⟨stH_ok s, hb.led, hb.draw, hb.slot, h1, h2, winPut_ok hs.win hR.1.2.few hb.slot, folP_ok hs.eps (gblkE_ok hs hb)⟩
  · exact state0_ok
theorem childE_lt (s : SState) (b : GBlk) : childE s b < 9223372036854775808 := by
  have h1 := morE_lt s.len 1; have h2 := morE_lt s.count (turnN s.slot b.slot); have h3 := ringPE_lt s.win.ring (b.slot / 3); have h4 := folE_lt s.eps (gblkE s b)
  unfold childE firE
  split; omega
  split; omega
  split; omega
  split <;> omega
theorem lockD_len (d : EData) (b : EBlk) : (lockD d b).len = d.len := by unfold lockD; split <;> rfl
theorem kq_le {r : RRing} {n : Nat} (h : r.Right) (e : ringPE r n = 0) (i : Nat) (hi : i < 4) : kq r n i ≤ 3 := by
  have hc := h.le i hi
  unfold ringPE at e
  split at e; omega
  split at e; omega
  rename_i h1 h2
  unfold kq kp
  by_cases hn : n % 4 = i
  · rw [if_pos hn]
    by_cases hq : n = r.last
    · have : ¬ 3 ≤ r.cn i := fun q => h2 ⟨hq, by rw [hn]; exact q⟩
      split <;> omega
    · rw [if_neg (by omega)]; omega
  · rw [if_neg hn]; split <;> omega
theorem ringAdd_right {r : RRing} {n : Nat} (h : r.Right) (e : ringPE r n = 0) : (ringAdd r n).Right := by
  refine ⟨kq_le h e 0 (by decide), kq_le h e 1 (by decide), kq_le h e 2 (by decide), kq_le h e 3 (by decide), ?_⟩
  have hp : ∀ i, n % 4 = i → 0 < kq r n i := fun i hi => by unfold kq; rw [if_pos hi]; omega
  show 0 < [kq r n 0, kq r n 1, kq r n 2, kq r n 3].getD (n % 4) 0
  have hm : n % 4 < 4 := Nat.mod_lt _ (by decide)
  generalize hq : n % 4 = q at hm
  match q, hm, hq with
  | 0, _, hq => exact hp 0 hq
  | 1, _, hq => exact hp 1 hq
  | 2, _, hq => exact hp 2 hq
  | 3, _, hq => exact hp 3 hq
theorem child_is {s : SState} {b : GBlk} (e : childE s b = 0) : childS s b = ⟨stH s, b.led, b.draw, b.slot, s.len + 1, s.count + turnN s.slot b.slot, winPut s.win b.slot, folP s.eps (gblkE s b)⟩ := if_pos e
theorem childS_right {s : SState} {b : GBlk} (hR : s.Right) (e : childE s b = 0) : (childS s b).Right := by
  obtain ⟨h0, h1, h2, h3, h4⟩ := childE_0 e
  obtain ⟨⟨a1, a2⟩, a3, a4, a5, a6, a7, a8, a9, a10⟩ := hR
  rw [child_is e]
  have hn : (folP s.eps (gblkE s b)).next.len = if s.slot / 24 < b.slot / 24 then 1 else s.eps.next.len + 1 := by
    unfold folP
    rw [if_pos h4]
    show (lockD _ _).len = _
    rw [lockD_len]
    unfold nextD gblkE
    split <;> rfl
  have hw : winPut s.win b.slot = ⟨winRel s.win b.slot, ringAdd s.win.ring (b.slot / 3)⟩ := if_pos h3
  have ht : turnN s.slot b.slot = if s.slot / 24 < b.slot / 24 then 1 else 0 := rfl
  refine ⟨?_, ?_, ?_, ?_, ?_, ?_, ?_, ?_, ?_⟩
  · rw [hw]; exact ⟨Nat.le_trans (winRel_le _ _) a1, ringAdd_right a2 h3⟩
  · rw [hw]; rfl
  · show 0 < s.len + 1; omega
  · show s.len + 1 ≤ b.slot + 1; omega
  · show s.count + turnN s.slot b.slot ≤ b.slot / 24; rw [ht]; split <;> omega
  · show s.count + turnN s.slot b.slot < s.len + 1; rw [ht]; split <;> omega
  · show 0 < (folP s.eps (gblkE s b)).next.len; rw [hn]; split <;> omega
  · show (folP s.eps (gblkE s b)).next.len ≤ s.len + 1; rw [hn]; split <;> omega
  · show (folP s.eps (gblkE s b)).next.len ≤ b.slot % 24 + 1; rw [hn]; split <;> omega
theorem childE_kind {s : SState} {b : GBlk} : childE s b = 0 ∨ childE s b = 5 ∨ childE s b = 6 ∨ childE s b = 11 := by
  have h1 : ∀ n k, morE n k = 0 ∨ morE n k = 5 := fun n k => by unfold morE; split <;> simp
  have h3 : ringPE s.win.ring (b.slot / 3) = 0 ∨ ringPE s.win.ring (b.slot / 3) = 6 ∨ ringPE s.win.ring (b.slot / 3) = 11 := by
    unfold ringPE; split; simp; split <;> simp
  have h4 : folE s.eps (gblkE s b) = 0 ∨ folE s.eps (gblkE s b) = 6 ∨ folE s.eps (gblkE s b) = 5 := by
    unfold folE; split; simp; split; simp; split <;> simp
  have h5 := h1 s.len 1; have h6 := h1 s.count (turnN s.slot b.slot)
  unfold childE firE
  split; omega
  split; omega
  split; omega
  split <;> omega
theorem childS_bad {s : SState} {b : GBlk} (h : ¬ childE s b = 0) : childS s b = state0 := if_neg h
/-! ### chains -/
/-- The state behind blocks; how many fit; why the next one doesn't. -/
def chainC (s : SState) : List GBlk → Nat → SState × Nat × Nat
  | [], i => (s, i, 0)
  | b :: l, i => if childE s b = 0 then chainC (childS s b) l (i + 1) else (s, i, childE s b)
theorem dropB {l : List GBlk} {i : Nat} (h : i < l.length) : l.drop i = l.getD i default :: l.drop (i + 1) := by
  rw [List.drop_eq_getElem_cons h, List.getD_eq_getElem?_getD, List.getElem?_eq_getElem h]; rfl
theorem chainC_end {s : SState} {l : List GBlk} {i : Nat} (h : l.length ≤ i) : chainC s (l.drop i) i = (s, i, 0) := by rw [List.drop_eq_nil_of_le h]; rfl
theorem chainC_bad {s : SState} {l : List GBlk} {i : Nat} (h : i < l.length) (e : ¬ childE s (l.getD i default) = 0) : chainC s (l.drop i) i = (s, i, childE s (l.getD i default)) := by rw [dropB h, chainC, if_neg e]
theorem chainC_ok {s : SState} {l : List GBlk} {i : Nat} (h : i < l.length) (e : childE s (l.getD i default) = 0) : chainC s (l.drop i) i = chainC (childS s (l.getD i default)) (l.drop (i + 1)) (i + 1) := by rw [dropB h, chainC, if_pos e]
theorem chainC_spec : ∀ (l : List GBlk) (s : SState) (i : Nat), s.Ok → s.Right → AllB l → (chainC s l i).1.Ok ∧ (chainC s l i).1.Right ∧ (chainC s l i).2.1 ≤ i + l.length ∧ (chainC s l i).2.2 < 9223372036854775808
  | [], s, i, h1, h2, _ => ⟨h1, h2, Nat.le_refl _, by show 0 < 9223372036854775808; decide⟩
  | b :: l, s, i, h1, h2, h3 => by
    have hb := h3 b (.head _)
    unfold chainC
    split
    · rename_i e
      have := chainC_spec l (childS s b) (i + 1) (childS_ok h1 h2 hb) (childS_right h2 e) (fun x hx => h3 x (.tail _ hx))
      exact ⟨this.1, this.2.1, by have := this.2.2.1; rw [List.length_cons]; omega, this.2.2.2⟩
    · exact ⟨h1, h2, by show i ≤ _; omega, childE_lt s b⟩
theorem stateF_right (led : List Nat) : (stateF led).Right :=
  ⟨⟨(show 12 ≤ 12 by decide), (show 1 ≤ 3 by decide), (show 3 ≤ 3 by decide), (show 3 ≤ 3 by decide), (show 3 ≤ 3 by decide), (show 0 < 1 by decide)⟩, (show 0 = 0 / 3 by decide), (show 0 < 1 by decide), (show 1 ≤ 0 + 1 by decide), (show 0 ≤ 0 / 24 by decide), (show 0 < 1 by decide), (show 0 < 1 by decide), (show 1 ≤ 1 by decide), (show 1 ≤ 0 % 24 + 1 by decide)⟩
theorem childS_facts {s : SState} {b : GBlk} (e : childE s b = 0) : (childS s b).len = s.len + 1 ∧ (childS s b).slot = b.slot ∧ (childS s b).prev = stH s ∧ (childS s b).led = b.led ∧ (childS s b).draw = b.draw ∧ (childS s b).win.min ≤ s.win.min ∧ (childS s b).count = s.count + turnN s.slot b.slot ∧
    s.slot < b.slot ∧ s.len + 1 < 4294967296 ∧ s.count + turnN s.slot b.slot < 4294967296 ∧ turnN s.slot b.slot ≤ 1 ∧ (childS s b).win = winPut s.win b.slot ∧ (childS s b).eps = folP s.eps (gblkE s b) := by
  obtain ⟨h0, h1, h2, h3, h4⟩ := childE_0 e
  rw [child_is e]
  refine ⟨rfl, rfl, rfl, rfl, rfl, ?_, rfl, h0, h1, h2, turnN_le _ _, rfl, rfl⟩
  show (winPut s.win b.slot).min ≤ s.win.min
  rw [winPut, if_pos h3]
  exact winRel_le _ _
theorem GBlk.one (x : GBlk) : ∀ u ∈ x.cells.toList, u.oneCell' = true := by
  have h : x.cells.toList.all (·.oneCell') = true := by kernel_rfl
  exact fun u hu => List.all_eq_true.1 h u hu
/-! ### what is asked first -/
def awkL : List GBlk := [(⟨3, Z32, Z32⟩ : GBlk), (⟨30, Z32, Z32⟩ : GBlk), (⟨50, Z32, hlit 7⟩ : GBlk)]
def awkS : SState := (chainC (stateF (hlit 1)) awkL 0).1
theorem awk_all : AllB awkL := by
  intro x hx
  simp only [awkL, List.mem_cons, List.not_mem_nil, or_false] at hx
  rcases hx with rfl | rfl | rfl
  · exact ⟨by decide, H32.zero, H32.zero⟩
  · exact ⟨by decide, H32.zero, H32.zero⟩
  · exact ⟨by decide, H32.zero, hlit_ok (by decide)⟩
theorem awkF_ok : (stateF (hlit 1)).Ok := stateF_ok (hlit_ok (n := 1) (by decide))
theorem awkS_ok : awkS.Ok := (chainC_spec awkL _ 0 awkF_ok (stateF_right _) awk_all).1
theorem awkS_right : awkS.Right := (chainC_spec awkL _ 0 awkF_ok (stateF_right _) awk_all).2.1
theorem awk2 : (chainC (stateF (hlit 1)) awkL 0).2 = (3, 0) := by kernel_rfl
theorem awk10 : (.tuple #[.agg (chainC (stateF (hlit 1)) awkL 0).1.cells, .int .i64 (((chainC (stateF (hlit 1)) awkL 0).2.1 : Nat) : Int), .int .i64 (((chainC (stateF (hlit 1)) awkL 0).2.2 : Nat) : Int)] : Value) = .tuple #[.agg awkS.cells, .int .i64 3, .int .i64 0] := by
  rw [awk2]
  generalize hq : chainC (stateF (hlit 1)) awkL 0 = q
  rw [show awkS = q.1 from by rw [← hq]; rfl]
  rfl
theorem awkG : childE (stateF (hlit 1)) (⟨3, Z32, Z32⟩ : GBlk) = 0 := by kernel_rfl
theorem awkB : childE awkS (⟨50, Z32, Z32⟩ : GBlk) = 6 := by kernel_rfl
theorem mor_fit {n k : Nat} (h : morE n k = 0) : morV n k = n + k ∧ n + k < 4294967296 := by
  unfold morE at h
  split at h
  · rename_i h1; exact ⟨if_pos h1, h1⟩
  · cases h
end Go.Alm

/- Blocks, numbers, accounts as a row hands them. -/
namespace Go.Alm
open Go Go.RowKit
section
variable {H : Type} {enc : TypeId × Value → H} {P : Program} {w : World} {base : Nat} {sp : Nat → Bool} {held : Bool} {fuel t e : Nat} {cs : List Value} {x : DataW H × List MemPlace}
theorem gblk_of {th tn : Nat} (k : IsKey P t th e tn) (ht : DataW.trod enc P w base sp held fuel t cs = some x) : ∃ y : GBlk, y.Ok ∧ cs = y.cells.toList := by
  obtain ⟨_, _, _, _, h1, r1, rfl⟩ := (parts_of k.s ht).inv
  obtain ⟨_, _, _, _, h2, r2, rfl⟩ := r1.inv
  obtain ⟨_, _, _, _, h3, r3, rfl⟩ := r2.inv
  obtain rfl := r3.end
  obtain ⟨a, ha, rfl⟩ := u32_of k.n h1
  obtain ⟨b, hb, rfl⟩ := hash_of k.h h2
  obtain ⟨c, hc, rfl⟩ := hash_of k.h h3
  exact ⟨⟨a, b, c⟩, ⟨ha, hb, hc⟩, by unfold GBlk.cells; simp only [aj_toList, List.append_assoc, List.append_nil]⟩
/-- A number of 32 bits as a cell. -/
def nC (n : Nat) : Array Value := #[.int .u32 (n : Int)]
theorem nC_size (n : Nat) : (nC n).size = 1 := rfl
theorem num_of (k : IsI P .u32 t) (ht : DataW.trod enc P w base sp held fuel t cs = some x) : ∃ n : Nat, n < 4294967296 ∧ cs = (nC n).toList := u32_of k ht
theorem hash_of' (k : IsH P t e) (ht : DataW.trod enc P w base sp held fuel t cs = some x) : ∃ l, H32 l ∧ cs = (hv l).toList := hash_of k ht
end
end Go.Alm

/- Acts on a tree out of a row's reading. -/
namespace Go.Alm
open Go Go.RowKit Go.ChangeShapes Go.WideShapes Go.ChangeAt
section
variable {H : Type} {enc : TypeId × Value → H} {P : Program} {w : World} {base : Nat} {sp : Nat → Bool} {held : Bool} {fuel t e : Nat} {cs : List Value} {x : DataW H × List MemPlace}
structure IsAcct (P : Program) (t ts tu tn : Nat) : Prop where
  s : IsS P t [(ts, 0), (tu, 1), (tn, 2)]
  st : P.underlying ts = some .string
  u : IsI P .u64 tu
  n : IsI P .u32 tn
theorem acct_of {ts tu tn : Nat} (k : IsAcct P t ts tu tn) (ht : DataW.trod enc P w base sp held fuel t cs = some x) : ∃ y : Acct, y.Ok ∧ cs = y.cells.toList := by
  obtain ⟨_, _, _, _, h1, r1, rfl⟩ := (parts_of k.s ht).inv
  obtain ⟨_, _, _, _, h2, r2, rfl⟩ := r1.inv
  obtain ⟨_, _, _, _, h3, r3, rfl⟩ := r2.inv
  obtain rfl := r3.end
  obtain ⟨s, rfl, _, hsl⟩ := DataW.trod_string k.st h1
  obtain ⟨m, hm, rfl⟩ := u64_of k.u h2
  obtain ⟨n, hn, rfl⟩ := u32_of k.n h3
  exact ⟨⟨s, m, n⟩, ⟨hsl, hm, hn⟩, rfl⟩
structure IsAct (P : Program) (t ti ta ts tu tn : Nat) : Prop where
  s : IsS P t [(ti, 0), (ti, 1), (ta, 2)]
  i : IsI P .i64 ti
  a : IsAcct P ta ts tu tn
theorem act_of {ti ta ts tu tn : Nat} (k : IsAct P t ti ta ts tu tn) (ht : DataW.trod enc P w base sp held fuel t cs = some x) : ∃ y : AAct, y.Ok ∧ cs = y.cells.toList := by
  obtain ⟨_, _, _, _, h1, r1, rfl⟩ := (parts_of k.s ht).inv
  obtain ⟨_, _, _, _, h2, r2, rfl⟩ := r1.inv
  obtain ⟨_, _, _, _, h3, r3, rfl⟩ := r2.inv
  obtain rfl := r3.end
  obtain ⟨a, ha, rfl⟩ := i64_of k.i h1
  obtain ⟨b, hb, rfl⟩ := i64_of k.i h2
  obtain ⟨y, hy, rfl⟩ := acct_of k.a h3
  exact ⟨⟨a, b, y⟩, ⟨ha, hb, hy⟩, by simp [AAct.cells, aj_toList]⟩
end
end Go.Alm

/- Paths and puts out of a row's reading; six arguments. -/
namespace Go.Alm
open Go Go.RowKit Go.ChangeShapes Go.WideShapes Go.ChangeAt
section
variable {H : Type} {enc : TypeId × Value → H} {P : Program} {w : World} {base : Nat} {sp : Nat → Bool} {held : Bool} {fuel t e : Nat} {cs : List Value} {x : DataW H × List MemPlace}
structure IsP4 (P : Program) (t th e : Nat) : Prop where
  u : P.underlying t = some (.array 4 th)
  h : IsH P th e
  s : P.cellsOf t = 128
theorem path_of {th : Nat} (k : IsP4 P t th e) (ht : DataW.trod enc P w base sp held fuel t cs = some x) : ∃ y : Path4, y.Ok ∧ cs = y.cells.toList := by
  obtain ⟨xs, m, _, _, hlen, hxl, hget⟩ := DataW.trod_array k.u ht
  rw [k.s] at hlen
  have key : ∀ i, i < 4 → ∃ l : List Nat, H32 l ∧ (cs.drop (i * 32)).take 32 = (hv l).toList := fun i hi => by
    have h1 := hget i hi
    have hs : (xs[i]?).isSome = true := by simp [hxl, hi]
    obtain ⟨y, hy⟩ := Option.isSome_iff_exists.1 hs
    rw [hy] at h1
    obtain ⟨l, hl, hc⟩ := hash_of k.h h1
    rw [k.h.s] at hc
    exact ⟨l, hl, hc⟩
  obtain ⟨a, ha, ea⟩ := key 0 (by decide)
  obtain ⟨b, hb, eb⟩ := key 1 (by decide)
  obtain ⟨c, hc, ec⟩ := key 2 (by decide)
  obtain ⟨d, hd, ed⟩ := key 3 (by decide)
  refine ⟨⟨a, b, c, d⟩, ⟨ha, hb, hc, hd⟩, ?_⟩
  have hj : ∀ A C : Array Value, (aj A C).toList = A.toList ++ C.toList := fun _ _ => rfl
  unfold Path4.cells
  simp only [hj]
  rw [← ea, ← eb, ← ec, ← ed]
  have h4 : (cs.drop (3 * 32)).take 32 = cs.drop 96 := List.take_of_length_le (by simp only [List.length_drop]; omega)
  rw [h4, List.append_assoc, List.append_assoc]
  have s3 : (cs.drop (2 * 32)).take 32 ++ cs.drop 96 = cs.drop 64 := by
    rw [show cs.drop 96 = (cs.drop 64).drop 32 by rw [List.drop_drop], List.take_append_drop]
  have s2 : (cs.drop (1 * 32)).take 32 ++ cs.drop 64 = cs.drop 32 := by
    rw [show cs.drop 64 = (cs.drop 32).drop 32 by rw [List.drop_drop], Nat.one_mul, List.take_append_drop]
  rw [s3, s2, Nat.zero_mul, List.drop_zero, List.take_append_drop]
structure IsPut (P : Program) (t ti ta ts tu tn : Nat) : Prop where
  s : IsS P t [(ti, 0), (ta, 1)]
  i : IsI P .i64 ti
  a : IsAcct P ta ts tu tn
theorem put_of {ti ta ts tu tn : Nat} (k : IsPut P t ti ta ts tu tn) (ht : DataW.trod enc P w base sp held fuel t cs = some x) : ∃ y : APut, y.Ok ∧ cs = y.cells.toList := by
  obtain ⟨_, _, _, _, h1, r1, rfl⟩ := (parts_of k.s ht).inv
  obtain ⟨_, _, _, _, h2, r2, rfl⟩ := r1.inv
  obtain rfl := r2.end
  obtain ⟨a, ha, rfl⟩ := i64_of k.i h1
  obtain ⟨y, hy, rfl⟩ := acct_of k.a h2
  exact ⟨⟨a, y⟩, ⟨ha, hy⟩, by simp [APut.cells, aj_toList]⟩
theorem trodAll_six {t0 t1 t2 t3 t4 t5 : TypeId} {args : Array Value} {ds : List (DataW H)} {ps : List MemPlace} (h : DataW.TrodAll enc P w base sp held [t0, t1, t2, t3, t4, t5] args.toList ds ps) :
    ∃ v0 v1 v2 v3 v4 v5 d0 d1 d2 d3 d4 d5 p0 p1 p2 p3 p4 p5, args = #[v0, v1, v2, v3, v4, v5] ∧ ds = [d0, d1, d2, d3, d4, d5] ∧ ps = p0 ++ p1 ++ p2 ++ p3 ++ p4 ++ p5 ∧ DataW.Trod enc P w base sp held t0 v0 d0 p0 ∧ DataW.Trod enc P w base sp held t1 v1 d1 p1 ∧ DataW.Trod enc P w base sp held t2 v2 d2 p2 ∧ DataW.Trod enc P w base sp held t3 v3 d3 p3 ∧ DataW.Trod enc P w base sp held t4 v4 d4 p4 ∧ DataW.Trod enc P w base sp held t5 v5 d5 p5 := by
  obtain ⟨v0, vs0, d0, ds0, p0, q0, hargs, rfl, rfl, h0, r0⟩ := trodAll_cons h
  obtain ⟨v1, vs1, d1, ds1, p1, q1, rfl, rfl, rfl, h1, r1⟩ := trodAll_cons r0
  obtain ⟨v2, vs2, d2, ds2, p2, q2, rfl, rfl, rfl, h2, r2⟩ := trodAll_cons r1
  obtain ⟨v3, vs3, d3, ds3, p3, q3, rfl, rfl, rfl, h3, r3⟩ := trodAll_cons r2
  obtain ⟨v4, vs4, d4, ds4, p4, q4, rfl, rfl, rfl, h4, r4⟩ := trodAll_cons r3
  obtain ⟨v5, vs5, d5, ds5, p5, q5, rfl, rfl, rfl, h5, r5⟩ := trodAll_cons r4
  obtain ⟨rfl, rfl, rfl⟩ := trodAll_nil r5
  exact ⟨v0, v1, v2, v3, v4, v5, d0, d1, d2, d3, d4, d5, p0, p1, p2, p3, p4, p5, by cases args; simp_all, rfl, by simp, h0, h1, h2, h3, h4, h5⟩
theorem trodAll_mk6 {t0 t1 t2 t3 t4 t5 : TypeId} {v0 v1 v2 v3 v4 v5 : Value} {d0 d1 d2 d3 d4 d5 : DataW H} {p0 p1 p2 p3 p4 p5 : List MemPlace} (h0 : DataW.Trod enc P w base sp held t0 v0 d0 p0) (h1 : DataW.Trod enc P w base sp held t1 v1 d1 p1) (h2 : DataW.Trod enc P w base sp held t2 v2 d2 p2) (h3 : DataW.Trod enc P w base sp held t3 v3 d3 p3) (h4 : DataW.Trod enc P w base sp held t4 v4 d4 p4) (h5 : DataW.Trod enc P w base sp held t5 v5 d5 p5) :
    DataW.TrodAll enc P w base sp held [t0, t1, t2, t3, t4, t5] [v0, v1, v2, v3, v4, v5] [d0, d1, d2, d3, d4, d5] (p0 ++ (p1 ++ (p2 ++ (p3 ++ (p4 ++ p5))))) := ⟨p0, _, h0, ⟨p1, _, h1, ⟨p2, _, h2, trodAll_mk3 h3 h4 h5, rfl⟩, rfl⟩, rfl⟩
end
end Go.Alm

/- What a memo is asked of, as it stands in memory; a map of those that were. -/
namespace Go.Alm
open Go Go.RowKit Go.ChangeShapes Go.WideShapes Go.ChangeAt
def cellsK (qs : List TKey) : List Value := qs.flatMap fun x => x.cells.toList
theorem size_tkey (x : TKey) : x.cells.size = 33 := by simp [TKey.cells, hv]
theorem cellsK_cons (x : TKey) (qs : List TKey) : cellsK (x :: qs) = x.cells.toList ++ cellsK qs := rfl
theorem cellsK_length : ∀ qs : List TKey, (cellsK qs).length = qs.length * 33
  | [] => rfl
  | x :: qs => by rw [cellsK_cons, List.length_append, cellsK_length qs, Array.length_toList, size_tkey, List.length_cons]; omega
theorem cellsK_get : ∀ (qs : List TKey) (k : Nat) (x : TKey), qs[k]? = some x → ((cellsK qs).drop (k * 33)).take 33 = x.cells.toList
  | [], k, x, h => by simp at h
  | y :: qs, 0, x, h => by
    simp only [List.getElem?_cons_zero, Option.some.injEq] at h
    subst h
    rw [Nat.zero_mul, List.drop_zero, cellsK_cons]
    exact List.take_left' (by rw [Array.length_toList, size_tkey])
  | y :: qs, k + 1, x, h => by
    rw [List.getElem?_cons_succ] at h
    have e : (k + 1) * 33 = y.cells.toList.length + k * 33 := by rw [Array.length_toList, size_tkey]; omega
    rw [cellsK_cons, e, ← List.drop_drop, List.drop_left, cellsK_get qs k x h]
def kvI (ks : List TKey) : List (Value × Value) := ks.map fun x => (.agg x.cells, .int .i64 1)
theorem kvI_in {ks : List TKey} {x : TKey} (h : x ∈ ks) : (∀ v', (Value.agg x.cells, v') ∈ kvI ks → v' = .int .i64 1) ∧ ∃ v', (Value.agg x.cells, v') ∈ kvI ks := by
  constructor
  · intro v' hv'
    obtain ⟨y, _, he⟩ := List.mem_map.1 hv'
    simp only [Prod.mk.injEq] at he
    exact he.2.symm
  · exact ⟨_, List.mem_map.2 ⟨x, h, rfl⟩⟩
theorem kvI_no {ks : List TKey} {x : TKey} (h : x ∉ ks) : ∀ p ∈ kvI ks, p.1 ≠ .agg x.cells := fun p hp he => by
  obtain ⟨y, hy, rfl⟩ := List.mem_map.1 hp
  simp only [Value.agg.injEq] at he
  have := TKey.inj he
  subst this
  exact h hy
theorem kvI_length (ks : List TKey) : (kvI ks).length = ks.length := by simp [kvI]
theorem kvI_snoc (ks : List TKey) (x : TKey) : kvI ks ++ [(.agg x.cells, .int .i64 1)] = kvI (ks ++ [x]) := by simp [kvI]
theorem addK_length (ks : List TKey) (x : TKey) (room : Nat) : (addK ks x room).length ≤ ks.length + 1 := by unfold addK; split <;> simp
section
variable {H : Type} {enc : TypeId × Value → H} {P : Program} {w : World} {base : Nat} {sp : Nat → Bool} {held : Bool} {fuel t e : Nat} {cs : List Value} {x : DataW H × List MemPlace}
theorem i64_of_trod {v : Int} {d : DataW H} {p : List MemPlace} (ht : P.underlying t = some (.int .i64)) (h : DataW.Trod enc P w base sp held t (.int .i64 v) d p) : -9223372036854775808 ≤ v ∧ v ≤ 9223372036854775807 := by
  obtain ⟨fu, hf⟩ := h
  obtain ⟨m, e1, _, hwf⟩ := DataW.trod_int ht hf
  have : v = m := by simpa [Value.cells] using e1
  subst this
  simp only [Lit.wf, Bool.and_eq_true, decide_eq_true_eq] at hwf
  have c1 : IntKind.i64.min = -9223372036854775808 := by decide
  have c2 : IntKind.i64.max = 9223372036854775807 := by decide
  omega
theorem ask_of_trod {fs : Array Field} {ts th e8 : Nat} (he : P.underlying e = some (.struct fs)) (hfs : fs.toList.map (fun f => (f.type, f.offset)) = [(ts, 0), (th, 1)])
    (hs : P.underlying ts = some .string) (hh : P.underlying th = some (.array 32 e8)) (h8 : P.underlying e8 = some (.int .u8)) (zs : P.cellsOf ts = 1) (zh : P.cellsOf th = 32) (z8 : P.cellsOf e8 = 1) (ze : P.cellsOf e = 33)
    (h : DataW.trod enc P w base sp held fuel e cs = some x) : ∃ y : TKey, cs = y.cells.toList := by
  obtain ⟨xs, n, _, _, hlen, hxl, hget⟩ := DataW.trod_struct he h
  rw [ze] at hlen
  have hsz : fs.size = 2 := by have := congrArg List.length hfs; simpa using this
  have get : ∀ (i a b : Nat), i < 2 → ([(ts, 0), (th, 1)] : List (TypeId × Nat))[i]? = some (a, b) → ∃ z, DataW.trod enc P w base sp held n a ((cs.drop b).take (P.cellsOf a)) = some z := fun i a b hi5 hL => by
    obtain ⟨f, hf, rfl, rfl⟩ := field_of hfs i hL
    have h1 := hget i f hf
    have hs : i < xs.length := by omega
    exact ⟨xs[i], by rw [h1]; simp [hs]⟩
  obtain ⟨z0, g0⟩ := get 0 ts 0 (by decide) rfl
  obtain ⟨z1, g1⟩ := get 1 th 1 (by decide) rfl
  obtain ⟨s, e0, _, hsl⟩ := DataW.trod_string hs g0
  obtain ⟨l, hl, e1, Bl⟩ := ints_of_trod hh h8 z8 zh g1
  rw [zs] at e0; rw [zh] at e1
  refine ⟨⟨s, l, hl, Bl, hsl⟩, ?_⟩
  have es : cs = (cs.drop 0).take 1 ++ (cs.drop 1).take 32 := by
    have : (cs.drop 1).take 32 = cs.drop 1 := List.take_of_length_le (by rw [List.length_drop]; omega)
    rw [this, List.drop_zero, List.take_append_drop]
  rw [es, e0, e1]
  unfold TKey.cells
  rw [Array.toList_append, hv_B hl]
theorem asks_of_trod {fs : Array Field} {ts th e8 : Nat} (ht : P.underlying t = some (.slice e)) (he : P.underlying e = some (.struct fs)) (hfs : fs.toList.map (fun f => (f.type, f.offset)) = [(ts, 0), (th, 1)])
    (hs : P.underlying ts = some .string) (hh : P.underlying th = some (.array 32 e8)) (h8 : P.underlying e8 = some (.int .u8)) (zs : P.cellsOf ts = 1) (zh : P.cellsOf th = 32) (z8 : P.cellsOf e8 = 1) (ze : P.cellsOf e = 33)
    (h : DataW.trod enc P w base sp held fuel t cs = some x) : ∃ ao qs cap, cs = [.slice ao (qs : List TKey).length cap] ∧ Rd w ao (cellsK qs) ∧ qs.length ≤ cap ∧ cap ≤ maxLen := by
  rcases DataW.trod_slice ht h with ⟨rfl, _⟩ | ⟨a, len, cap, elems, rest, n, _, rfl, _, _, hlc, hcm, hel, hget, _⟩
  · exact ⟨none, [], 0, rfl, Rd.nil _ _, Nat.le_refl _, Nat.zero_le _⟩
  · have key : ∀ i, i < len → ∃ y : TKey, ∀ j, j < 33 → w.cell? ((a.add (i * 33)).add j) = y.cells.toList[j]? := fun i hi' => by
      have h1 := hget i hi'
      have hs' : (elems[i]?).isSome = true := by simp [hel, hi']
      obtain ⟨c, hc, hy⟩ := some_of_bind h1 hs'
      obtain ⟨y, hy'⟩ := Option.isSome_iff_exists.1 hs'
      rw [hy'] at hy
      obtain ⟨z, ez⟩ := ask_of_trod he hfs hs hh h8 zs zh z8 ze hy
      rw [ze] at hc
      have hcc := (World.cells?_some hc).2.2
      rw [ez] at hcc
      exact ⟨z, hcc⟩
    let f : Nat → TKey := fun i => if h : i < len then Classical.choose (key i h) else K0
    have hf : ∀ i, i < len → ∀ j, j < 33 → w.cell? ((a.add (i * 33)).add j) = (f i).cells.toList[j]? := fun i hi' => by
      have : f i = Classical.choose (key i hi') := by simp only [f, dif_pos hi']
      rw [this]; exact Classical.choose_spec (key i hi')
    refine ⟨some a, (List.range len).map f, cap, by simp, fun j u hj => ?_, by simpa using hlc, hcm⟩
    have hjl := (List.getElem?_eq_some_iff.1 hj).1
    rw [cellsK_length, List.length_map, List.length_range] at hjl
    have hdiv : j / 33 < len := by omega
    have hg := cellsK_get ((List.range len).map f) (j / 33) (f (j / 33)) (by simp [hdiv])
    have hm : j % 33 < 33 := Nat.mod_lt _ (by decide)
    have hu : (f (j / 33)).cells.toList[j % 33]? = some u := by
      rw [← hg, List.getElem?_take, if_pos hm, List.getElem?_drop, show j / 33 * 33 + j % 33 = j by omega]
      exact hj
    refine ⟨a, rfl, ?_⟩
    have hc := hf _ hdiv _ hm
    have e : (a.add (j / 33 * 33)).add (j % 33) = a.add j := by rw [add_add, show j / 33 * 33 + j % 33 = j by omega]
    rw [e] at hc
    rw [hc, hu]
end
end Go.Alm

/- What the listed variables hold, as an array that is read. -/
namespace Go.Alm
open Go Go.RowKit Go.ChangeShapes Go.WideShapes Go.ChangeAt
section
variable {H : Type} {enc : TypeId × Value → H} {P : Program} {w : World}
theorem words_of_trod {base : Nat} {sp : Nat → Bool} {held : Bool} {fuel t e : Nat} {cs : List Value} {K : List Int} {p : List MemPlace} (ht : P.underlying t = some (.array 64 e)) (he : P.underlying e = some (.int .u32)) (hz : P.cellsOf e = 1) (_ : K.length = 64)
    (h : DataW.trod enc P w base sp held fuel t cs = some (.agg (K.map fun k => .lit (.int .u32 k)), p)) : ∀ i, i < 64 → cs[i]? = (K[i]?).map (.int .u32 ·) := by
  intro i hi
  obtain ⟨xs, m, _, hx, hlen, hxl, hget⟩ := DataW.trod_array ht h
  simp only [Prod.mk.injEq, DataW.agg.injEq] at hx
  have h1 := hget i hi
  have hs : i < xs.length := by omega
  obtain ⟨y, hy⟩ : ∃ y, xs[i]? = some y := ⟨xs[i], by simp [hs]⟩
  rw [hy] at h1
  obtain ⟨k, e1, e2, _⟩ := DataW.trod_int he h1
  rw [hz, Nat.mul_one] at e1
  have hy2 : y.1 = .lit (.int .u32 k) := by rw [e2]
  have hm : (K.map fun k => (DataW.lit (Lit.int IntKind.u32 k) : DataW H))[i]? = some (.lit (.int .u32 k)) := by
    rw [hx.1, List.getElem?_map, hy, Option.map_some, hy2]
  rw [List.getElem?_map] at hm
  obtain ⟨k', hk', hkk⟩ := Option.map_eq_some_iff.1 hm
  simp only [DataW.lit.injEq, Lit.int.injEq, true_and] at hkk
  subst hkk
  rw [hk', Option.map_some]
  have : (List.take 1 (List.drop i cs))[0]? = some (Value.int .u32 k') := by rw [e1]; rfl
  simpa using this
theorem keys_of_laid {n : String} {g t e f : Nat} {cs : Array Value} {p : List MemPlace} {D : DataW H} {base : Nat} {sp : Nat → Bool} {held : Bool} (hg : P.globalNamed n = some g) (hv : w.var? P n = some cs) (ht : P.underlying t = some (.array 64 e)) (he : P.underlying e = some (.int .u32)) (hz : P.cellsOf e = 1)
    (hd : DataW.trod enc P w base sp held f t cs.toList = some (D, p)) (hD : D = .agg ((KL.map fun k => (k.toNat : Int)).map fun k => .lit (.int .u32 k))) : Rd w (some ⟨g, 0, none⟩) (hw KL).toList := by
  subst hD
  have h := words_of_trod ht he hz (by rfl) hd
  intro i u hi
  have h64 : i < 64 := by
    have := (List.getElem?_eq_some_iff.1 hi).1
    simpa [hw] using this
  refine ⟨_, rfl, ?_⟩
  have hadd : (⟨g, 0, none⟩ : Addr).add i = ⟨g, i, none⟩ := by unfold Addr.add; split <;> simp_all
  rw [hadd, Go.World.var?_cell hg hv i, ← Array.getElem?_toList, h i h64]
  rw [KL_get i h64] at hi
  rw [← hi]
  have hl : KL.length = 64 := rfl
  simp [show i < KL.length by omega]
end
end Go.Alm
