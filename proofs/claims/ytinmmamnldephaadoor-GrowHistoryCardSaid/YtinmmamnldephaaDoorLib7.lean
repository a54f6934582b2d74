/- Plain lemmas and laws of the machine that the walks use; without conditions of their own. -/
import Derived.Test.YtinmmamnldephaaDoorLib3
import Derived.Test.YtinmmamnldephaaDoorLib2
import Derived.Test.YtinmmamnldephaaDoorLib5
import Derived.Test.YtinmmamnldephaaDoorLib6
import Derived.Laws.Small
import Derived.Test.YtinmmamnldephaaDoorLib4
import Derived.ScopeJumps
/- What a memo is asked of, as it stands in memory; a map of those that were. -/
namespace Go.Alm
open Go Go.RowKit Go.ChangeShapes Go.WideShapes Go.ChangeAt
def cellsK (qs : List TKey) : List Value := qs.flatMap fun x => x.cells.toList
theorem size_tkey (x : TKey) : x.cells.size = 33 := by simp [TKey.cells, hv]
theorem cellsK_cons (x : TKey) (qs : List TKey) : cellsK (x :: qs) = x.cells.toList ++ cellsK qs := rfl
theorem cellsK_length : ∀ qs : List TKey, (cellsK qs).length = qs.length * 33
  | [] => rfl
  | x :: qs => by rw [cellsK_cons, List.length_append, cellsK_length qs, Array.length_toList, size_tkey, List.length_cons]; omega
theorem cellsK_get : ∀ (qs : List TKey) (k : Nat) (x : TKey), qs[k]? = some x → ((cellsK qs).drop (k * 33)).take 33 = x.cells.toList
  | [], k, x, h => by simp at h
  | y :: qs, 0, x, h => by
    simp only [List.getElem?_cons_zero, Option.some.injEq] at h
    subst h
    rw [Nat.zero_mul, List.drop_zero, cellsK_cons]
    exact List.take_left' (by rw [Array.length_toList, size_tkey])
  | y :: qs, k + 1, x, h => by
    rw [List.getElem?_cons_succ] at h
    have e : (k + 1) * 33 = y.cells.toList.length + k * 33 := by rw [Array.length_toList, size_tkey]; omega
    rw [cellsK_cons, e, ← List.drop_drop, List.drop_left, cellsK_get qs k x h]
def kvI (ks : List TKey) : List (Value × Value) := ks.map fun x => (.agg x.cells, .int .i64 1)
theorem kvI_in {ks : List TKey} {x : TKey} (h : x ∈ ks) : (∀ v', (Value.agg x.cells, v') ∈ kvI ks → v' = .int .i64 1) ∧ ∃ v', (Value.agg x.cells, v') ∈ kvI ks := by
  constructor
  · intro v' hv'
    obtain ⟨y, _, he⟩ := List.mem_map.1 hv'
    simp only [Prod.mk.injEq] at he
    exact he.2.symm
  · exact ⟨_, List.mem_map.2 ⟨x, h, rfl⟩⟩
theorem kvI_no {ks : List TKey} {x : TKey} (h : x ∉ ks) : ∀ p ∈ kvI ks, p.1 ≠ .agg x.cells := fun p hp he => by
  obtain ⟨y, hy, rfl⟩ := List.mem_map.1 hp
  simp only [Value.agg.injEq] at he
  have := TKey.inj he
  subst this
  exact h hy
theorem kvI_length (ks : List TKey) : (kvI ks).length = ks.length := by simp [kvI]
theorem kvI_snoc (ks : List TKey) (x : TKey) : kvI ks ++ [(.agg x.cells, .int .i64 1)] = kvI (ks ++ [x]) := by simp [kvI]
theorem addK_length (ks : List TKey) (x : TKey) (room : Nat) : (addK ks x room).length ≤ ks.length + 1 := by unfold addK; split <;> simp
section
variable {H : Type} {enc : TypeId × Value → H} {P : Program} {w : World} {base : Nat} {sp : Nat → Bool} {held : Bool} {fuel t e : Nat} {cs : List Value} {x : DataW H × List MemPlace}
theorem i64_of_trod {v : Int} {d : DataW H} {p : List MemPlace} (ht : P.underlying t = some (.int .i64)) (h : DataW.Trod enc P w base sp held t (.int .i64 v) d p) : -9223372036854775808 ≤ v ∧ v ≤ 9223372036854775807 := by
  obtain ⟨fu, hf⟩ := h
  obtain ⟨m, e1, _, hwf⟩ := DataW.trod_int ht hf
  have : v = m := by simpa [Value.cells] using e1
  subst this
  simp only [Lit.wf, Bool.and_eq_true, decide_eq_true_eq] at hwf
  have c1 : IntKind.i64.min = -9223372036854775808 := by decide
  have c2 : IntKind.i64.max = 9223372036854775807 := by decide
  omega
theorem ask_of_trod {fs : Array Field} {ts th e8 : Nat} (he : P.underlying e = some (.struct fs)) (hfs : fs.toList.map (fun f => (f.type, f.offset)) = [(ts, 0), (th, 1)])
    (hs : P.underlying ts = some .string) (hh : P.underlying th = some (.array 32 e8)) (h8 : P.underlying e8 = some (.int .u8)) (zs : P.cellsOf ts = 1) (zh : P.cellsOf th = 32) (z8 : P.cellsOf e8 = 1) (ze : P.cellsOf e = 33)
    (h : DataW.trod enc P w base sp held fuel e cs = some x) : ∃ y : TKey, cs = y.cells.toList := by
  obtain ⟨xs, n, _, _, hlen, hxl, hget⟩ := DataW.trod_struct he h
  rw [ze] at hlen
  have hsz : fs.size = 2 := by have := congrArg List.length hfs; simpa using this
  have get : ∀ (i a b : Nat), i < 2 → ([(ts, 0), (th, 1)] : List (TypeId × Nat))[i]? = some (a, b) → ∃ z, DataW.trod enc P w base sp held n a ((cs.drop b).take (P.cellsOf a)) = some z := fun i a b hi5 hL => by
    obtain ⟨f, hf, rfl, rfl⟩ := field_of hfs i hL
    have h1 := hget i f hf
    have hs : i < xs.length := by omega
    exact ⟨xs[i], by rw [h1]; simp [hs]⟩
  obtain ⟨z0, g0⟩ := get 0 ts 0 (by decide) rfl
  obtain ⟨z1, g1⟩ := get 1 th 1 (by decide) rfl
  obtain ⟨s, e0, _, hsl⟩ := DataW.trod_string hs g0
  obtain ⟨l, hl, e1, Bl⟩ := ints_of_trod hh h8 z8 zh g1
  rw [zs] at e0; rw [zh] at e1
  refine ⟨⟨s, l, hl, Bl, hsl⟩, ?_⟩
  have es : cs = (cs.drop 0).take 1 ++ (cs.drop 1).take 32 := by
    have : (cs.drop 1).take 32 = cs.drop 1 := List.take_of_length_le (by rw [List.length_drop]; omega)
    rw [this, List.drop_zero, List.take_append_drop]
  rw [es, e0, e1]
  unfold TKey.cells
  rw [Array.toList_append, hv_B hl]
theorem asks_of_trod {fs : Array Field} {ts th e8 : Nat} (ht : P.underlying t = some (.slice e)) (he : P.underlying e = some (.struct fs)) (hfs : fs.toList.map (fun f => (f.type, f.offset)) = [(ts, 0), (th, 1)])
    (hs : P.underlying ts = some .string) (hh : P.underlying th = some (.array 32 e8)) (h8 : P.underlying e8 = some (.int .u8)) (zs : P.cellsOf ts = 1) (zh : P.cellsOf th = 32) (z8 : P.cellsOf e8 = 1) (ze : P.cellsOf e = 33)
    (h : DataW.trod enc P w base sp held fuel t cs = some x) : ∃ ao qs cap, cs = [.slice ao (qs : List TKey).length cap] ∧ Rd w ao (cellsK qs) ∧ qs.length ≤ cap ∧ cap ≤ maxLen := by
  rcases DataW.trod_slice ht h with ⟨rfl, _⟩ | ⟨a, len, cap, elems, rest, n, _, rfl, _, _, hlc, hcm, hel, hget, _⟩
  · exact ⟨none, [], 0, rfl, Rd.nil _ _, Nat.le_refl _, Nat.zero_le _⟩
  · have key : ∀ i, i < len → ∃ y : TKey, ∀ j, j < 33 → w.cell? ((a.add (i * 33)).add j) = y.cells.toList[j]? := fun i hi' => by
      have h1 := hget i hi'
      have hs' : (elems[i]?).isSome = true := by simp [hel, hi']
      obtain ⟨c, hc, hy⟩ := some_of_bind h1 hs'
      obtain ⟨y, hy'⟩ := Option.isSome_iff_exists.1 hs'
      rw [hy'] at hy
      obtain ⟨z, ez⟩ := ask_of_trod he hfs hs hh h8 zs zh z8 ze hy
      rw [ze] at hc
      have hcc := (World.cells?_some hc).2.2
      rw [ez] at hcc
      exact ⟨z, hcc⟩
    let f : Nat → TKey := fun i => if h : i < len then Classical.choose (key i h) else K0
    have hf : ∀ i, i < len → ∀ j, j < 33 → w.cell? ((a.add (i * 33)).add j) = (f i).cells.toList[j]? := fun i hi' => by
      have : f i = Classical.choose (key i hi') := by simp only [f, dif_pos hi']
      rw [this]; exact Classical.choose_spec (key i hi')
    refine ⟨some a, (List.range len).map f, cap, by simp, fun j u hj => ?_, by simpa using hlc, hcm⟩
    have hjl := (List.getElem?_eq_some_iff.1 hj).1
    rw [cellsK_length, List.length_map, List.length_range] at hjl
    have hdiv : j / 33 < len := by omega
    have hg := cellsK_get ((List.range len).map f) (j / 33) (f (j / 33)) (by simp [hdiv])
    have hm : j % 33 < 33 := Nat.mod_lt _ (by decide)
    have hu : (f (j / 33)).cells.toList[j % 33]? = some u := by
      rw [← hg, List.getElem?_take, if_pos hm, List.getElem?_drop, show j / 33 * 33 + j % 33 = j by omega]
      exact hj
    refine ⟨a, rfl, ?_⟩
    have hc := hf _ hdiv _ hm
    have e : (a.add (j / 33 * 33)).add (j % 33) = a.add j := by rw [add_add, show j / 33 * 33 + j % 33 = j by omega]
    rw [e] at hc
    rw [hc, hu]
end
end Go.Alm

/- Layer 8's smaller laws, plainly. -/
namespace Go.Alm
open Go Go.RowKit
def withD (b : EBlk) (o : List Nat) : EBlk := ⟨b.frm, b.till, b.prev, b.led, o⟩
theorem folE_draw (p : EPair) (b : EBlk) (o : List Nat) : folE p (⟨b.frm, b.till, b.prev, b.led, o⟩ : EBlk) = folE p b := rfl
theorem fol_draw {p : EPair} {b : EBlk} (o : List Nat) (h : ¬ b.till % 24 < 16) : folP p b = folP p (⟨b.frm, b.till, b.prev, b.led, o⟩ : EBlk) := by
  have e := folE_draw p b o
  unfold folP
  rw [e]
  by_cases h0 : folE p b = 0
  · rw [if_pos h0, if_pos h0]
    rw [lockD_no h, lockD_no (b := ⟨b.frm, b.till, b.prev, b.led, o⟩) h]
    rfl
  · rw [if_neg h0, if_neg h0]
theorem fol_draw2 {p : EPair} {b : EBlk} (o : List Nat) (h : b.till % 24 < 16) : folP p b = (⟨(folP p (⟨b.frm, b.till, b.prev, b.led, o⟩ : EBlk)).now, ⟨(folP p (⟨b.frm, b.till, b.prev, b.led, o⟩ : EBlk)).next.led, (folP p b).next.seed, (folP p (⟨b.frm, b.till, b.prev, b.led, o⟩ : EBlk)).next.start, (folP p (⟨b.frm, b.till, b.prev, b.led, o⟩ : EBlk)).next.lock, (folP p (⟨b.frm, b.till, b.prev, b.led, o⟩ : EBlk)).next.len⟩⟩ : EPair) := by
  have e := folE_draw p b o
  unfold folP
  rw [e]
  by_cases h0 : folE p b = 0
  · simp only [if_pos h0]
    rw [lockD_yes h, lockD_yes (b := ⟨b.frm, b.till, b.prev, b.led, o⟩) h]
    rfl
  · simp only [if_neg h0]
theorem folE_err {p : EPair} {b : EBlk} (h : ¬ folE p b = 0) : folP p b = pair0 := by unfold folP; rw [if_neg h]
theorem folE_six {p : EPair} {b : EBlk} : folE p b = 6 ↔ b.till ≤ b.frm := by
  by_cases h : b.till ≤ b.frm
  · simp only [(fol_slot (p := p) h).1, h]
  · by_cases ht : b.frm / 24 < b.till / 24
    · rw [(fol_turn h ht).1]; exact ⟨fun h => (by cases h), fun h' => absurd h' h⟩
    · by_cases hl : p.next.len + 1 < 4294967296
      · rw [(fol_stay h ht hl).1]; exact ⟨fun h => (by cases h), fun h' => absurd h' h⟩
      · rw [(fol_over h ht hl).1]; exact ⟨fun h => (by cases h), fun h' => absurd h' h⟩
theorem err_bool {p : EPair} {b : EBlk} : (.bool (decide (((folE p b : Nat) : Int) = (6 : Int)) == decide (((b.till : Nat) : Int) ≤ ((b.frm : Nat) : Int))) : Value) = .bool true := by
  have h6 := folE_six (p := p) (b := b)
  by_cases h : b.till ≤ b.frm
  · rw [decide_eq_true (by have := h6.2 h; omega), decide_eq_true (by omega)]; rfl
  · rw [decide_eq_false (fun e => h (h6.1 (by omega))), decide_eq_false (by omega)]; rfl
theorem folE_zero {p : EPair} {b : EBlk} (h : folE p b = 0) : ¬ b.till ≤ b.frm ∧ (b.frm / 24 < b.till / 24 ∨ p.next.len + 1 < 4294967296) := by
  refine ⟨fun hl => (by rw [folE_six.2 hl] at h; cases h), ?_⟩
  unfold folE at h
  split at h
  · cases h
  · split at h
    · rename_i h2; exact .inl h2
    · split at h
      · rename_i h3; exact .inr h3
      · cases h
structure Turned (p q : EPair) (b : EBlk) : Prop where
  now : q.now = p.next
  led : q.next.led = b.led
  start : q.next.start = b.prev
  len : q.next.len = 1
  lock : b.till % 24 < 16 → q.next.lock = b.prev
  lock' : ¬ b.till % 24 < 16 → q.next.lock = Z32
  seed : ¬ b.till % 24 < 16 → q.next.seed = p.next.seed
structure Stayed (p q : EPair) (b : EBlk) : Prop where
  lt : p.next.len + 1 < 4294967296
  now : q.now = p.now
  led : q.next.led = p.next.led
  start : q.next.start = p.next.start
  len : q.next.len = p.next.len + 1
  lock : b.till % 24 < 16 → q.next.lock = b.prev
  lock' : ¬ b.till % 24 < 16 → q.next.lock = p.next.lock
  seed : ¬ b.till % 24 < 16 → q.next.seed = p.next.seed
theorem turned {p : EPair} {b : EBlk} (h : folE p b = 0) (ht : b.frm / 24 < b.till / 24) : Turned p (folP p b) b := by
  obtain ⟨h1, _⟩ := folE_zero h
  rw [(fol_turn h1 ht).2]
  by_cases hl : b.till % 24 < 16
  · rw [lockD_yes hl]; exact ⟨rfl, rfl, rfl, rfl, fun _ => rfl, fun h => absurd hl h, fun h => absurd hl h⟩
  · rw [lockD_no hl]; exact ⟨rfl, rfl, rfl, rfl, fun h => absurd h hl, fun _ => rfl, fun _ => rfl⟩
theorem stayed {p : EPair} {b : EBlk} (h : folE p b = 0) (ht : ¬ b.frm / 24 < b.till / 24) : Stayed p (folP p b) b := by
  obtain ⟨h1, h2⟩ := folE_zero h
  have h2 : p.next.len + 1 < 4294967296 := h2.resolve_left ht
  rw [(fol_stay h1 ht h2).2]
  by_cases hl : b.till % 24 < 16
  · rw [lockD_yes hl]; exact ⟨h2, rfl, rfl, rfl, rfl, fun _ => rfl, fun h => absurd hl h, fun h => absurd hl h⟩
  · rw [lockD_no hl]; exact ⟨h2, rfl, rfl, rfl, rfl, fun h => absurd h hl, fun _ => rfl, fun _ => rfl⟩
end Go.Alm

/- Layers 6, 7 and 10, plainly: rings, windows, and children. -/
namespace Go.Alm
open Go Go.RowKit
/-- What place `i` counts of the sub-windows up to `n`: nothing, if its sub-window is behind the last one that was counted. -/
def kp (last n i c : Nat) : Nat := if n ≤ last + (n + 4 - i) % 4 then c else 0
theorem kp_le (last n i c : Nat) : kp last n i c ≤ c := by unfold kp; split <;> omega
def RRing.cn (r : RRing) (i : Nat) : Nat := r.counts.getD i 0
/-- The ring, as it is looked at up to sub-window `n`. -/
def ringTo (r : RRing) (n : Nat) : RRing := ⟨r.last, [kp r.last n 0 (r.cn 0), kp r.last n 1 (r.cn 1), kp r.last n 2 (r.cn 2), kp r.last n 3 (r.cn 3)]⟩
def ringSum (r : RRing) : Nat := r.cn 0 + r.cn 1 + r.cn 2 + r.cn 3
def kq (r : RRing) (n i : Nat) : Nat := kp r.last n i (r.cn i) + (if n % 4 = i then 1 else 0)
def ringAdd (r : RRing) (n : Nat) : RRing := ⟨n, [kq r n 0, kq r n 1, kq r n 2, kq r n 3]⟩
def ring0 : RRing := ⟨0, [0, 0, 0, 0]⟩
def ringPE (r : RRing) (n : Nat) : Nat := if n < r.last then 6 else if n = r.last ∧ 3 ≤ r.cn (n % 4) then 11 else 0
def ringPut (r : RRing) (n : Nat) : RRing := if ringPE r n = 0 then ringAdd r n else ring0
def ringBE (r : RRing) (n : Nat) : Nat := if n ≤ r.last then 6 else 0
def ringBef (r : RRing) (n : Nat) : Nat := if n ≤ r.last then 0 else ringSum (ringTo r (n - 1))
def winRel (x : RWin) (s : Nat) : Nat := if s < 12 ∨ s / 3 ≤ x.ring.last then x.min else min x.min (ringBef x.ring (s / 3))
def win0 : RWin := ⟨0, ring0⟩
def winPut (x : RWin) (s : Nat) : RWin := if ringPE x.ring (s / 3) = 0 then ⟨winRel x s, ringAdd x.ring (s / 3)⟩ else win0
theorem ring0_ok : ring0.Ok := ⟨by decide, by decide⟩
theorem win0_ok : win0.Ok := ⟨by decide, ring0_ok⟩
/-- Few enough to be added. -/
def RRing.Few (r : RRing) : Prop := r.cn 0 + r.cn 1 + r.cn 2 + r.cn 3 < 4294967295
theorem RRing.Right.few {r : RRing} (h : r.Right) : r.Few := by
  obtain ⟨h0, h1, h2, h3, _⟩ := h
  unfold RRing.Few RRing.cn; omega
theorem RRing.Right.le {r : RRing} (h : r.Right) (i : Nat) (hi : i < 4) : r.cn i ≤ 3 := by
  obtain ⟨h0, h1, h2, h3, _⟩ := h
  unfold RRing.cn
  match i, hi with
  | 0, _ => exact h0
  | 1, _ => exact h1
  | 2, _ => exact h2
  | 3, _ => exact h3
theorem n4_mk {a b c d : Nat} (ha : a < 4294967296) (hb : b < 4294967296) (hc : c < 4294967296) (hd : d < 4294967296) : N4 [a, b, c, d] := ⟨rfl, fun x hx => by
  simp only [List.mem_cons, List.not_mem_nil, or_false] at hx
  omega⟩
theorem ringTo_ok {r : RRing} (h : r.Ok) (n : Nat) : (ringTo r n).Ok := ⟨h.last, n4_mk (Nat.lt_of_le_of_lt (kp_le _ _ _ _) (h.counts.lt 0)) (Nat.lt_of_le_of_lt (kp_le _ _ _ _) (h.counts.lt 1)) (Nat.lt_of_le_of_lt (kp_le _ _ _ _) (h.counts.lt 2)) (Nat.lt_of_le_of_lt (kp_le _ _ _ _) (h.counts.lt 3))⟩
theorem ringTo_few {r : RRing} (h : r.Few) (n : Nat) : (ringTo r n).Few := by
  have h0 := kp_le r.last n 0 (r.cn 0); have h1 := kp_le r.last n 1 (r.cn 1); have h2 := kp_le r.last n 2 (r.cn 2); have h3 := kp_le r.last n 3 (r.cn 3)
  unfold RRing.Few at *
  show kp r.last n 0 (r.cn 0) + kp r.last n 1 (r.cn 1) + kp r.last n 2 (r.cn 2) + kp r.last n 3 (r.cn 3) < _
  omega
theorem kq_lt {r : RRing} (h : r.Few) (n i : Nat) (hi : i < 4) : kq r n i < 4294967296 := by
  have := kp_le r.last n i (r.cn i)
  have hc : r.cn i < 4294967295 := by unfold RRing.Few at h; match i, hi with | 0, _ => omega | 1, _ => omega | 2, _ => omega | 3, _ => omega
  unfold kq; split <;> omega
theorem ringAdd_ok {r : RRing} (h : r.Few) {n : Nat} (hn : n < 4294967296) : (ringAdd r n).Ok := ⟨hn, n4_mk (kq_lt h n 0 (by decide)) (kq_lt h n 1 (by decide)) (kq_lt h n 2 (by decide)) (kq_lt h n 3 (by decide))⟩
theorem ringPut_ok {r : RRing} (h : r.Few) {n : Nat} (hn : n < 4294967296) : (ringPut r n).Ok := by unfold ringPut; split; exact ringAdd_ok h hn; exact ring0_ok
theorem ringBef_lt {r : RRing} (h : r.Few) (n : Nat) : ringBef r n < 4294967296 := by
  have := ringTo_few h (n - 1)
  unfold ringBef ringSum
  unfold RRing.Few at this
  split <;> omega
theorem winRel_le (x : RWin) (s : Nat) : winRel x s ≤ x.min := by unfold winRel; split <;> omega
theorem winPut_ok {x : RWin} (hx : x.Ok) (h : x.ring.Few) {s : Nat} (hs : s < 4294967296) : (winPut x s).Ok := by
  unfold winPut; split
  · exact ⟨Nat.lt_of_le_of_lt (winRel_le x s) hx.min, ringAdd_ok h (by omega)⟩
  · exact win0_ok
/-! ### the steps of the code -/
theorem ringSum_eq (r : RRing) : r.counts.getD 0 0 + r.counts.getD 1 0 + r.counts.getD 2 0 + r.counts.getD 3 0 = ringSum r := rfl
/-- What was passed is dropped, one place behind the other. -/
def zap (l : List Nat) (a : Nat) : Nat → List Nat
  | 0 => l
  | k + 1 => (zap l a k).set ((a + 1 + k) % 4) 0
theorem zap_n4 {l : List Nat} (h : N4 l) (a : Nat) : ∀ k, N4 (zap l a k)
  | 0 => h
  | k + 1 => by
    have ih := zap_n4 h a k
    refine ⟨by rw [zap, List.length_set]; exact ih.1, fun x hx => ?_⟩
    rcases List.mem_or_eq_of_mem_set hx with hx | hx
    · exact ih.2 x hx
    · omega
theorem list4 {l : List Nat} (h : l.length = 4) : l = [l.getD 0 0, l.getD 1 0, l.getD 2 0, l.getD 3 0] := by
  match l, h with
  | [a, b, c, d], _ => rfl
theorem getD_set0 (l : List Nat) (i j : Nat) (h : i < l.length) : (l.set i 0).getD j 0 = if i = j then 0 else l.getD j 0 := by
  simp only [List.getD_eq_getElem?_getD, List.getElem?_set]
  split
  · rename_i e; subst e; simp [h]
  · rfl
theorem zap_get {l : List Nat} (h : N4 l) (last : Nat) : ∀ k, k ≤ 4 → ∀ i, i < 4 → (zap l (last % 4) k).getD i 0 = kp last (last + k) i (l.getD i 0)
  | 0, _, i, hi => by rw [zap, kp, if_pos (by omega)]
  | k + 1, hk, i, hi => by
    have ih := zap_get h last k (by omega) i hi
    rw [zap, getD_set0 _ _ _ (by rw [(zap_n4 h _ k).1]; omega), ih]
    unfold kp
    by_cases e : (last % 4 + 1 + k) % 4 = i
    · rw [if_pos e, if_neg (by omega)]
    · rw [if_neg e]
      by_cases g : last + k ≤ last + (last + k + 4 - i) % 4
      · rw [if_pos g, if_pos (by omega)]
      · rw [if_neg g, if_neg (by omega)]
theorem kp_far (last n i c : Nat) (h : last + 4 ≤ n) : kp last n i c = 0 := by rw [kp, if_neg (by omega)]
theorem zap_to {r : RRing} (h : r.Ok) {n : Nat} (h1 : r.last < n) (h2 : n - r.last - 1 < 4) : (⟨r.last, zap r.counts (r.last % 4) (n - r.last - 1)⟩ : RRing) = ringTo r (n - 1) := by
  have e := list4 (zap_n4 h.counts (r.last % 4) (n - r.last - 1)).1
  have g := fun i hi => zap_get h.counts r.last (n - r.last - 1) (by omega) i hi
  rw [g 0 (by decide), g 1 (by decide), g 2 (by decide), g 3 (by decide), show r.last + (n - r.last - 1) = n - 1 by omega] at e
  rw [e]; rfl
theorem to_far (r : RRing) {n : Nat} (h : r.last + 4 ≤ n) : (⟨r.last, [0, 0, 0, 0]⟩ : RRing) = ringTo r n := by
  rw [ringTo, kp_far _ _ _ _ h, kp_far _ _ _ _ h, kp_far _ _ _ _ h, kp_far _ _ _ _ h]
/-- One more at a place. -/
theorem set_inc {l : List Nat} (h : l.length = 4) {p : Nat} (hp : p < 4) : l.set p (l.getD p 0 + 1) = [l.getD 0 0 + (if p = 0 then 1 else 0), l.getD 1 0 + (if p = 1 then 1 else 0), l.getD 2 0 + (if p = 2 then 1 else 0), l.getD 3 0 + (if p = 3 then 1 else 0)] := by
  match l, h, p, hp with
  | [a, b, c, d], _, 0, _ => rfl
  | [a, b, c, d], _, 1, _ => rfl
  | [a, b, c, d], _, 2, _ => rfl
  | [a, b, c, d], _, 3, _ => rfl
theorem kp_same (last i c : Nat) : kp last last i c = c := by rw [kp, if_pos (by omega)]
theorem put_same {r : RRing} (h : r.Ok) : (⟨r.last, r.counts.set (r.last % 4) (r.counts.getD (r.last % 4) 0 + 1)⟩ : RRing) = ringAdd r r.last := by
  rw [set_inc h.counts.1 (Nat.mod_lt _ (by decide)), ringAdd]
  simp only [kq, kp_same]; rfl
theorem put_later {r : RRing} {n : Nat} (h : r.last < n) : (⟨n, ((ringTo r (n - 1)).counts.set (n % 4) 0).set (n % 4) (((ringTo r (n - 1)).counts.set (n % 4) 0).getD (n % 4) 0 + 1)⟩ : RRing) = ringAdd r n := by
  have hl : ((ringTo r (n - 1)).counts.set (n % 4) 0).length = 4 := by rw [List.length_set]; rfl
  rw [set_inc hl (Nat.mod_lt _ (by decide)), ringAdd]
  have key : ∀ i, i < 4 → (((ringTo r (n - 1)).counts.set (n % 4) 0).getD i 0 + (if n % 4 = i then 1 else 0)) = kq r n i := by
    intro i hi
    rw [getD_set0 _ _ _ (by show n % 4 < 4; omega)]
    have hc : (ringTo r (n - 1)).counts.getD i 0 = kp r.last (n - 1) i (r.cn i) := by
      match i, hi with
      | 0, _ => rfl
      | 1, _ => rfl
      | 2, _ => rfl
      | 3, _ => rfl
    unfold kq
    by_cases e : n % 4 = i
    · rw [if_pos e, if_pos e, kp, if_neg (by omega)]
    · rw [if_neg e, if_neg e, hc]
      unfold kp
      by_cases g : n ≤ r.last + (n + 4 - i) % 4
      · rw [if_pos g, if_pos (by omega)]
      · rw [if_neg g, if_neg (by omega)]
  rw [key 0 (by decide), key 1 (by decide), key 2 (by decide), key 3 (by decide)]
/-! ### the reference's steps -/
/-- The last sub-window up to `n` that place `i` counts. -/
def ofZ (n i : Nat) : Int := (n : Int) - (((n + 4 - i) % 4 : Nat) : Int)
def atR (r : RRing) (g : Int) : Nat := if ofZ r.last 0 = g then r.cn 0 else if ofZ r.last 1 = g then r.cn 1 else if ofZ r.last 2 = g then r.cn 2 else if ofZ r.last 3 = g then r.cn 3 else 0
theorem ofZ_eq {last n i j : Nat} (hi : i < 4) (hj : j < 4) (h : last ≤ n) : ofZ last i = ofZ n j ↔ i = j ∧ n ≤ last + (n + 4 - j) % 4 := by unfold ofZ; omega
theorem at_of (r : RRing) {n j : Nat} (hj : j < 4) (h : r.last ≤ n) : atR r (ofZ n j) = kp r.last n j (r.cn j) := by
  unfold atR kp
  simp only [ofZ_eq (i := 0) (by decide) hj h, ofZ_eq (i := 1) (by decide) hj h, ofZ_eq (i := 2) (by decide) hj h, ofZ_eq (i := 3) (by decide) hj h]
  by_cases g : n ≤ r.last + (n + 4 - j) % 4
  · match j, hj, g with
    | 0, _, g => simp [g]
    | 1, _, g => simp [g]
    | 2, _, g => simp [g]
    | 3, _, g => simp [g]
  · simp [g]
theorem at_le {r : RRing} (h : r.Right) (g : Int) : atR r g ≤ 3 := by
  have h0 := h.le 0 (by decide); have h1 := h.le 1 (by decide); have h2 := h.le 2 (by decide); have h3 := h.le 3 (by decide)
  unfold atR
  repeat' split
  all_goals omega
theorem at_back (r : RRing) {n : Nat} (h : r.last < n) (i : Nat) (h1 : 1 ≤ i) (h4 : i ≤ 4) : atR r ((n : Int) - (i : Int)) = kp r.last (n - 1) ((n + 4 - i) % 4) (r.cn ((n + 4 - i) % 4)) := by
  rw [← at_of r (Nat.mod_lt _ (by decide)) (by omega)]
  congr 1
  unfold ofZ; omega
theorem bef_sum {r : RRing} {n : Nat} (h : r.last < n) : atR r ((n : Int) - (1 : Int)) + atR r ((n : Int) - (2 : Int)) + atR r ((n : Int) - (3 : Int)) + atR r ((n : Int) - (4 : Int)) = ringBef r n := by
  have e1 := at_back r h 1 (by decide) (by decide); have e2 := at_back r h 2 (by decide) (by decide); have e3 := at_back r h 3 (by decide) (by decide); have e4 := at_back r h 4 (by decide) (by decide)
  rw [show ((1 : Nat) : Int) = (1 : Int) from rfl] at e1
  rw [show ((2 : Nat) : Int) = (2 : Int) from rfl] at e2
  rw [show ((3 : Nat) : Int) = (3 : Int) from rfl] at e3
  rw [show ((4 : Nat) : Int) = (4 : Int) from rfl] at e4
  rw [e1, e2, e3, e4, ringBef, if_neg (by omega)]
  show _ = kp r.last (n - 1) 0 (r.cn 0) + kp r.last (n - 1) 1 (r.cn 1) + kp r.last (n - 1) 2 (r.cn 2) + kp r.last (n - 1) 3 (r.cn 3)
  have hm : n % 4 < 4 := Nat.mod_lt _ (by decide)
  generalize hq : n % 4 = q at hm
  match q, hm, hq with
  | 0, _, hq => rw [show (n + 4 - 1) % 4 = 3 by omega, show (n + 4 - 2) % 4 = 2 by omega, show (n + 4 - 3) % 4 = 1 by omega, show (n + 4 - 4) % 4 = 0 by omega]; omega
  | 1, _, hq => rw [show (n + 4 - 1) % 4 = 0 by omega, show (n + 4 - 2) % 4 = 3 by omega, show (n + 4 - 3) % 4 = 2 by omega, show (n + 4 - 4) % 4 = 1 by omega]; omega
  | 2, _, hq => rw [show (n + 4 - 1) % 4 = 1 by omega, show (n + 4 - 2) % 4 = 0 by omega, show (n + 4 - 3) % 4 = 3 by omega, show (n + 4 - 4) % 4 = 2 by omega]; omega
  | 3, _, hq => rw [show (n + 4 - 1) % 4 = 2 by omega, show (n + 4 - 2) % 4 = 1 by omega, show (n + 4 - 3) % 4 = 0 by omega, show (n + 4 - 4) % 4 = 3 by omega]; omega
theorem rput_eq {r : RRing} {n : Nat} (h : r.last ≤ n) : (⟨n, [atR r (ofZ n 0), atR r (ofZ n 1), atR r (ofZ n 2), atR r (ofZ n 3)].set (n % 4) ([atR r (ofZ n 0), atR r (ofZ n 1), atR r (ofZ n 2), atR r (ofZ n 3)].getD (n % 4) 0 + 1)⟩ : RRing) = ringAdd r n := by
  rw [set_inc rfl (Nat.mod_lt _ (by decide)), at_of r (by decide) h, at_of r (by decide) h, at_of r (by decide) h, at_of r (by decide) h]
  rfl
/-- What Go's remainder by four is told of. -/
def tm (x : Int) : Int := x.tmod 4
theorem tm_spec (x : Int) : (tm x - x) % 4 = 0 ∧ -4 < tm x ∧ tm x < 4 ∧ (0 ≤ x → 0 ≤ tm x) := by
  have h1 := Int.mul_tdiv_add_tmod x 4
  have h2 := Int.tmod_lt_of_pos x (b := 4) (by decide)
  have h3 : -4 < x.tmod 4 := by
    have := Int.lt_tmod_of_pos x (b := 4) (by decide)
    omega
  unfold tm
  exact ⟨by omega, h3, h2, fun h => Int.tmod_nonneg 4 h⟩
/-! ### what the code does, step by step -/
theorem n4_set {l : List Nat} (h : N4 l) (p v : Nat) (hv : v < 4294967296) : N4 (l.set p v) := ⟨by rw [List.length_set]; exact h.1, fun x hx => by
  rcases List.mem_or_eq_of_mem_set hx with hx | hx
  · exact h.2 x hx
  · omega⟩
def zp (r : RRing) (g k : Nat) : List Nat := if 4 ≤ g then [0, 0, 0, 0] else zap r.counts (r.last % 4) k
theorem zp_step (r : RRing) (g k : Nat) : (zp r g k).set ((r.last % 4 + 1 + k) % 4) 0 = zp r g (k + 1) := by
  unfold zp
  split
  · have : (r.last % 4 + 1 + k) % 4 < 4 := Nat.mod_lt _ (by decide)
    generalize (r.last % 4 + 1 + k) % 4 = p at this
    match p, this with
    | 0, _ => rfl
    | 1, _ => rfl
    | 2, _ => rfl
    | 3, _ => rfl
  · rfl
theorem zp_far (r : RRing) {g : Nat} (k : Nat) (h : 4 ≤ g) : zp r g k = [0, 0, 0, 0] := if_pos h
theorem zp_near (r : RRing) {g : Nat} (h : ¬ 4 ≤ g) : zp r g 0 = r.counts := if_neg h
theorem zp_n4 {r : RRing} (h : r.Ok) (g k : Nat) : N4 (zp r g k) := by
  unfold zp; split
  · exact n4_mk (by decide) (by decide) (by decide) (by decide)
  · exact zap_n4 h.counts _ k
theorem zp_end {r : RRing} (h : r.Ok) {n k : Nat} (hl : r.last < n) (hk : k = min (n - r.last - 1) 4) : (⟨r.last, zp r (n - r.last - 1) k⟩ : RRing) = ringTo r (n - 1) := by
  unfold zp
  split
  · exact to_far r (by omega)
  · rw [hk, Nat.min_eq_left (by omega)]; exact zap_to h hl (by omega)
theorem putP_6 {r : RRing} {n : Nat} (h : n < r.last) : ringPut r n = ring0 ∧ ringPE r n = 6 := by
  have e : ringPE r n = 6 := if_pos h
  exact ⟨by rw [ringPut, e]; rfl, e⟩
theorem putP_11 {r : RRing} {n : Nat} (h : n = r.last) (k : 3 ≤ r.cn (n % 4)) : ringPut r n = ring0 ∧ ringPE r n = 11 := by
  have e : ringPE r n = 11 := by rw [ringPE, if_neg (by omega), if_pos ⟨h, k⟩]
  exact ⟨by rw [ringPut, e]; rfl, e⟩
theorem putP_same {r : RRing} (hr : r.Ok) {n : Nat} (h : n = r.last) (k : ¬ 3 ≤ r.cn (n % 4)) : ringPut r n = (⟨r.last, r.counts.set (n % 4) (r.counts.getD (n % 4) 0 + 1)⟩ : RRing) ∧ ringPE r n = 0 := by
  subst h
  have e : ringPE r r.last = 0 := by rw [ringPE, if_neg (by omega), if_neg (fun q => k q.2)]
  exact ⟨by rw [ringPut, e, put_same hr]; rfl, e⟩
theorem putP_later {r : RRing} {n : Nat} (h : r.last < n) : ringPut r n = (⟨n, ((ringTo r (n - 1)).counts.set (n % 4) 0).set (n % 4) (((ringTo r (n - 1)).counts.set (n % 4) 0).getD (n % 4) 0 + 1)⟩ : RRing) ∧ ringPE r n = 0 := by
  have e : ringPE r n = 0 := by rw [ringPE, if_neg (by omega), if_neg (by omega)]
  exact ⟨by rw [ringPut, e, put_later h]; rfl, e⟩
theorem putP_ok {r : RRing} {n : Nat} (h : r.last ≤ n) (k : n = r.last → ¬ 3 ≤ r.cn (n % 4)) : ringPut r n = ringAdd r n ∧ ringPE r n = 0 := by
  have e : ringPE r n = 0 := by rw [ringPE, if_neg (by omega), if_neg (fun q => k q.1 q.2)]
  exact ⟨by rw [ringPut, e]; rfl, e⟩
theorem inc_zero {l : List Nat} (h : l.length = 4) {p : Nat} (hp : p < 4) : (l.set p 0).getD p 0 = 0 := by rw [getD_set0 _ _ _ (by omega), if_pos rfl]
theorem rel_min {x : RWin} {s : Nat} (h : s < 12 ∨ ¬ ringBE x.ring (s / 3) = 0) : winRel x s = x.min := by
  unfold winRel
  rw [if_pos]
  rcases h with h | h
  · exact .inl h
  · right
    unfold ringBE at h
    split at h
    · assumption
    · exact absurd rfl h
theorem rel_least {x : RWin} {s : Nat} (h : ¬ s < 12) (k : ringBE x.ring (s / 3) = 0) : winRel x s = min x.min (ringBef x.ring (s / 3)) := by
  unfold winRel
  rw [if_neg]
  rintro (q | q)
  · exact h q
  · unfold ringBE at k
    rw [if_pos q] at k
    exact absurd k (by decide)
theorem winPut_yes {x : RWin} {s : Nat} (h : ringPE x.ring (s / 3) = 0) : winPut x s = ⟨winRel x s, ringPut x.ring (s / 3)⟩ := by rw [winPut, if_pos h, ringPut, if_pos h]
theorem winPut_no {x : RWin} {s : Nat} (h : ¬ ringPE x.ring (s / 3) = 0) : winPut x s = win0 := if_neg h
theorem ringBE_no {r : RRing} {n : Nat} (h : r.last < n) : ringBE r n = 0 := if_neg (by omega)
theorem bef_few {r : RRing} (h : r.Right) : r.counts.getD 0 0 + r.counts.getD 1 0 + r.counts.getD 2 0 + r.counts.getD 3 0 < 4294967295 := h.few
theorem at_last {r : RRing} {n : Nat} (h : n = r.last) : atR r ((n : Nat) : Int) = r.cn (n % 4) := by
  have := at_of r (n := n) (j := n % 4) (Nat.mod_lt _ (by decide)) (by omega)
  rw [kp, if_pos (by omega)] at this
  rw [← this]
  congr 1
  unfold ofZ
  omega
theorem rrel_eq {x : RWin} {s : Nat} (h : ¬ s < 12) (k : ¬ s / 3 ≤ x.ring.last) (q : ringBef x.ring (s / 3) < x.min) : winRel x s = ringBef x.ring (s / 3) := by
  unfold winRel
  rw [if_neg (by omega)]; omega
theorem rrel_min {x : RWin} {s : Nat} (h : s < 12 ∨ s / 3 ≤ x.ring.last ∨ ¬ ringBef x.ring (s / 3) < x.min) : winRel x s = x.min := by
  unfold winRel
  split
  · rfl
  · omega
theorem getD4_le {a b c d m : Nat} (ha : a ≤ m) (hb : b ≤ m) (hc : c ≤ m) (hd : d ≤ m) (p : Nat) : [a, b, c, d].getD p 0 ≤ m := by
  match p with
  | 0 => exact ha
  | 1 => exact hb
  | 2 => exact hc
  | 3 => exact hd
  | n + 4 => exact Nat.zero_le _
end Go.Alm

/- The smaller, the greater of two numbers; a row that is cleared. -/
namespace Go.Alm
open Go Go.RowKit
def mmOf : Op → Option (Bool × Operand × Operand)
  | .call c => match c.callee, c.args.toList with
    | .builtin .min, [x, y] => some (true, x, y)
    | .builtin .max, [x, y] => some (false, x, y)
    | _, _ => none
  | _ => none
def clearOf : Op → Option (Operand × Nat)
  | .call c => match c.callee, c.args.toList, c.argTypes.toList with
    | .builtin .clear, [x], [t] => some (x, t)
    | _, _, _ => none
  | _ => none
section
variable {P : Program} {Q : Exit → Act → World → Prop} {a : Act} {w : World}
theorem run_mm {o : Oper} (b : Bool) (x y : Operand) (kd kd' : IntKind) (m n : Int) (ho : mmOf o.op = some (b, x, y)) (hx : a.eval x = .int kd m) (hy : a.eval y = .int kd' n) :
    (execOp a.eval o).run P w = .ok (.value (.int kd (cond b (if n < m then n else m) (if n > m then n else m)))) w := by
  unfold mmOf at ho
  split at ho
  · rename_i c hc
    obtain ⟨cal, args, tys⟩ := c
    split at ho
    · rename_i h1 h2
      simp only [Option.some.injEq, Prod.mk.injEq] at ho
      obtain ⟨rfl, rfl, rfl⟩ := ho
      simp only at h1 h2
      obtain rfl : args = #[_, _] := by rw [← Array.toArray_toList (xs := args), h2]
      subst h1
      unfold execOp
      simp [hc, resolve, invoke, builtin, hx, hy, Builtin.min_, Builtin.min2, Result.andThen]
    · rename_i h1 h2
      simp only [Option.some.injEq, Prod.mk.injEq] at ho
      obtain ⟨rfl, rfl, rfl⟩ := ho
      simp only at h1 h2
      obtain rfl : args = #[_, _] := by rw [← Array.toArray_toList (xs := args), h2]
      subst h1
      unfold execOp
      simp [hc, resolve, invoke, builtin, hx, hy, Builtin.max_, Builtin.max2, Result.andThen]
    · cases ho
  · cases ho
theorem op_clear {o : Oper} {K : Act → World → Prop} (x : Operand) (t e n cap b off : Nat) (z : Value) (c : Array Value) (te : Nat) (c' : Array Value) (ho : clearOf o.op = some (x, t)) (ht : P.underlying t = some (.slice e))
    (hz : (P.info? e).bind (·.zero) = some z) (hn : 0 < n) (hx : a.eval x = .slice (some ⟨b, off, none⟩) n cap) (hb : w.heap[b]? = some (.cells c te (0, 0))) (hle : off + (Builtin.zeroCells z.cells n).size ≤ c.size)
    (h1 : (Builtin.zeroCells z.cells n).toList.all (·.oneCell') = true) (hc' : spl c off (Builtin.zeroCells z.cells n) = c')
    (k : ∀ w', w'.heap[b]? = some (.cells c' te (0, 0)) → w'.heap.size = w.heap.size → Fr w w' (One b) → K (a.put o.dst (.tuple #[])) w') : OpW P o a w K Q := by
  unfold clearOf at ho
  split at ho
  · rename_i cl hc
    obtain ⟨cal, args, tys⟩ := cl
    split at ho
    · rename_i h2 h3 h4
      simp only [Option.some.injEq, Prod.mk.injEq] at ho
      obtain ⟨rfl, rfl⟩ := ho
      simp only at h2 h3 h4
      obtain rfl : args = #[_] := by rw [← Array.toArray_toList (xs := args), h3]
      obtain rfl : tys = #[_] := by rw [← Array.toArray_toList (xs := tys), h4]
      subst h2
      obtain ⟨inf, hi, hz⟩ := Option.bind_eq_some_iff.1 hz
      have hzv : (zeroValue e).run P w = .ok z w := by simp [zeroValue, typeInfo, hi, hz]
      have hst := run_storeCells_at P b off te (Builtin.zeroCells z.cells n).toList 0 c w hb (by simpa using hle) (fun u hu => List.all_eq_true.1 h1 u hu)
      subst hc'
      refine op_run (.tuple #[]) (w.setRow b (spl c off (Builtin.zeroCells z.cells n))) ?_ (k _ (setRow_heap w b c _ te _ hb) (size_setRow _ _ _) ⟨rfl, rfl, rfl, by simp, fun j _ hj => setRow_other w b j _ hj⟩)
      obtain ⟨n, rfl⟩ : ∃ k, n = k + 1 := ⟨n - 1, by omega⟩
      unfold execOp
      simp [hc, resolve, invoke, builtin, hx, Builtin.clear_, run_underlying ht, hzv, hst, spl, Result.andThen]
    · cases ho
  · cases ho
end
section
variable {P : Program} {Q : Exit → Act → World → Prop} {L : List Iv} {s : St} {RO FZ OW : List Rc}
def mmX (s : St) : Operand := ((mmOf (cur s).op).getD (true, .tmp 0, .tmp 0)).2.1
def mmY (s : St) : Operand := ((mmOf (cur s).op).getD (true, .tmp 0, .tmp 0)).2.2
def mmIs (s : St) (b : Bool) : Bool := match mmOf (cur s).op with | some (b', _, _) => b == b' | none => false
theorem mm_spec {b : Bool} (h : mmIs s b = true) : mmOf (cur s).op = some (b, mmX s, mmY s) := by
  unfold mmIs at h
  unfold mmX mmY
  cases hl : mmOf (cur s).op with
  | none => rw [hl] at h; cases h
  | some x =>
    obtain ⟨b', x, y⟩ := x
    rw [hl] at h
    simp only [beq_iff_eq] at h
    subst h; rfl
theorem m_min (n : Nat) (kd : IntKind) (x y m : Nat) (hm : min x y = m) (k : J P Q L (nx (go P n s) (.int kd (m : Int))) RO FZ OW) (hx : (go P n s).a.eval (mmX (go P n s)) = .int kd (x : Int) := by kernel_rfl) (hy : (go P n s).a.eval (mmY (go P n s)) = .int kd (y : Int) := by kernel_rfl)
    (hc : mmIs (go P n s) true = true := by kernel_rfl) (hon : onW (go P n s) = true := by kernel_rfl) : J P Q L s RO FZ OW :=
  m_p n (.int kd (m : Int)) (fun w => by rw [run_mm true _ _ _ _ _ _ (mm_spec hc) hx hy, cond_true, show (if (y : Int) < (x : Int) then (y : Int) else (x : Int)) = (m : Int) by split <;> omega]) k hon
theorem m_max (n : Nat) (kd : IntKind) (x y m : Nat) (hm : max x y = m) (k : J P Q L (nx (go P n s) (.int kd (m : Int))) RO FZ OW) (hx : (go P n s).a.eval (mmX (go P n s)) = .int kd (x : Int) := by kernel_rfl) (hy : (go P n s).a.eval (mmY (go P n s)) = .int kd (y : Int) := by kernel_rfl)
    (hc : mmIs (go P n s) false = true := by kernel_rfl) (hon : onW (go P n s) = true := by kernel_rfl) : J P Q L s RO FZ OW :=
  m_p n (.int kd (m : Int)) (fun w => by rw [run_mm false _ _ _ _ _ _ (mm_spec hc) hx hy, cond_false, show (if (y : Int) > (x : Int) then (y : Int) else (x : Int)) = (m : Int) by split <;> omega]) k hon
def clX (s : St) : Operand := ((clearOf (cur s).op).getD (.tmp 0, 0)).1
def clT (s : St) : Nat := ((clearOf (cur s).op).getD (.tmp 0, 0)).2
def slE (P : Program) (t : Nat) : Nat := match P.underlying t with | some (.slice e) => e | _ => 0
/-- A part of a block is cleared. -/
theorem m_clear (n i m cap b off : Nat) (z : Value) (k : J P Q L (nx (go P n s) (.tuple #[])) RO FZ (OW.set i (.blk b (spl (gr OW i).c off (Builtin.zeroCells z.cells m)) (gr OW i).te)))
    (hx : (go P n s).a.eval (clX (go P n s)) = .slice (some ⟨b, off, none⟩) m cap := by kernel_rfl) (hz : (P.info? (slE P (clT (go P n s)))).bind (·.zero) = some z := by kernel_rfl)
    (h1 : (Builtin.zeroCells z.cells m).toList.all (·.oneCell') = true := by kernel_rfl) (hle : Nat.ble (off + (Builtin.zeroCells z.cells m).size) (gr OW i).c.size = true := by kernel_rfl)
    (hb : (gr OW i).b = b := by kernel_rfl)
    (hc : ((clearOf (cur (go P n s)).op).isSome && isSl P (clT (go P n s)) && (gr OW i).isBlk && Nat.blt 0 m && (acts (go P n s) && onW (go P n s))) = true := by kernel_rfl) : J P Q L s RO FZ OW := by
  simp only [Bool.and_eq_true] at hc
  obtain ⟨⟨⟨⟨h4, h5⟩, h3⟩, hm⟩, h8⟩ := hc
  subst hb
  have hi := gr_some h3
  obtain ⟨e, he⟩ := isSl_spec h5
  have hse : slE P (clT (go P n s)) = e := by unfold slE; rw [he]
  rw [hse] at hz
  have ho : clearOf (cur (go P n s)).op = some (clX (go P n s), clT (go P n s)) := by
    unfold clX clT
    cases hl : clearOf (cur (go P n s)).op with
    | none => rw [hl] at h4; cases h4
    | some x => rfl
  refine m_act n (fun w hw _ => ?_) (by rw [Bool.and_eq_true]; exact h8)
  have hA : (gr OW i).A w := hw.a _ (by simp only [List.mem_append]; exact .inr (.inr (List.mem_of_getElem? hi)))
  have hS : (gr OW i).S = One (gr OW i).b := by rw [Rc.blk_eq h3]; rfl
  rw [Rc.blk_eq h3] at hA
  refine op_clear _ _ e m cap _ off z _ _ _ ho he hz (Nat.le_of_ble_eq_true hm) hx hA (Nat.le_of_ble_eq_true hle) h1 rfl fun w' hb hz F => ⟨_, _, rfl, Hs.set (r' := .blk _ _ _) hw hi (by rw [hS]; exact F) hb ?_, k⟩
  rw [hS]
  exact New.refl _ _
end
end Go.Alm

/- Layers 10 and 11, plainly: children, chains, and lines. -/
namespace Go.Alm
open Go Go.RowKit
structure GBlk where
  slot : Nat
  led : List Nat
  draw : List Nat
instance : Inhabited GBlk := ⟨⟨0, Z32, Z32⟩⟩
structure GBlk.Ok (b : GBlk) : Prop where
  slot : b.slot < 4294967296
  led : H32 b.led
  draw : H32 b.draw
def GBlk.cells (b : GBlk) : Array Value := aj (aj #[.int .u32 (b.slot : Int)] (hv b.led)) (hv b.draw)
theorem GBlk.size (b : GBlk) : b.cells.size = 65 := by rw [GBlk.cells, aj_size, aj_size, hv_size, hv_size]; rfl
theorem GBlk.wf {b : GBlk} (h : b.Ok) : WfA b.cells := ((WfA.lit (l := [.int .u32 (b.slot : Int)]) ⟨wf_n32 h.slot, trivial⟩).app h.led.wf).app h.draw.wf
def AllB (l : List GBlk) : Prop := ∀ x ∈ l, x.Ok
theorem AllB.get {l : List GBlk} (h : AllB l) {i : Nat} (hi : i < l.length) : (l.getD i default).Ok := by
  rw [List.getD_eq_getElem?_getD, List.getElem?_eq_getElem hi, Option.getD_some]
  exact h _ (List.getElem_mem hi)
instance : Inhabited SState := ⟨state0⟩
def AllS (l : List SState) : Prop := ∀ x ∈ l, x.Ok
theorem AllS.get {l : List SState} (h : AllS l) {i : Nat} (hi : i < l.length) : (l.getD i default).Ok := by
  rw [List.getD_eq_getElem?_getD, List.getElem?_eq_getElem hi, Option.getD_some]
  exact h _ (List.getElem_mem hi)
/-! ### children -/
def firE (a b c d : Nat) : Nat := if a ≠ 0 then a else if b ≠ 0 then b else if c ≠ 0 then c else d
def morV (n k : Nat) : Nat := if n + k < 4294967296 then n + k else 0
def morE (n k : Nat) : Nat := if n + k < 4294967296 then 0 else 5
theorem morV_lt (n k : Nat) : morV n k < 4294967296 := by unfold morV; split <;> omega
theorem morE_lt (n k : Nat) : morE n k < 9223372036854775808 := by unfold morE; split <;> omega
theorem ringPE_lt (r : RRing) (n : Nat) : ringPE r n < 9223372036854775808 := by unfold ringPE; split; omega; split <;> omega
theorem folE_lt (p : EPair) (b : EBlk) : folE p b < 9223372036854775808 := by unfold folE; split; omega; split; omega; split <;> omega
def turnN (a b : Nat) : Nat := if a / 24 < b / 24 then 1 else 0
def gblkE (s : SState) (b : GBlk) : EBlk := ⟨s.slot, b.slot, stH s, s.led, b.draw⟩
def childE (s : SState) (b : GBlk) : Nat :=
  if b.slot ≤ s.slot then 6 else firE (morE s.len 1) (morE s.count (turnN s.slot b.slot)) (ringPE s.win.ring (b.slot / 3)) (folE s.eps (gblkE s b))
def childS (s : SState) (b : GBlk) : SState :=
  if childE s b = 0 then ⟨stH s, b.led, b.draw, b.slot, s.len + 1, s.count + turnN s.slot b.slot, winPut s.win b.slot, folP s.eps (gblkE s b)⟩ else state0
theorem gblkE_ok {s : SState} {b : GBlk} (hs : s.Ok) (hb : b.Ok) : (gblkE s b).Ok := ⟨hs.slot, hb.slot, stH_ok s, hs.led, hb.draw⟩
theorem firE_0 {a b c d : Nat} (h : firE a b c d = 0) : a = 0 ∧ b = 0 ∧ c = 0 ∧ d = 0 := by
  unfold firE at h
  split at h; omega
  split at h; omega
  split at h <;> omega
theorem childE_0 {s : SState} {b : GBlk} (h : childE s b = 0) : s.slot < b.slot ∧ s.len + 1 < 4294967296 ∧ s.count + turnN s.slot b.slot < 4294967296 ∧ ringPE s.win.ring (b.slot / 3) = 0 ∧ folE s.eps (gblkE s b) = 0 := by
  unfold childE at h
  split at h; omega
  obtain ⟨h1, h2, h3, h4⟩ := firE_0 h
  unfold morE at h1 h2
  refine ⟨by omega, ?_, ?_, h3, h4⟩
  · split at h1 <;> omega
  · split at h2 <;> omega
theorem child_slot {s : SState} {b : GBlk} (h : b.slot ≤ s.slot) : childS s b = state0 ∧ childE s b = 6 := by
  have e : childE s b = 6 := if_pos h
  exact ⟨if_neg (by rw [e]; decide), e⟩
theorem child_no {s : SState} {b : GBlk} {t : Nat} (h : ¬ b.slot ≤ s.slot) (ht : turnN s.slot b.slot = t) (k : ¬ firE (morE s.len 1) (morE s.count t) (ringPE s.win.ring (b.slot / 3)) (folE s.eps (gblkE s b)) = 0) :
    childS s b = state0 ∧ childE s b = firE (morE s.len 1) (morE s.count t) (ringPE s.win.ring (b.slot / 3)) (folE s.eps (gblkE s b)) := by
  subst ht
  have e : childE s b = _ := if_neg h
  exact ⟨if_neg (by rw [e]; exact k), e⟩
theorem child_yes {s : SState} {b : GBlk} {t : Nat} (h : ¬ b.slot ≤ s.slot) (ht : turnN s.slot b.slot = t) (k : firE (morE s.len 1) (morE s.count t) (ringPE s.win.ring (b.slot / 3)) (folE s.eps (gblkE s b)) = 0) :
    childS s b = ⟨stH s, b.led, b.draw, b.slot, morV s.len 1, morV s.count t, winPut s.win b.slot, folP s.eps (gblkE s b)⟩ ∧ childE s b = 0 := by
  subst ht
  have e : childE s b = 0 := by rw [childE, if_neg h]; exact k
  obtain ⟨_, h1, h2, _⟩ := childE_0 e
  refine ⟨?_, e⟩
  rw [childS, if_pos e, morV, if_pos h1, morV, if_pos h2]
theorem child_over {s : SState} {b : GBlk} (h : ¬ b.slot ≤ s.slot) (k : s.len = 4294967295 ∨ s.count + turnN s.slot b.slot = 4294967296) : childS s b = state0 ∧ childE s b = 5 := by
  have e : childE s b = 5 := by
    rw [childE, if_neg h]
    unfold firE
    by_cases h1 : s.len = 4294967295
    · have : morE s.len 1 = 5 := by rw [morE, if_neg (by omega)]
      rw [this]; rfl
    · have h2 : s.count + turnN s.slot b.slot = 4294967296 := k.resolve_left h1
      have h3 : morE s.count (turnN s.slot b.slot) = 5 := by rw [morE, if_neg (by omega)]
      rw [h3]
      by_cases h4 : morE s.len 1 ≠ 0
      · rw [if_pos h4]; unfold morE at h4 ⊢; split at h4
        · exact absurd rfl h4
        · rename_i h5; rw [if_neg h5]
      · rw [if_neg h4]; rfl
  exact ⟨if_neg (by rw [e]; decide), e⟩
theorem morE_fit {n k : Nat} (h : n + k < 4294967296) : morE n k = 0 := if_pos h
theorem child_full {s : SState} {b : GBlk} (h : ¬ b.slot ≤ s.slot) (k1 : s.len + 1 < 4294967296) (k2 : s.count + turnN s.slot b.slot < 4294967296) (k3 : ¬ ringPE s.win.ring (b.slot / 3) = 0) : childS s b = state0 ∧ childE s b = ringPE s.win.ring (b.slot / 3) := by
  have e : childE s b = ringPE s.win.ring (b.slot / 3) := by
    rw [childE, if_neg h, morE_fit k1, morE_fit k2, firE, if_neg (by decide), if_neg (by decide), if_pos k3]
  exact ⟨if_neg (by rw [e]; exact k3), e⟩
theorem child_fol {s : SState} {b : GBlk} (h : ¬ b.slot ≤ s.slot) (k1 : s.len + 1 < 4294967296) (k2 : s.count + turnN s.slot b.slot < 4294967296) (k3 : ringPE s.win.ring (b.slot / 3) = 0) (k4 : ¬ folE s.eps (gblkE s b) = 0) : childS s b = state0 ∧ childE s b = folE s.eps (gblkE s b) := by
  have e : childE s b = folE s.eps (gblkE s b) := by
    rw [childE, if_neg h, morE_fit k1, morE_fit k2, k3, firE, if_neg (by decide), if_neg (by decide), if_neg (by decide)]
  exact ⟨if_neg (by rw [e]; exact k4), e⟩
theorem child_good {s : SState} {b : GBlk} (h : ¬ b.slot ≤ s.slot) (k1 : s.len + 1 < 4294967296) (k2 : s.count + turnN s.slot b.slot < 4294967296) (k3 : ringPE s.win.ring (b.slot / 3) = 0) (k4 : folE s.eps (gblkE s b) = 0) :
    childS s b = ⟨stH s, b.led, b.draw, b.slot, s.len + 1, s.count + turnN s.slot b.slot, winPut s.win b.slot, folP s.eps (gblkE s b)⟩ ∧ childE s b = 0 := by
  have e : childE s b = 0 := by
    rw [childE, if_neg h, morE_fit k1, morE_fit k2, k3, k4]; rfl
  exact ⟨if_pos e, e⟩
theorem turn_1 {a b : Nat} (h : a / 24 < b / 24) : turnN a b = 1 := if_pos h
theorem turn_0 {a b : Nat} (h : ¬ a / 24 < b / 24) : turnN a b = 0 := if_neg h
theorem turnN_le (a b : Nat) : turnN a b ≤ 1 := by unfold turnN; split <;> omega
theorem childS_ok {s : SState} {b : GBlk} (hs : s.Ok) (hR : s.Right) (hb : b.Ok) : (childS s b).Ok := by
  unfold childS
  split
  · rename_i e
    obtain ⟨_, h1, h2, _⟩ := childE_0 e
    exact ⟨stH_ok s, hb.led, hb.draw, hb.slot, h1, h2, winPut_ok hs.win hR.1.2.few hb.slot, folP_ok hs.eps (gblkE_ok hs hb)⟩
  · exact state0_ok
theorem childE_lt (s : SState) (b : GBlk) : childE s b < 9223372036854775808 := by
  have h1 := morE_lt s.len 1; have h2 := morE_lt s.count (turnN s.slot b.slot); have h3 := ringPE_lt s.win.ring (b.slot / 3); have h4 := folE_lt s.eps (gblkE s b)
  unfold childE firE
  split; omega
  split; omega
  split; omega
  split <;> omega
theorem lockD_len (d : EData) (b : EBlk) : (lockD d b).len = d.len := by unfold lockD; split <;> rfl
theorem kq_le {r : RRing} {n : Nat} (h : r.Right) (e : ringPE r n = 0) (i : Nat) (hi : i < 4) : kq r n i ≤ 3 := by
  have hc := h.le i hi
  unfold ringPE at e
  split at e; omega
  split at e; omega
  rename_i h1 h2
  unfold kq kp
  by_cases hn : n % 4 = i
  · rw [if_pos hn]
    by_cases hq : n = r.last
    · have : ¬ 3 ≤ r.cn i := fun q => h2 ⟨hq, by rw [hn]; exact q⟩
      split <;> omega
    · rw [if_neg (by omega)]; omega
  · rw [if_neg hn]; split <;> omega
theorem ringAdd_right {r : RRing} {n : Nat} (h : r.Right) (e : ringPE r n = 0) : (ringAdd r n).Right := by
  refine ⟨kq_le h e 0 (by decide), kq_le h e 1 (by decide), kq_le h e 2 (by decide), kq_le h e 3 (by decide), ?_⟩
  have hp : ∀ i, n % 4 = i → 0 < kq r n i := fun i hi => by unfold kq; rw [if_pos hi]; omega
  show 0 < [kq r n 0, kq r n 1, kq r n 2, kq r n 3].getD (n % 4) 0
  have hm : n % 4 < 4 := Nat.mod_lt _ (by decide)
  generalize hq : n % 4 = q at hm
  match q, hm, hq with
  | 0, _, hq => exact hp 0 hq
  | 1, _, hq => exact hp 1 hq
  | 2, _, hq => exact hp 2 hq
  | 3, _, hq => exact hp 3 hq
theorem child_is {s : SState} {b : GBlk} (e : childE s b = 0) : childS s b = ⟨stH s, b.led, b.draw, b.slot, s.len + 1, s.count + turnN s.slot b.slot, winPut s.win b.slot, folP s.eps (gblkE s b)⟩ := if_pos e
theorem childS_right {s : SState} {b : GBlk} (hR : s.Right) (e : childE s b = 0) : (childS s b).Right := by
  obtain ⟨h0, h1, h2, h3, h4⟩ := childE_0 e
  obtain ⟨⟨a1, a2⟩, a3, a4, a5, a6, a7, a8, a9, a10⟩ := hR
  rw [child_is e]
  have hn : (folP s.eps (gblkE s b)).next.len = if s.slot / 24 < b.slot / 24 then 1 else s.eps.next.len + 1 := by
    unfold folP
    rw [if_pos h4]
    show (lockD _ _).len = _
    rw [lockD_len]
    unfold nextD gblkE
    split <;> rfl
  have hw : winPut s.win b.slot = ⟨winRel s.win b.slot, ringAdd s.win.ring (b.slot / 3)⟩ := if_pos h3
  have ht : turnN s.slot b.slot = if s.slot / 24 < b.slot / 24 then 1 else 0 := rfl
  refine ⟨?_, ?_, ?_, ?_, ?_, ?_, ?_, ?_, ?_⟩
  · rw [hw]; exact ⟨Nat.le_trans (winRel_le _ _) a1, ringAdd_right a2 h3⟩
  · rw [hw]; rfl
  · show 0 < s.len + 1; omega
  · show s.len + 1 ≤ b.slot + 1; omega
  · show s.count + turnN s.slot b.slot ≤ b.slot / 24; rw [ht]; split <;> omega
  · show s.count + turnN s.slot b.slot < s.len + 1; rw [ht]; split <;> omega
  · show 0 < (folP s.eps (gblkE s b)).next.len; rw [hn]; split <;> omega
  · show (folP s.eps (gblkE s b)).next.len ≤ s.len + 1; rw [hn]; split <;> omega
  · show (folP s.eps (gblkE s b)).next.len ≤ b.slot % 24 + 1; rw [hn]; split <;> omega
theorem childE_kind {s : SState} {b : GBlk} : childE s b = 0 ∨ childE s b = 5 ∨ childE s b = 6 ∨ childE s b = 11 := by
  have h1 : ∀ n k, morE n k = 0 ∨ morE n k = 5 := fun n k => by unfold morE; split <;> simp
  have h3 : ringPE s.win.ring (b.slot / 3) = 0 ∨ ringPE s.win.ring (b.slot / 3) = 6 ∨ ringPE s.win.ring (b.slot / 3) = 11 := by
    unfold ringPE; split; simp; split <;> simp
  have h4 : folE s.eps (gblkE s b) = 0 ∨ folE s.eps (gblkE s b) = 6 ∨ folE s.eps (gblkE s b) = 5 := by
    unfold folE; split; simp; split; simp; split <;> simp
  have h5 := h1 s.len 1; have h6 := h1 s.count (turnN s.slot b.slot)
  unfold childE firE
  split; omega
  split; omega
  split; omega
  split <;> omega
theorem childS_bad {s : SState} {b : GBlk} (h : ¬ childE s b = 0) : childS s b = state0 := if_neg h
/-! ### chains -/
/-- The state behind blocks; how many fit; why the next one doesn't. -/
def chainC (s : SState) : List GBlk → Nat → SState × Nat × Nat
  | [], i => (s, i, 0)
  | b :: l, i => if childE s b = 0 then chainC (childS s b) l (i + 1) else (s, i, childE s b)
theorem dropB {l : List GBlk} {i : Nat} (h : i < l.length) : l.drop i = l.getD i default :: l.drop (i + 1) := by
  rw [List.drop_eq_getElem_cons h, List.getD_eq_getElem?_getD, List.getElem?_eq_getElem h]; rfl
theorem chainC_end {s : SState} {l : List GBlk} {i : Nat} (h : l.length ≤ i) : chainC s (l.drop i) i = (s, i, 0) := by rw [List.drop_eq_nil_of_le h]; rfl
theorem chainC_bad {s : SState} {l : List GBlk} {i : Nat} (h : i < l.length) (e : ¬ childE s (l.getD i default) = 0) : chainC s (l.drop i) i = (s, i, childE s (l.getD i default)) := by rw [dropB h, chainC, if_neg e]
theorem chainC_ok {s : SState} {l : List GBlk} {i : Nat} (h : i < l.length) (e : childE s (l.getD i default) = 0) : chainC s (l.drop i) i = chainC (childS s (l.getD i default)) (l.drop (i + 1)) (i + 1) := by rw [dropB h, chainC, if_pos e]
theorem chainC_spec : ∀ (l : List GBlk) (s : SState) (i : Nat), s.Ok → s.Right → AllB l → (chainC s l i).1.Ok ∧ (chainC s l i).1.Right ∧ (chainC s l i).2.1 ≤ i + l.length ∧ (chainC s l i).2.2 < 9223372036854775808
  | [], s, i, h1, h2, _ => ⟨h1, h2, Nat.le_refl _, by show 0 < 9223372036854775808; decide⟩
  | b :: l, s, i, h1, h2, h3 => by
    have hb := h3 b (.head _)
    unfold chainC
    split
    · rename_i e
      have := chainC_spec l (childS s b) (i + 1) (childS_ok h1 h2 hb) (childS_right h2 e) (fun x hx => h3 x (.tail _ hx))
      exact ⟨this.1, this.2.1, by have := this.2.2.1; rw [List.length_cons]; omega, this.2.2.2⟩
    · exact ⟨h1, h2, by show i ≤ _; omega, childE_lt s b⟩
theorem stateF_right (led : List Nat) : (stateF led).Right :=
  ⟨⟨(show 12 ≤ 12 by decide), (show 1 ≤ 3 by decide), (show 3 ≤ 3 by decide), (show 3 ≤ 3 by decide), (show 3 ≤ 3 by decide), (show 0 < 1 by decide)⟩, (show 0 = 0 / 3 by decide), (show 0 < 1 by decide), (show 1 ≤ 0 + 1 by decide), (show 0 ≤ 0 / 24 by decide), (show 0 < 1 by decide), (show 0 < 1 by decide), (show 1 ≤ 1 by decide), (show 1 ≤ 0 % 24 + 1 by decide)⟩
theorem childS_facts {s : SState} {b : GBlk} (e : childE s b = 0) : (childS s b).len = s.len + 1 ∧ (childS s b).slot = b.slot ∧ (childS s b).prev = stH s ∧ (childS s b).led = b.led ∧ (childS s b).draw = b.draw ∧ (childS s b).win.min ≤ s.win.min ∧ (childS s b).count = s.count + turnN s.slot b.slot ∧
    s.slot < b.slot ∧ s.len + 1 < 4294967296 ∧ s.count + turnN s.slot b.slot < 4294967296 ∧ turnN s.slot b.slot ≤ 1 ∧ (childS s b).win = winPut s.win b.slot ∧ (childS s b).eps = folP s.eps (gblkE s b) := by
  obtain ⟨h0, h1, h2, h3, h4⟩ := childE_0 e
  rw [child_is e]
  refine ⟨rfl, rfl, rfl, rfl, rfl, ?_, rfl, h0, h1, h2, turnN_le _ _, rfl, rfl⟩
  show (winPut s.win b.slot).min ≤ s.win.min
  rw [winPut, if_pos h3]
  exact winRel_le _ _
theorem GBlk.one (x : GBlk) : ∀ u ∈ x.cells.toList, u.oneCell' = true := by
  have h : x.cells.toList.all (·.oneCell') = true := by kernel_rfl
  exact fun u hu => List.all_eq_true.1 h u hu
/-! ### what is asked first -/
def awkL : List GBlk := [(⟨3, Z32, Z32⟩ : GBlk), (⟨30, Z32, Z32⟩ : GBlk), (⟨50, Z32, hlit 7⟩ : GBlk)]
def awkS : SState := (chainC (stateF (hlit 1)) awkL 0).1
theorem awk_all : AllB awkL := by
  intro x hx
  simp only [awkL, List.mem_cons, List.not_mem_nil, or_false] at hx
  rcases hx with rfl | rfl | rfl
  · exact ⟨by decide, H32.zero, H32.zero⟩
  · exact ⟨by decide, H32.zero, H32.zero⟩
  · exact ⟨by decide, H32.zero, hlit_ok (by decide)⟩
theorem awkF_ok : (stateF (hlit 1)).Ok := stateF_ok (hlit_ok (n := 1) (by decide))
theorem awkS_ok : awkS.Ok := (chainC_spec awkL _ 0 awkF_ok (stateF_right _) awk_all).1
theorem awkS_right : awkS.Right := (chainC_spec awkL _ 0 awkF_ok (stateF_right _) awk_all).2.1
theorem awk2 : (chainC (stateF (hlit 1)) awkL 0).2 = (3, 0) := by kernel_rfl
theorem awk10 : (.tuple #[.agg (chainC (stateF (hlit 1)) awkL 0).1.cells, .int .i64 (((chainC (stateF (hlit 1)) awkL 0).2.1 : Nat) : Int), .int .i64 (((chainC (stateF (hlit 1)) awkL 0).2.2 : Nat) : Int)] : Value) = .tuple #[.agg awkS.cells, .int .i64 3, .int .i64 0] := by
  rw [awk2]
  generalize hq : chainC (stateF (hlit 1)) awkL 0 = q
  rw [show awkS = q.1 from by rw [← hq]; rfl]
  rfl
theorem awkG : childE (stateF (hlit 1)) (⟨3, Z32, Z32⟩ : GBlk) = 0 := by kernel_rfl
theorem awkB : childE awkS (⟨50, Z32, Z32⟩ : GBlk) = 6 := by kernel_rfl
theorem mor_fit {n k : Nat} (h : morE n k = 0) : morV n k = n + k ∧ n + k < 4294967296 := by
  unfold morE at h
  split at h
  · rename_i h1; exact ⟨if_pos h1, h1⟩
  · cases h
end Go.Alm

/- Blocks, numbers, accounts as a row hands them. -/
namespace Go.Alm
open Go Go.RowKit
section
variable {H : Type} {enc : TypeId × Value → H} {P : Program} {w : World} {base : Nat} {sp : Nat → Bool} {held : Bool} {fuel t e : Nat} {cs : List Value} {x : DataW H × List MemPlace}
theorem gblk_of {th tn : Nat} (k : IsKey P t th e tn) (ht : DataW.trod enc P w base sp held fuel t cs = some x) : ∃ y : GBlk, y.Ok ∧ cs = y.cells.toList := by
  obtain ⟨_, _, _, _, h1, r1, rfl⟩ := (parts_of k.s ht).inv
  obtain ⟨_, _, _, _, h2, r2, rfl⟩ := r1.inv
  obtain ⟨_, _, _, _, h3, r3, rfl⟩ := r2.inv
  obtain rfl := r3.end
  obtain ⟨a, ha, rfl⟩ := u32_of k.n h1
  obtain ⟨b, hb, rfl⟩ := hash_of k.h h2
  obtain ⟨c, hc, rfl⟩ := hash_of k.h h3
  exact ⟨⟨a, b, c⟩, ⟨ha, hb, hc⟩, by unfold GBlk.cells; simp only [aj_toList, List.append_assoc, List.append_nil]⟩
/-- A number of 32 bits as a cell. -/
def nC (n : Nat) : Array Value := #[.int .u32 (n : Int)]
theorem nC_size (n : Nat) : (nC n).size = 1 := rfl
theorem num_of (k : IsI P .u32 t) (ht : DataW.trod enc P w base sp held fuel t cs = some x) : ∃ n : Nat, n < 4294967296 ∧ cs = (nC n).toList := u32_of k ht
theorem hash_of' (k : IsH P t e) (ht : DataW.trod enc P w base sp held fuel t cs = some x) : ∃ l, H32 l ∧ cs = (hv l).toList := hash_of k ht
end
end Go.Alm

/- A state's cells as one word that the kernel can't open: records of 363 cells are moved whole, and compared by name. -/
namespace Go.Alm
open Go Go.RowKit
theorem SC_ex : ∃ C : SState → Array Value, C = SState.cells := ⟨_, rfl⟩
noncomputable def SC : SState → Array Value := Classical.choose SC_ex
theorem SC_eq : SC = SState.cells := Classical.choose_spec SC_ex
theorem SC.size (s : SState) : (SC s).size = 363 := by rw [SC_eq]; exact s.size
theorem SC.ones (s : SState) : (SC s).toList.all (·.oneCell') = true := by rw [SC_eq]; exact s.ones
theorem SC.wf {s : SState} (h : s.Ok) : WfA (SC s) := by rw [SC_eq]; exact SState.wf h
theorem SC.inj {x y : SState} (h : x.Ok) (k : y.Ok) : SC x = SC y ↔ x = y := by rw [SC_eq]; exact SState.inj h k
theorem SC.inj0 {x y : SState} (h : x.Ok) (k : y.Ok) : SC x = y.cells ↔ x = y := by rw [SC_eq]; exact SState.inj h k
def kn (k : IntKind) (n : Nat) : List (Option (Option (Option IntKind))) := List.replicate n (kindV (.int k 0))
def SKD : List (Option (Option (Option IntKind))) := kn .u8 96 ++ (kn .u32 9 ++ (kn .u8 128 ++ (kn .u32 1 ++ (kn .u8 128 ++ kn .u32 1))))
theorem SState.kinds (s : SState) : s.cells.toList.map kindV = SKD := by kernel_rfl
theorem SC.kinds (s : SState) : (SC s).toList.map kindV = SKD := by rw [SC_eq]; exact s.kinds
section
variable {P : Program} {Q : Exit → Act → World → Prop} {L : List Iv} {s : St} {RO FZ OW : List Rc}
/-- Two great ones are compared: two ways. -/
theorem m_eqsW (n sz : Nat) (b : Bool) (cs ds : Array Value) (p : Prop) (hp : cs = ds ↔ p) (w1 : WfA cs) (w2 : WfA ds) (z1 : cs.size = sz) (z2 : ds.size = sz) {kd kd'} (q1 : cs.toList.map kindV = kd) (q2 : ds.toList.map kindV = kd')
    (k1 : p → J P Q L (nx (go P n s) (.bool b)) RO FZ OW) (k2 : ¬ p → J P Q L (nx (go P n s) (.bool (!b))) RO FZ OW)
    (hc : eqOk P (go P n s) b sz = true := by kernel_rfl) (hx : (go P n s).a.eval (eqX (go P n s)) = .agg cs := by kernel_rfl) (hy : (go P n s).a.eval (eqY (go P n s)) = .agg ds := by kernel_rfl)
    (l1 : (leaves P 8 (eqT (go P n s))).map (·.map some) = some kd := by kernel_rfl) (l2 : (leaves P 8 (eqT (go P n s))).map (·.map some) = some kd' := by kernel_rfl) : J P Q L s RO FZ OW := by
  subst q1 q2
  exact m_eqs n b cs ds p hp w1 w2 k1 k2 (by rw [z1]; exact hc) (by rw [z1, z2]; exact Nat.beq_refl _) hx hy l1 l2
end
end Go.Alm

/- Layer 11, plainly: what follows what, and lines. -/
namespace Go.Alm
open Go Go.RowKit
theorem SState.eta (s : SState) : s = ⟨s.prev, s.led, s.draw, s.slot, s.len, s.count, s.win, s.eps⟩ := rfl
instance (a b : List Nat) : Decidable (a = b) := inferInstance
open Classical in
/-- Why a state doesn't follow a parent. -/
noncomputable def folwE (p c : SState) : Nat := if childE p (⟨c.slot, c.led, c.draw⟩ : GBlk) = 0 then (if childS p (⟨c.slot, c.led, c.draw⟩ : GBlk) = c then 0 else 7) else childE p (⟨c.slot, c.led, c.draw⟩ : GBlk)
theorem folw_no {p c : SState} (h : ¬ childE p (⟨c.slot, c.led, c.draw⟩ : GBlk) = 0) : folwE p c = childE p (⟨c.slot, c.led, c.draw⟩ : GBlk) := if_neg h
theorem folw_7 {p c : SState} (h : childE p (⟨c.slot, c.led, c.draw⟩ : GBlk) = 0) (k : ¬ childS p (⟨c.slot, c.led, c.draw⟩ : GBlk) = c) : folwE p c = 7 := by rw [folwE, if_pos h, if_neg k]
theorem folw_0 {p c : SState} (h : childE p (⟨c.slot, c.led, c.draw⟩ : GBlk) = 0) (k : childS p (⟨c.slot, c.led, c.draw⟩ : GBlk) = c) : folwE p c = 0 := by rw [folwE, if_pos h, if_pos k]
theorem folw_lt (p c : SState) : folwE p c < 9223372036854775808 := by
  have := childE_lt p (⟨c.slot, c.led, c.draw⟩ : GBlk)
  unfold folwE; split
  · split <;> decide
  · exact this
theorem folw_is {p c : SState} (h : folwE p c = 0) : childE p (⟨c.slot, c.led, c.draw⟩ : GBlk) = 0 ∧ childS p (⟨c.slot, c.led, c.draw⟩ : GBlk) = c := by
  unfold folwE at h
  split at h
  · rename_i e; split at h
    · rename_i k; exact ⟨e, k⟩
    · cases h
  · rename_i e; exact absurd h e
theorem folw_right {p c : SState} (hp : p.Right) (h : folwE p c = 0) : c.Right := by
  obtain ⟨e, k⟩ := folw_is h
  rw [← k]; exact childS_right hp e
/-- A child follows its parent. -/
theorem folw_child {s : SState} {b : GBlk} (e : childE s b = 0) : folwE s (childS s b) = 0 := by
  have hb : (⟨(childS s b).slot, (childS s b).led, (childS s b).draw⟩ : GBlk) = b := by rw [child_is e]
  exact folw_0 (by rw [hb]; exact e) (by rw [hb])
/-- How many follow one another behind `p`, that is the `i`-th; why the next one doesn't. -/
noncomputable def lineC (p : SState) : List SState → Nat → Nat × Nat
  | [], i => (i, 0)
  | c :: l, i => if folwE p c = 0 then lineC c l (i + 1) else (i, folwE p c)
noncomputable def lineL : List SState → Nat × Nat
  | [] => (0, 0)
  | s :: l => lineC s l 1
theorem dropS {l : List SState} {i : Nat} (h : i < l.length) : l.drop i = l.getD i default :: l.drop (i + 1) := by
  rw [List.drop_eq_getElem_cons h, List.getD_eq_getElem?_getD, List.getElem?_eq_getElem h]; rfl
theorem lineL_nil {l : List SState} (h : l.length = 0) : lineL l = (0, 0) := by rw [List.eq_nil_of_length_eq_zero h]; rfl
theorem lineL_1 {l : List SState} (h : 0 < l.length) : lineL l = lineC (l.getD (1 - 1) default) (l.drop 1) 1 := by
  match l, h with
  | s :: l, _ => rfl
theorem lineL_0 {l : List SState} (h : 0 < l.length) : lineL l = lineC (l.getD 0 default) (l.drop 1) 1 := lineL_1 h
theorem lineC_end {p : SState} {l : List SState} {i : Nat} (h : l.length ≤ i) : lineC p (l.drop i) i = (i, 0) := by rw [List.drop_eq_nil_of_le h]; rfl
theorem lineC_bad {p : SState} {l : List SState} {i : Nat} (h : i < l.length) (e : ¬ folwE p (l.getD i default) = 0) : lineC p (l.drop i) i = (i, folwE p (l.getD i default)) := by rw [dropS h, lineC, if_neg e]
theorem lineC_ok {p : SState} {l : List SState} {i : Nat} (h : i < l.length) (e : folwE p (l.getD i default) = 0) : lineC p (l.drop i) i = lineC (l.getD (i + 1 - 1) default) (l.drop (i + 1)) (i + 1) := by rw [dropS h, lineC, if_pos e, Nat.add_sub_cancel]
theorem lineC_le : ∀ (l : List SState) (p : SState) (i : Nat), (lineC p l i).1 ≤ i + l.length ∧ (lineC p l i).2 < 9223372036854775808
  | [], _, i => ⟨Nat.le_refl _, by show 0 < 9223372036854775808; decide⟩
  | c :: l, p, i => by
    unfold lineC
    split
    · have := lineC_le l c (i + 1)
      exact ⟨by have := this.1; rw [List.length_cons]; omega, this.2⟩
    · exact ⟨by show i ≤ _; omega, folw_lt p c⟩
/-! ### what is asked first -/
def awg : SState := stateF (hlit 1)
def awB3 : GBlk := ⟨3, Z32, Z32⟩
def awB9 : GBlk := ⟨9, Z32, Z32⟩
def awa : SState := childS awg awB3
def awb : SState := childS awa awB9
theorem awB3_ok : awB3.Ok := ⟨by decide, H32.zero, H32.zero⟩
theorem awB9_ok : awB9.Ok := ⟨by decide, H32.zero, H32.zero⟩
theorem awg_ok : awg.Ok := awkF_ok
theorem awg_right : awg.Right := stateF_right _
theorem awE1 : childE awg awB3 = 0 := by kernel_rfl
theorem awE2 : childE awa awB9 = 0 := by kernel_rfl
theorem awE3 : childE awg awB9 = 0 := by kernel_rfl
theorem awa_ok : awa.Ok := childS_ok awg_ok awg_right awB3_ok
theorem awa_right : awa.Right := childS_right awg_right awE1
theorem awb_ok : awb.Ok := childS_ok awa_ok awa_right awB9_ok
theorem awb_right : awb.Right := childS_right awa_right awE2
theorem awF1 : folwE awg awa = 0 := folw_child awE1
theorem awF2 : folwE awa awb = 0 := folw_child awE2
theorem awb_blk : (⟨awb.slot, awb.led, awb.draw⟩ : GBlk) = awB9 := by
  show (⟨(childS awa awB9).slot, (childS awa awB9).led, (childS awa awB9).draw⟩ : GBlk) = awB9
  rw [child_is awE2]
theorem awa_blk : (⟨awa.slot, awa.led, awa.draw⟩ : GBlk) = awB3 := by
  show (⟨(childS awg awB3).slot, (childS awg awB3).led, (childS awg awB3).draw⟩ : GBlk) = awB3
  rw [child_is awE1]
theorem awF3 : folwE awg awb = 7 := folw_7 (by rw [awb_blk]; exact awE3) (by
  rw [awb_blk]
  intro e
  have h1 := (childS_facts awE3).1
  have h2 := (childS_facts awE2).1
  have h3 := (childS_facts awE1).1
  rw [e] at h1
  change awb.len = awa.len + 1 at h2
  change awa.len = awg.len + 1 at h3
  omega)
theorem awF4 : folwE awb awa = 6 := by
  have hs : awa.slot = 3 := (childS_facts awE1).2.1
  have hb : awb.slot = 9 := (childS_facts awE2).2.1
  have h : childE awb (⟨awa.slot, awa.led, awa.draw⟩ : GBlk) = 6 := (child_slot (by show awa.slot ≤ awb.slot; omega)).2
  rw [folw_no (by rw [h]; decide), h]
theorem awLn1 : lineL [awg, awa, awb] = (3, 0) := by
  show lineC awg [awa, awb] 1 = _
  rw [lineC, if_pos awF1, lineC, if_pos awF2]; rfl
theorem awLn2 : lineL [awg, awb] = (1, 7) := by
  show lineC awg [awb] 1 = _
  rw [lineC, if_neg (by rw [awF3]; decide), awF3]
theorem aw3_all : AllS [awg, awa, awb] := by
  intro x hx
  simp only [List.mem_cons, List.not_mem_nil, or_false] at hx
  rcases hx with rfl | rfl | rfl
  · exact awg_ok
  · exact awa_ok
  · exact awb_ok
theorem aw2_all : AllS [awg, awb] := by
  intro x hx
  simp only [List.mem_cons, List.not_mem_nil, or_false] at hx
  rcases hx with rfl | rfl
  · exact awg_ok
  · exact awb_ok
/-! ### a line -/
structure IsLine (m : List SState) : Prop where
  pos : 0 < m.length
  all : AllS m
  fst : (m.getD 0 default).Right
  nxt : ∀ k, k + 1 < m.length → folwE (m.getD k default) (m.getD (k + 1) default) = 0
theorem getD_app_l {α : Type} [Inhabited α] {a b : List α} {k : Nat} (h : k < a.length) : (a ++ b).getD k default = a.getD k default := by
  simp only [List.getD_eq_getElem?_getD, List.getElem?_append_left h]
theorem getD_app_r {α : Type} [Inhabited α] {a b : List α} {k : Nat} (h : a.length ≤ k) : (a ++ b).getD k default = b.getD (k - a.length) default := by
  simp only [List.getD_eq_getElem?_getD, List.getElem?_append_right h]
theorem getD_take {α : Type} [Inhabited α] {a : List α} {n k : Nat} (h : k < n) : (a.take n).getD k default = a.getD k default := by
  simp only [List.getD_eq_getElem?_getD, List.getElem?_take, if_pos h]
theorem getD_drop {α : Type} [Inhabited α] {a : List α} {n k : Nat} : (a.drop n).getD k default = a.getD (n + k) default := by
  simp only [List.getD_eq_getElem?_getD, List.getElem?_drop]
theorem IsLine.right {m : List SState} (h : IsLine m) : ∀ k, k < m.length → (m.getD k default).Right
  | 0, _ => h.fst
  | k + 1, hk => folw_right (h.right k (by omega)) (h.nxt k hk)
theorem lineC_from {m : List SState} (h : ∀ k, k + 1 < m.length → folwE (m.getD k default) (m.getD (k + 1) default) = 0) : ∀ (d i : Nat), 1 ≤ i → i + d = m.length → lineC (m.getD (i - 1) default) (m.drop i) i = (m.length, 0)
  | 0, i, _, he => by rw [lineC_end (by omega), ← he]; rfl
  | d + 1, i, h1, he => by
    have hk := h (i - 1) (by omega)
    rw [show i - 1 + 1 = i by omega] at hk
    rw [lineC_ok (by omega) hk]
    exact lineC_from h d (i + 1) (by omega) (by omega)
theorem line_all {m : List SState} (h : IsLine m) : lineL m = (m.length, 0) := by
  rw [lineL_1 h.pos]; exact lineC_from h.nxt (m.length - 1) 1 (Nat.le_refl _) (by have := h.pos; omega)
theorem IsLine.one {s : SState} (h : s.Ok) (hR : s.Right) : IsLine [s] := ⟨by simp, fun x hx => by rw [List.mem_singleton.1 hx]; exact h, hR, fun k hk => by simp at hk⟩
theorem IsLine.snoc {m : List SState} (h : IsLine m) {b : GBlk} (hb : b.Ok) (e : childE (m.getD (m.length - 1) default) b = 0) : IsLine (m ++ [childS (m.getD (m.length - 1) default) b]) := by
  have hp := h.pos
  refine ⟨by simp, fun x hx => ?_, by rw [getD_app_l hp]; exact h.fst, fun k hk => ?_⟩
  · rcases List.mem_append.1 hx with hx | hx
    · exact h.all x hx
    · rw [List.mem_singleton.1 hx]; exact childS_ok (h.all.get (by omega)) (h.right _ (by omega)) hb
  · simp only [List.length_append, List.length_cons, List.length_nil] at hk
    by_cases hq : k + 1 < m.length
    · rw [getD_app_l (by omega), getD_app_l hq]; exact h.nxt k hq
    · rw [getD_app_l (by omega), getD_app_r (by omega), show k + 1 - m.length = 0 by omega, show k = m.length - 1 by omega]
      exact folw_child e
theorem IsLine.take {m : List SState} (h : IsLine m) {n : Nat} (h0 : 0 < n) (hn : n ≤ m.length) : IsLine (m.take n) := by
  have hl : (m.take n).length = n := by rw [List.length_take]; omega
  exact ⟨by omega, fun x hx => h.all x (List.mem_of_mem_take hx), by rw [getD_take h0]; exact h.fst, fun k hk => by rw [getD_take (by omega), getD_take (by omega)]; exact h.nxt k (by omega)⟩
theorem IsLine.drop {m : List SState} (h : IsLine m) {n : Nat} (hn : n < m.length) : IsLine (m.drop n) := by
  have hl : (m.drop n).length = m.length - n := List.length_drop
  exact ⟨by omega, fun x hx => h.all x (List.mem_of_mem_drop hx), by rw [getD_drop]; exact h.right _ (by omega), fun k hk => by rw [getD_drop, getD_drop]; exact h.nxt (n + k) (by omega)⟩
theorem line_take {m : List SState} (h : IsLine m) {n : Nat} (h0 : 0 < n) (hn : n ≤ m.length) : lineL (m.take n) = (n, 0) := by
  rw [line_all (h.take h0 hn), List.length_take]; congr 1; omega
theorem line_drop {m : List SState} (h : IsLine m) {n : Nat} (hn : n < m.length) : lineL (m.drop n) = (m.length - n, 0) := by
  rw [line_all (h.drop hn), List.length_drop]
theorem folw_len {p c : SState} (h : folwE p c = 0) : c.len = p.len + 1 := by
  obtain ⟨e, k⟩ := folw_is h
  rw [← k]; exact (childS_facts e).1
def gapL (m : List SState) (o : Nat) : List SState := List.append (List.append [] (m.take o)) (m.drop (o + 1))
theorem gap_eq (m : List SState) (o : Nat) : gapL m o = m.take o ++ m.drop (o + 1) := rfl
theorem gap_len {m : List SState} {o : Nat} (h : o + 1 ≤ m.length) : (gapL m o).length = m.length - 1 := by
  rw [gap_eq, List.length_append, List.length_take, List.length_drop]; omega
theorem gap_all {m : List SState} (h : IsLine m) (o : Nat) : AllS (gapL m o) := fun x hx => by
  rw [gap_eq] at hx
  rcases List.mem_append.1 hx with hx | hx
  · exact h.all x (List.mem_of_mem_take hx)
  · exact h.all x (List.mem_of_mem_drop hx)
theorem gap_fst {m : List SState} (h : IsLine m) {o : Nat} (h1 : 1 ≤ o) (h2 : o + 1 < m.length) : ((gapL m o).getD 0 default).Right := by
  rw [gap_eq, getD_app_l (by rw [List.length_take]; omega), getD_take (by omega)]; exact h.fst
/-- One is left out: the line ends there. -/
theorem line_gap {m : List SState} (h : IsLine m) {o : Nat} (h1 : 1 ≤ o) (h2 : o + 1 < m.length) : (lineL (gapL m o)).1 = o ∧ ¬ (lineL (gapL m o)).2 = 0 := by
  have hlen := gap_len (m := m) (o := o) (by omega)
  have hl : (m.take o).length = o := by rw [List.length_take]; omega
  have key : ∀ (d i : Nat), 1 ≤ i → i + d = o → lineC ((gapL m o).getD (i - 1) default) ((gapL m o).drop i) i = lineC ((gapL m o).getD (o - 1) default) ((gapL m o).drop o) o := by
    intro d
    induction d with
    | zero => intro i _ he; rw [show i = o by omega]
    | succ d ih =>
      intro i hi he
      have hk := h.nxt (i - 1) (by omega)
      rw [show i - 1 + 1 = i by omega] at hk
      rw [lineC_ok (by omega) (by rw [gap_eq, getD_app_l (by omega), getD_app_l (by omega), getD_take (by omega), getD_take (by omega)]; exact hk)]
      exact ih (i + 1) (by omega) (by omega)
  have hbad : ¬ folwE ((gapL m o).getD (o - 1) default) ((gapL m o).getD o default) = 0 := by
    rw [gap_eq, getD_app_l (by omega), getD_app_r (by omega), hl, getD_take (by omega), getD_drop, show o + 1 + (o - o) = o + 1 by omega]
    intro e
    have a := folw_len e
    have b := folw_len (h.nxt (o - 1) (by omega))
    have c := folw_len (h.nxt o h2)
    rw [show o - 1 + 1 = o by omega] at b
    omega
  rw [lineL_1 (by omega), key (o - 1) 1 (Nat.le_refl _) (by omega), lineC_bad (by omega) hbad]
  exact ⟨rfl, hbad⟩
end Go.Alm

/- A scope whose label is jumped back to, by the machine. -/
namespace Go.Alm
open Go Go.RowKit
def isScope (s : St) : Bool := (match s.ps with | .code (.scope _) => true | _ => false) && s.r.isNone
def sbody (s : St) : Code := match s.ps with | .code (.scope c) => c | _ => .skip
theorem wp_scopeX {X : Type} {P : Program} {a : Act} {w : World} {Q : Exit → Act → World → Prop} {c rest : Code} (l : Nat) (I : X → Act → World → Prop) (μ : X → Nat) (hf : findLabel c l = some rest)
    (first : c.wp P (Exit.jump l (fun a w => ∃ x, I x a w) Q) a w)
    (pass : ∀ x a w, I x a w → rest.wp P (Exit.jump l (fun a' w' => ∃ y, μ y < μ x ∧ I y a' w') Q) a w) : (Code.scope c).wp P Q a w := by
  intro b k cs
  have hg : gotoIn l (.inScope c :: k) = some (.code rest :: .inScope c :: k) := by simp [gotoIn, hf]
  have key : ∀ n x a w, μ x = n → I x a w → ∃ e a' w', Q e a' w' ∧ Arrives P (lone (b.at a (.code rest :: .inScope c :: k)) cs w) b k cs e a' w' := by
    intro n
    induction n using Nat.strongRecOn with
    | _ n ih =>
      intro x a w hn hJ
      obtain ⟨e, a₁, w₁, hq, harr⟩ := pass x a w hJ b (.inScope c :: k) cs
      cases e with
      | normal => exact ⟨.normal, a₁, w₁, hq, Steps.trans harr (.one step_inScope)⟩
      | exit id => exact ⟨.exit id, a₁, w₁, hq, fun k' hk => harr k' (by simp [exitTo, hk])⟩
      | goto l' =>
        obtain ⟨rfl, y, hlt, hJ'⟩ := hq
        obtain ⟨e₂, a₂, w₂, hq₂, harr₂⟩ := ih _ (by omega) y a₁ w₁ rfl hJ'
        exact ⟨e₂, a₂, w₂, hq₂, .of_steps (harr _ hg) harr₂⟩
      | ret => exact ⟨_, a₁, w₁, hq, harr⟩
      | panic ch => exact ⟨_, a₁, w₁, hq, harr⟩
      | outgrown => exact ⟨_, a₁, w₁, hq, harr⟩
  obtain ⟨e, a₁, w₁, hq, harr⟩ := first b (.inScope c :: k) cs
  cases e with
  | normal => exact ⟨.normal, a₁, w₁, hq, .head step_scope (Steps.trans harr (.one step_inScope))⟩
  | exit id => exact ⟨.exit id, a₁, w₁, hq, fun k' hk => .head step_scope (harr k' (by simp [exitTo, hk]))⟩
  | goto l' =>
    obtain ⟨rfl, x, hJ'⟩ := hq
    obtain ⟨e₂, a₂, w₂, hq₂, harr₂⟩ := key _ x a₁ w₁ rfl hJ'
    exact ⟨e₂, a₂, w₂, hq₂, .of_steps (.head step_scope (harr _ hg)) harr₂⟩
  | ret => exact ⟨_, a₁, w₁, hq, .of_steps (.one step_scope) harr⟩
  | panic ch => exact ⟨_, a₁, w₁, hq, .of_steps (.one step_scope) harr⟩
  | outgrown => exact ⟨_, a₁, w₁, hq, .of_steps (.one step_scope) harr⟩
section
variable {P : Program} {Q : Exit → Act → World → Prop} {L : List Iv} {s : St} {RO FZ OW : List Rc}
/-- The rest behind the label is shown once for all jumps. -/
theorem m_scope {X : Type} (n l : Nat) (rest : Code) (nt : Nat) (up : X → List (Nat × Value)) (HI : X → List Rc) (φ : X → Prop) (μ : X → Nat)
    (k0 : J P (Exit.jump l (Inv nt φ up RO HI) (post P Q L none (go P n s).K)) [] ⟨.code (sbody (go P n s)), [], (go P n s).a, none⟩ RO [] OW)
    (k1 : ∀ x u, φ x → J P (Exit.jump l (Inv nt (fun y => φ y ∧ μ y < μ x) up RO HI) (post P Q L none (go P n s).K)) [] ⟨.code rest, [], mk nt (up x) u, none⟩ RO [] (HI x))
    (h1 : isScope (go P n s) = true := by kernel_rfl) (h2 : findLabel (sbody (go P n s)) l = some rest := by kernel_rfl) : J P Q L s RO [] OW := by
  refine m_go n ?_
  generalize go P n s = t at *
  obtain ⟨ps, K, a, r⟩ := t
  unfold isScope at h1
  simp only [Bool.and_eq_true, Option.isNone_iff_eq_none] at h1
  obtain ⟨h4, h5⟩ := h1
  subst h5
  cases ps with
  | code c =>
    cases c with
    | scope c =>
      refine ⟨fun w hw => ?_⟩
      have hd : (Code.scope c).wp P (post P Q L none K) a w := by
        refine wp_scopeX l (fun x a' w' => φ x ∧ (∃ u, a' = mk nt (up x) u) ∧ Hs w' RO (HI x)) μ h2 ?_ ?_
        · have hj := k0.out w hw
          simp only [den, post, sbody] at hj
          refine Code.wp_mono (fun e a' w' hq => ?_) (wpIn_wide.1 hj)
          cases e with
          | goto l' =>
            obtain ⟨rfl, y, u, hC, ha, hH⟩ := hq
            exact ⟨rfl, y, hC, ⟨u, ha⟩, hH⟩
          | _ => exact hq
        · rintro x a' w' ⟨hx, ⟨u, rfl⟩, hH⟩
          have hj := (k1 x u hx).out w' hH
          simp only [den, post] at hj
          refine Code.wp_mono (fun e a' w' hq => ?_) (wpIn_wide.1 hj)
          cases e with
          | goto l' =>
            obtain ⟨rfl, y, u, hC, ha, hH⟩ := hq
            exact ⟨rfl, y, hC.2, hC.1, ⟨u, ha⟩, hH⟩
          | _ => exact hq
      exact wpIn_wide.2 hd
    | _ => cases h4
  | _ => cases h4
def labRest (s : St) (l : Nat) : Code := (findLabel (sbody s) l).getD .skip
theorem m_scopeR {X : Type} (n l nt : Nat) (up : X → List (Nat × Value)) (HI : X → List Rc) (φ : X → Prop) (μ : X → Nat)
    (k0 : J P (Exit.jump l (Inv nt φ up RO HI) (post P Q L none (go P n s).K)) [] ⟨.code (sbody (go P n s)), [], (go P n s).a, none⟩ RO [] OW)
    (k1 : ∀ x u, φ x → J P (Exit.jump l (Inv nt (fun y => φ y ∧ μ y < μ x) up RO HI) (post P Q L none (go P n s).K)) [] ⟨.code (labRest (go P n s) l), [], mk nt (up x) u, none⟩ RO [] (HI x))
    (h1 : isScope (go P n s) = true := by kernel_rfl) (h2 : (findLabel (sbody (go P n s)) l).isSome = true := by kernel_rfl) : J P Q L s RO [] OW :=
  m_scope n l _ nt up HI φ μ k0 k1 h1 (by
    unfold labRest
    cases hq : findLabel (sbody (go P n s)) l with
    | none => rw [hq] at h2; cases h2
    | some x => rfl)
def isGoto (s : St) (l : Nat) : Bool := (match s.ps with | .out (.goto l') => Nat.beq l' l | _ => false) && s.K.isEmpty && s.a.defers.isEmpty
theorem m_goto {X : Type} {l nt : Nat} {C : X → Prop} {up : X → List (Nat × Value)} {G : X → List Rc} {Q0 : Exit → Act → World → Prop} (n : Nat) (y : X) (idx : List Nat) (hC : C y) (h1 : isGoto (go P n s) l = true := by kernel_rfl) (hs : (go P n s).a.tmps.size = nt := by kernel_rfl)
    (hl : (up y).map (fun x => (go P n s).a.eval (.tmp x.1)) = (up y).map (·.2) := by kernel_rfl) (hH : (pick idx OW).1 = G y := by kernel_rfl) : J P (Exit.jump l (Inv nt C up RO G) Q0) [] s RO [] OW := by
  refine m_go n ?_
  have hp := pick_perm idx OW
  rw [hH] at hp
  generalize go P n s = t at *
  obtain ⟨ps, K, a, r⟩ := t
  unfold isGoto at h1
  simp only [Bool.and_eq_true, List.isEmpty_iff] at h1
  obtain ⟨⟨h4, h5⟩, h6⟩ := h1
  subst h5
  refine ⟨fun w hw => ?_⟩
  cases ps with
  | out e =>
    cases e with
    | goto l' =>
      obtain rfl := Nat.eq_of_beq_eq_true h4
      obtain ⟨u, hu⟩ := is_mk (a := a) hs h6 hl
      exact ⟨rfl, y, u, hC, hu, (hw.perm hp).own⟩
    | _ => cases h4
  | _ => cases h4
def isOutS (s : St) : Bool := (match s.ps with | .out (.goto _) => false | .out _ => true | _ => false) && s.K.isEmpty && s.r.isNone
/-- The scope is left. -/
theorem m_scout {l : Nat} {I : Iv} {K : List Ct} (n : Nat) (k : J P Q L ⟨(go P n s).ps, K, (go P n s).a, none⟩ RO FZ OW) (h1 : isOutS (go P n s) = true := by kernel_rfl) : J P (Exit.jump l I (post P Q L none K)) [] s RO FZ OW := by
  refine m_go n ?_
  generalize go P n s = t at *
  obtain ⟨ps, K', a, r⟩ := t
  unfold isOutS at h1
  simp only [Bool.and_eq_true, List.isEmpty_iff, Option.isNone_iff_eq_none] at h1
  obtain ⟨⟨h4, h5⟩, h6⟩ := h1
  subst h5; subst h6
  refine ⟨fun w hw => ?_⟩
  have hk := k.out w hw
  cases ps with
  | out e => cases e <;> first | exact hk | cases h4
  | _ => cases h4
end
end Go.Alm

/- Slice literals of records, made whole. -/
namespace Go.Alm
open Go Go.RowKit
def prs (i : Nat) : List Value → List (Nat × Value)
  | [] => []
  | v :: vs => (i, v) :: prs (i + 1) vs
theorem fill_seq (size : Nat) : ∀ (vs : List Value) (i : Nat) (cs : Array Value), (∀ v ∈ vs, v.cells.size = size) → cs.size = (i + vs.length) * size →
    fillF (fun i => some (i * size, size)) (prs i vs) cs = some ⟨cs.toList.take (i * size) ++ vs.flatMap (·.cells.toList)⟩
  | [], i, cs, _, h => by
    simp only [prs, fillF, List.flatMap_nil, List.append_nil]
    rw [List.take_of_length_le (by simp [h])]
  | v :: vs, i, cs, hv, h => by
    have h1 := hv v (.head _)
    have hlen : cs.toList.length = (i + (vs.length + 1)) * size := by simpa using h
    have hle : i * size + size ≤ cs.size := by
      rw [h, List.length_cons, Nat.add_mul, Nat.add_mul, Nat.one_mul]; omega
    simp only [prs, fillF]
    rw [h1, Nat.beq_refl, Nat.ble_eq_true_of_le hle, Bool.and_self, cond_true]
    rw [fill_seq size vs (i + 1) _ (fun u hu => hv u (.tail _ hu)) (by
      rw [size_spl (by rw [h1]; exact hle), h, List.length_cons]; congr 1; omega)]
    congr 2
    simp only [spl, h1, List.flatMap_cons, List.append_assoc]
    rw [← List.append_assoc (List.take _ _), ← List.append_assoc, List.take_left' (by
      rw [List.length_append, List.length_take, Array.length_toList, Array.length_toList, h1, Nat.min_eq_left (by omega), Nat.add_mul, Nat.one_mul])]
def slE' (P : Program) (t : Nat) : Nat := match P.underlying t with | some (.slice e) => e | _ => 0
def bsOf : Op → Option (Nat × Nat × Array (Nat × Operand))
  | .buildSlice t n ps => some (t, n, ps)
  | _ => none
def bsT (s : St) : Nat := ((bsOf (cur s).op).getD (0, 0, #[])).1
def bsN (s : St) : Nat := ((bsOf (cur s).op).getD (0, 0, #[])).2.1
def bsP (s : St) : Array (Nat × Operand) := ((bsOf (cur s).op).getD (0, 0, #[])).2.2
section
variable {P : Program} {Q : Exit → Act → World → Prop} {L : List Iv} {s : St} {RO FZ OW : List Rc}
theorem run_bs {P : Program} {t e n sz : Nat} {ps : Array (Nat × Value)} {z : Value} {vs : List Value} (ht : P.underlying t = some (.slice e)) (hs : sizeT P e = some sz) (hz : zeroT P e = some z) (hp : ps.toList = prs 0 vs) (hn : n = vs.length) (hv : ∀ v ∈ vs, v.cells.size = sz) (hb : n * sz ≤ 2 ^ 24) (h0 : 0 < n * sz) (w : World) :
    (Instr.buildSlice t n ps).run P w = .ok (.slice (some ⟨w.heap.size, 0, none⟩) n n) (w.alloc (.cells ⟨vs.flatMap (·.cells.toList)⟩ e (0, 0))) := by
  subst hn
  have hf : ∀ cs : Array Value, cs.size = vs.length * sz → Instr.fill (fun i => some (i * sz, sz)) cs ps.toList = some ⟨vs.flatMap (·.cells.toList)⟩ := fun cs h => by
    rw [hp]
    have := fill_seq sz vs 0 cs hv (by rw [h, Nat.zero_add])
    rw [Nat.zero_mul, List.take_zero, List.nil_append] at this
    exact fillF_eq this
  unfold Instr.buildSlice
  simp only [Sem.run_bind, run_underlying ht, Result.andThen_ok, run_sizeOf hs, if_neg (Nat.not_lt.2 hb)]
  rw [if_neg (by omega)]
  simp only [Sem.run_bind, zeroT_run hz, Result.andThen_ok, Sem.run_pure]
  rw [hf _ (by simp)]
  rfl
theorem RL_flat {X : Type} (f : X → Array Value) : ∀ l : List X, (l.map fun x => Value.agg (f x)).flatMap (·.cells.toList) = RL f l
  | [] => rfl
  | x :: l => by
    rw [List.map_cons, List.flatMap_cons, RL_flat f l]; rfl
/-- A slice literal of records. -/
theorem m_slit {X : Type} (n e sz : Nat) (f : X → Array Value) (l : List X) (hf : ∀ x, (f x).size = sz) (k : ∀ b, J P Q L (nx (go P n s) (.slice (some ⟨b, 0, none⟩) l.length l.length)) RO FZ (.blk b ⟨RL f l⟩ e :: OW))
    (h1 : (bsP (go P n s)).toList.map (fun x => (x.1, (go P n s).a.eval x.2)) = prs 0 (l.map fun x => .agg (f x)) := by kernel_rfl) (h2 : bsN (go P n s) = l.length := by kernel_rfl)
    (h3 : isSl P (bsT (go P n s)) = true := by kernel_rfl) (h4 : slE' P (bsT (go P n s)) = e := by kernel_rfl) (h5 : sizeT P e = some sz := by kernel_rfl) (hz : (zeroT P e).isSome = true := by kernel_rfl) (hb : (Nat.ble (l.length * sz) 16777216 && Nat.blt 0 (l.length * sz)) = true := by kernel_rfl)
    (hc : ((bsOf (cur (go P n s)).op).isSome && (acts (go P n s) && onW (go P n s))) = true := by kernel_rfl) : J P Q L s RO FZ OW := by
  obtain ⟨z, hz⟩ := Option.isSome_iff_exists.1 hz
  rw [Bool.and_eq_true] at hc hb
  refine m_act n (fun w hw _ => ?_) hc.2
  have h6 := hc.1
  have ho : bsOf (cur (go P n s)).op = some (bsT (go P n s), bsN (go P n s), bsP (go P n s)) := by
    unfold bsT bsN bsP
    cases hl : bsOf (cur (go P n s)).op with
    | none => rw [hl] at h6; cases h6
    | some x => rfl
  have ht : P.underlying (bsT (go P n s)) = some (.slice e) := by
    obtain ⟨e', he⟩ := isSl_spec h3
    rw [he]
    unfold slE' at h4
    rw [he] at h4
    rw [← h4]
  have hop : ∃ t n' ps, (cur (go P n s)).op = .buildSlice t n' ps ∧ t = bsT (go P n s) ∧ n' = bsN (go P n s) ∧ ps = bsP (go P n s) := by
    unfold bsOf at ho
    split at ho
    · rename_i t n' ps hq
      simp only [Option.some.injEq, Prod.mk.injEq] at ho
      exact ⟨t, n', ps, hq, ho.1, ho.2.1, ho.2.2⟩
    · cases ho
  obtain ⟨t, n', ps, hq, rfl, rfl, rfl⟩ := hop
  have hr := run_bs (n := bsN (go P n s)) (ps := (bsP (go P n s)).map fun (x : Nat × Operand) => (x.1, (go P n s).a.eval x.2)) (vs := l.map fun x => .agg (f x)) ht h5 hz (by rw [Array.toList_map]; exact h1) (by rw [h2, List.length_map]) (fun v hv => by
    obtain ⟨x, _, rfl⟩ := List.mem_map.1 hv; exact hf x) (by rw [h2]; exact Nat.le_of_ble_eq_true hb.1) (by rw [h2]; simpa using hb.2) w
  have hcells : (l.map fun x => Value.agg (f x)).flatMap (·.cells.toList) = RL f l := RL_flat f l
  rw [hcells, h2] at hr
  refine op_run _ _ (?_ : (execOp (go P n s).a.eval (cur (go P n s))).run P w = .ok (.value (.slice (some ⟨w.heap.size, 0, none⟩) l.length l.length)) _) ⟨_, _, rfl, Hs.new (r := .blk w.heap.size ⟨RL f l⟩ e) hw (Fr.alloc1 w _) (heap_alloc_new w _) (fun i hi => by rw [show i = w.heap.size from hi]; exact Nat.le_refl _), k w.heap.size⟩
  unfold execOp
  simp only [hq, Sem.run_bind]
  rw [h2]
  simp only [hr, Result.andThen_ok, Sem.run_pure]
end
end Go.Alm

/- Layer 8's histories: one block more. -/
namespace Go.Alm
open Go Go.RowKit
theorem hist_step {led : List Nat} {m : List SBlk} {p : EPair} {a s : Nat} {x : EStep} (hp : p.next = nextH led m) (ha : a = lastS m) (hm : ∀ y ∈ m, y.slot / 24 ≤ lastS m / 24) (h1 : a < s) (hl : p.next.len + 1 < 4294967296) :
    folE p ⟨a, s, x.prev, x.led, x.draw⟩ = 0 ∧ (folP p ⟨a, s, x.prev, x.led, x.draw⟩).next = nextH led (m ++ [⟨s, x⟩]) ∧ (folP p ⟨a, s, x.prev, x.led, x.draw⟩).now = if a / 24 < s / 24 then p.next else p.now := by
  have hs := nextH_snoc (led := led) (l := m) (b := ⟨s, x⟩) hm (by show lastS m ≤ s; omega)
  by_cases ht : a / 24 < s / 24
  · have hf := fol_turn (p := p) (b := ⟨a, s, x.prev, x.led, x.draw⟩) (by show ¬ s ≤ a; omega) ht
    refine ⟨hf.1, ?_, ?_⟩
    · rw [hf.2, hs, if_pos (by show lastS m / 24 < s / 24; omega), hp, ha]
    · rw [hf.2, if_pos ht]
  · have hf := fol_stay (p := p) (b := ⟨a, s, x.prev, x.led, x.draw⟩) (by show ¬ s ≤ a; omega) ht hl
    refine ⟨hf.1, ?_, ?_⟩
    · rw [hf.2, hs, if_neg (by show ¬ lastS m / 24 < s / 24; omega), hp, ha]
    · rw [hf.2, if_neg ht]
theorem mono_snoc {m : List SBlk} {s : Nat} {x : EStep} (hm : ∀ y ∈ m, y.slot / 24 ≤ lastS m / 24) (h : lastS m ≤ s) : ∀ y ∈ m ++ [⟨s, x⟩], y.slot / 24 ≤ lastS (m ++ [⟨s, x⟩]) / 24 := by
  intro y hy
  rw [lastS_snoc]
  rcases List.mem_append.1 hy with hy | hy
  · have := hm y hy
    show y.slot / 24 ≤ s / 24
    omega
  · rw [List.mem_singleton.1 hy]; exact Nat.le_refl _
theorem pv_0 {l : List SBlk} {i : Nat} (h : i = 0) : pvN l i = 0 := by rw [pvN, if_pos h]
theorem pv_1 {l : List SBlk} {i : Nat} (h : 0 < i) : pvN l i = (l.getD (i - 1) default).slot / 24 := by rw [pvN, if_neg (by omega)]
def AllSB (l : List SBlk) : Prop := ∀ x ∈ l, x.Ok
theorem AllSB.get {l : List SBlk} (h : AllSB l) {i : Nat} (hi : i < l.length) : (l.getD i default).Ok := getD_all h hi
theorem AllSB.snoc {l : List SBlk} (h : AllSB l) {x : SBlk} (hx : x.Ok) : AllSB (l ++ [x]) := fun y hy => by
  rcases List.mem_append.1 hy with hy | hy
  · exact h y hy
  · rw [List.mem_singleton.1 hy]; exact hx
def AllES (l : List EStep) : Prop := ∀ x ∈ l, x.Ok
theorem AllES.get {l : List EStep} (h : AllES l) {i : Nat} (hi : i < l.length) : (l.getD i default).Ok := getD_all h hi
theorem EStep.one (x : EStep) : ∀ u ∈ x.cells.toList, u.oneCell' = true := by
  have h : x.cells.toList.all (·.oneCell') = true := by kernel_rfl
  exact fun u hu => List.all_eq_true.1 h u hu
theorem SBlk.one (x : SBlk) : ∀ u ∈ x.cells.toList, u.oneCell' = true := by
  have h : x.cells.toList.all (·.oneCell') = true := by kernel_rfl
  exact fun u hu => List.all_eq_true.1 h u hu
theorem nextH_ok {led : List Nat} {m : List SBlk} (hl : H32 led) (hm : AllSB m) (hn : m.length + 2 < 4294967296) : (nextH led m).Ok := foldN_ok hl m hm hn
theorem nextH_nil (led : List Nat) : nextH led [] = dataF led := rfl
theorem fold_all {E : Nat} {led : List Nat} {l : List SBlk} {i : Nat} (h : l.length ≤ i) : (foldN E led (l.take i)).1 = (foldN E led l).1 := by rw [List.take_of_length_le h]
end Go.Alm

/- Layer 13, plainly: what is near, and what wins. -/
namespace Go.Alm
open Go Go.RowKit
def besideQ (a b : SState) : Prop := a.slot / 24 = b.slot / 24 ∧ a.eps.now.lock = b.eps.now.lock
def behindQ (a b : SState) : Prop := b.slot / 24 = a.slot / 24 + 1 ∧ ¬ a.slot % 24 < 16 ∧ b.eps.now.lock = a.eps.next.lock
instance (a b : SState) : Decidable (besideQ a b) := inferInstanceAs (Decidable (_ ∧ _))
instance (a b : SState) : Decidable (behindQ a b) := inferInstanceAs (Decidable (_ ∧ _))
def nearQ (a b : SState) : Prop := besideQ a b ∨ behindQ a b ∨ behindQ b a
instance (a b : SState) : Decidable (nearQ a b) := inferInstanceAs (Decidable (_ ∨ _))
def denA (a b : SState) : Nat := winRel a.win (max a.slot b.slot)
def keyS (s : SState) : OKey := ⟨s.len, s.draw, stH s⟩
theorem keyS_ok {s : SState} (h : s.Ok) : (keyS s).Ok := ⟨h.len, h.draw, stH_ok s⟩
/-- Does the candidate `b` win against the tip `a`? -/
def winsQ (a b : SState) : Prop := if nearQ a b ∨ denA a b = denA b a then 0 < cmpK (keyS b) (keyS a) else denA a b < denA b a
instance (a b : SState) : Decidable (winsQ a b) := by unfold winsQ; exact inferInstance
theorem near_sym (a b : SState) : nearQ a b ↔ nearQ b a := by
  unfold nearQ besideQ
  constructor
  · rintro (⟨h1, h2⟩ | h | h)
    · exact .inl ⟨h1.symm, h2.symm⟩
    · exact .inr (.inr h)
    · exact .inr (.inl h)
  · rintro (⟨h1, h2⟩ | h | h)
    · exact .inl ⟨h1.symm, h2.symm⟩
    · exact .inr (.inr h)
    · exact .inr (.inl h)
theorem near_self (a : SState) : nearQ a a := .inl ⟨rfl, rfl⟩
theorem max_sym (a b : SState) : winRel b.win (max a.slot b.slot) = denA b a := by unfold denA; rw [Nat.max_comm]
theorem wins_self (a : SState) : ¬ winsQ a a := by
  unfold winsQ
  rw [if_pos (.inl (near_self a)), cmpK_self]; omega
theorem wins_anti {a b : SState} (h : winsQ a b) : ¬ winsQ b a := by
  unfold winsQ at *
  have hs := near_sym a b
  have hk := cmpK_anti (keyS a) (keyS b)
  by_cases hn : nearQ a b ∨ denA a b = denA b a
  · rw [if_pos hn] at h
    rw [if_pos (hn.imp hs.1 Eq.symm)]; omega
  · rw [if_neg hn] at h
    rw [if_neg (fun q => hn (q.imp hs.2 Eq.symm))]; omega
theorem wins_one {a b : SState} (ha : a.Ok) (hb : b.Ok) (h : stH a ≠ stH b) : winsQ a b ∨ winsQ b a := by
  have hs := near_sym a b
  have hk := cmpK_anti (keyS a) (keyS b)
  have hr := cmpK_rng (keyS a) (keyS b)
  have h0 : cmpK (keyS a) (keyS b) ≠ 0 := fun e => h (congrArg OKey.hash ((cmpK_iff (keyS_ok ha) (keyS_ok hb)).1 e))
  unfold winsQ
  by_cases hn : nearQ a b ∨ denA a b = denA b a
  · rw [if_pos hn, if_pos (hn.imp hs.1 Eq.symm)]; omega
  · rw [if_neg hn, if_neg (fun q => hn (q.imp hs.2 Eq.symm))]
    have : denA a b ≠ denA b a := fun e => hn (.inr e)
    omega
/-- The tip that is kept of candidates; how often another one was it. -/
def foldS (t : SState) : List SState → Nat → SState × Nat
  | [], n => (t, n)
  | s :: l, n => if winsQ t s then foldS s l (n + 1) else foldS t l n
theorem foldS_snoc : ∀ (l : List SState) (t : SState) (n : Nat) (s : SState), foldS t (l ++ [s]) n = if winsQ (foldS t l n).1 s then (s, (foldS t l n).2 + 1) else foldS t l n
  | [], t, n, s => by
    by_cases h : winsQ t s
    · simp [foldS, h]
    · simp [foldS, h]
  | x :: l, t, n, s => by
    simp only [List.cons_append, foldS]
    split
    · exact foldS_snoc l x (n + 1) s
    · exact foldS_snoc l t n s
theorem dropC {l : List SState} {i : Nat} (h : i < l.length) : l.drop i = l.getD i default :: l.drop (i + 1) := by
  rw [List.drop_eq_getElem_cons h, List.getD_eq_getElem?_getD, List.getElem?_eq_getElem h]; rfl
theorem foldS_end {x : SState} {l : List SState} {i k : Nat} (h : l.length ≤ i) : foldS x (l.drop i) k = (x, k) := by rw [List.drop_eq_nil_of_le h]; rfl
theorem foldS_yes {x : SState} {l : List SState} {i k : Nat} (h : i < l.length) (e : winsQ x (l.getD i default)) : foldS x (l.drop i) k = foldS (l.getD i default) (l.drop (i + 1)) (k + 1) := by rw [dropC h, foldS, if_pos e]
theorem foldS_no {x : SState} {l : List SState} {i k : Nat} (h : i < l.length) (e : ¬ winsQ x (l.getD i default)) : foldS x (l.drop i) k = foldS x (l.drop (i + 1)) k := by rw [dropC h, foldS, if_neg e]
def AllRt (l : List SState) : Prop := ∀ x ∈ l, x.Right
theorem AllRt.get {l : List SState} (h : AllRt l) {i : Nat} (hi : i < l.length) : (l.getD i default).Right := by
  rw [List.getD_eq_getElem?_getD, List.getElem?_eq_getElem hi, Option.getD_some]
  exact h _ (List.getElem_mem hi)
theorem foldS_spec : ∀ (l : List SState) (t : SState) (n : Nat), t.Ok → t.Right → AllS l → AllRt l → (foldS t l n).1.Ok ∧ (foldS t l n).1.Right ∧ (foldS t l n).2 ≤ n + l.length
  | [], _, n, h1, h2, _, _ => ⟨h1, h2, Nat.le_refl _⟩
  | s :: l, t, n, h1, h2, h3, h4 => by
    unfold foldS
    split
    · have := foldS_spec l s (n + 1) (h3 s (.head _)) (h4 s (.head _)) (fun x hx => h3 x (.tail _ hx)) (fun x hx => h4 x (.tail _ hx))
      exact ⟨this.1, this.2.1, by have := this.2.2; rw [List.length_cons]; omega⟩
    · have := foldS_spec l t n h1 h2 (fun x hx => h3 x (.tail _ hx)) (fun x hx => h4 x (.tail _ hx))
      exact ⟨this.1, this.2.1, by have := this.2.2; rw [List.length_cons]; omega⟩
end Go.Alm

/- Two states as one record. -/
namespace Go.Alm
open Go Go.RowKit
structure SPair where
  a : SState
  b : SState
structure SPair.Ok (x : SPair) : Prop where
  a : x.a.Ok
  b : x.b.Ok
def SPair.cells (x : SPair) : Array Value := aj x.a.cells x.b.cells
theorem SPair.size (x : SPair) : x.cells.size = 726 := by rw [SPair.cells, aj_size, SState.size, SState.size]
theorem SPair.ones (x : SPair) : x.cells.toList.all (·.oneCell') = true := by
  show (x.a.cells.toList ++ x.b.cells.toList).all (·.oneCell') = true
  rw [List.all_append, SState.ones, SState.ones]; rfl
structure SFork where
  p : SPair
structure SFork.Ok (x : SFork) : Prop where
  p : x.p.Ok
def SFork.cells (x : SFork) : Array Value := x.p.cells
theorem SFork.size (x : SFork) : x.cells.size = 726 := x.p.size
theorem SFork.ones (x : SFork) : x.cells.toList.all (·.oneCell') = true := x.p.ones
end Go.Alm

/- Layer 13: what is asked first. -/
namespace Go.Alm
open Go Go.RowKit
def awB5 : GBlk := ⟨5, Z32, hlit 1⟩
def awBf : GBlk := ⟨100, Z32, Z32⟩
def awc : SState := childS awg awB5
def awf : SState := childS awg awBf
theorem awB5_ok : awB5.Ok := ⟨by decide, H32.zero, hlit_ok (by decide)⟩
theorem awBf_ok : awBf.Ok := ⟨by decide, H32.zero, H32.zero⟩
theorem awE5 : childE awg awB5 = 0 := by kernel_rfl
theorem awEf : childE awg awBf = 0 := by kernel_rfl
theorem awc_ok : awc.Ok := childS_ok awg_ok awg_right awB5_ok
theorem awc_right : awc.Right := childS_right awg_right awE5
theorem awf_ok : awf.Ok := childS_ok awg_ok awg_right awBf_ok
theorem awf_right : awf.Right := childS_right awg_right awEf
theorem awN1 : nearQ awa awc := of_decide_eq_true (by kernel_rfl)
theorem awN2 : ¬ nearQ awa awf := of_decide_eq_false (by kernel_rfl)
theorem awW1 : winsQ awg awa := of_decide_eq_true (by kernel_rfl)
theorem awW2 : ¬ winsQ awa awg := wins_anti awW1
theorem awW3 : winsQ awa awc := of_decide_eq_true (by kernel_rfl)
theorem awW4 : ¬ winsQ awc awa := wins_anti awW3
theorem awD1 : denA awa awf = 0 := by kernel_rfl
theorem awD2 : denA awf awa = 0 := by kernel_rfl
theorem awFo : foldS awg [awa, awc, awa] 0 = (awc, 2) := by
  rw [foldS, if_pos awW1, foldS, if_pos awW3, foldS, if_neg awW4]; rfl
theorem awH : stH awa ≠ stH awf := of_decide_eq_false (by kernel_rfl)
end Go.Alm

/- Few states, all right. -/
namespace Go.Alm
open Go Go.RowKit
def rightL (l : List SState) : Bool := l.all (fun s => decide s.Right) && decide (((l.length : Nat) : Int) ≤ (20 : Int))
theorem rightL_no {l : List SState} {i : Nat} (h : i < l.length) (k : ¬ (l.getD i default).Right) : rightL l = false := by
  unfold rightL
  have : l.all (fun s => decide s.Right) = false := by
    rw [List.all_eq_false]
    refine ⟨l.getD i default, ?_, by simpa using k⟩
    rw [List.getD_eq_getElem?_getD, List.getElem?_eq_getElem h, Option.getD_some]
    exact List.getElem_mem h
  rw [this]; rfl
theorem rightL_yes {l : List SState} (h : ∀ j, j < l.length → (l.getD j default).Right) : rightL l = decide (((l.length : Nat) : Int) ≤ (20 : Int)) := by
  unfold rightL
  have : l.all (fun s => decide s.Right) = true := by
    rw [List.all_eq_true]
    intro x hx
    obtain ⟨i, hi, e⟩ := List.mem_iff_getElem.1 hx
    have := h i hi
    rw [List.getD_eq_getElem?_getD, List.getElem?_eq_getElem hi, Option.getD_some, e] at this
    simpa using this
  rw [this, Bool.true_and]
theorem rightL_2 {a b : SState} (h : rightL [a, b] = true) : a.Right ∧ b.Right := by
  unfold rightL at h
  simp at h
  exact h
theorem xor_wins {a b : SState} (ha : a.Ok) (hb : b.Ok) (h : stH a ≠ stH b) : (decide (winsQ a b) != decide (winsQ b a)) = true := by
  have h1 := wins_one ha hb h
  by_cases h2 : winsQ a b
  · rw [decide_eq_true h2, decide_eq_false (wins_anti h2)]; rfl
  · rw [decide_eq_false h2, decide_eq_true (h1.resolve_left h2)]; rfl
theorem near_xor (a b : SState) : (decide (nearQ a b) != decide (nearQ b a)) = false := by
  have h := near_sym a b
  by_cases h1 : nearQ a b
  · rw [decide_eq_true h1, decide_eq_true (h.1 h1)]; rfl
  · rw [decide_eq_false h1, decide_eq_false (fun q => h1 (h.2 q))]; rfl
end Go.Alm
