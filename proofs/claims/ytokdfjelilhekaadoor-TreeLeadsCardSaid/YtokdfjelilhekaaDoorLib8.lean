/- Plain lemmas and laws of the machine that the walks use; without conditions of their own. -/
import Derived.Test.YtokdfjelilhekaaDoorLib4
import Derived.Test.YtokdfjelilhekaaDoorLib7
import Derived.Test.YtokdfjelilhekaaDoorLib5
import Derived.Test.YtokdfjelilhekaaDoorLib6
import Derived.Test.YtokdfjelilhekaaDoorLib3
import Derived.Test.YtokdfjelilhekaaDoorLib2
/- Layer 8's histories, plainly. -/
namespace Go.Alm
open Go Go.RowKit
structure EStep where
  by_ : Nat
  prev : List Nat
  led : List Nat
  draw : List Nat
structure EStep.Ok (x : EStep) : Prop where
  by_ : x.by_ < 4294967296
  prev : H32 x.prev
  led : H32 x.led
  draw : H32 x.draw
def EStep.cells (x : EStep) : Array Value := aj (aj (aj #[.int .u32 (x.by_ : Int)] (hv x.prev)) (hv x.led)) (hv x.draw)
structure SBlk where
  slot : Nat
  st : EStep
def SBlk.cells (b : SBlk) : Array Value := aj #[.int .u32 (b.slot : Int)] b.st.cells
/-- What one block of a history adds to what is told of the epoch E. -/
def addE (E : Nat) (d : EData) (pe : Option Nat) (b : SBlk) : EData :=
  let d1 : EData := if b.slot % 24 < 16 then ⟨d.led, seedL d.seed b.st.draw, d.start, d.lock, d.len⟩ else d
  if b.slot / 24 = E then
    let d2 : EData := if (match pe with | none => 0 | some e => e) < b.slot / 24 then ⟨b.st.led, d1.seed, b.st.prev, Z32, 0⟩ else d1
    if b.slot % 24 < 16 then ⟨d2.led, d2.seed, d2.start, b.st.prev, d2.len + 1⟩ else ⟨d2.led, d2.seed, d2.start, d2.lock, d2.len + 1⟩
  else d1
def stepN (E : Nat) (a : EData × Option Nat) (b : SBlk) : EData × Option Nat := (addE E a.1 a.2 b, some (b.slot / 24))
def lastE (l : List SBlk) : Option Nat := (l.map (·.slot / 24)).getLast?
def lastS (l : List SBlk) : Nat := match l.getLast? with | some b => b.slot | none => 0
def foldN (E : Nat) (led : List Nat) (l : List SBlk) : EData × Option Nat := l.foldl (stepN E) (dataF led, none)
def nextH (led : List Nat) (l : List SBlk) : EData := (foldN (lastS l / 24) led l).1
theorem foldN_snoc (E : Nat) (led : List Nat) (l : List SBlk) (b : SBlk) : foldN E led (l ++ [b]) = stepN E (foldN E led l) b := by simp [foldN]
theorem list_snoc {α : Type} {P : List α → Prop} (h0 : P []) (h1 : ∀ l b, P l → P (l ++ [b])) : ∀ l, P l := fun l => by
  have : ∀ r : List α, P r.reverse := fun r => by
    induction r with
    | nil => exact h0
    | cons x r ih => rw [List.reverse_cons]; exact h1 _ _ ih
  have := this l.reverse
  rwa [List.reverse_reverse] at this
theorem lastS_snoc (l : List SBlk) (b : SBlk) : lastS (l ++ [b]) = b.slot := by simp [lastS]
theorem foldN_2 (E : Nat) (led : List Nat) : ∀ l : List SBlk, (foldN E led l).2 = if l = [] then none else some (lastS l / 24) :=
  list_snoc (by rfl) fun l b _ => by rw [foldN_snoc, if_neg (by simp), lastS_snoc]; rfl
theorem addE_skip {E : Nat} {d : EData} {pe : Option Nat} {b : SBlk} (h : b.slot / 24 ≠ E) : addE E d pe b = if b.slot % 24 < 16 then ⟨d.led, seedL d.seed b.st.draw, d.start, d.lock, d.len⟩ else d := by
  unfold addE
  simp only [if_neg h]
theorem addE_seed (E : Nat) (d : EData) (pe : Option Nat) (b : SBlk) : (addE E d pe b).seed = if b.slot % 24 < 16 then seedL d.seed b.st.draw else d.seed := by
  unfold addE
  by_cases h1 : b.slot % 24 < 16 <;> by_cases h2 : b.slot / 24 = E <;> simp only [h1, h2, if_true, if_false] <;> (try split) <;> (try split) <;> rfl
theorem fold_seed (E F : Nat) (led : List Nat) : ∀ l : List SBlk, (foldN E led l).1.seed = (foldN F led l).1.seed :=
  list_snoc rfl fun l b ih => by rw [foldN_snoc, foldN_snoc]; unfold stepN; simp only [addE_seed, ih]
theorem fold_skip {E : Nat} (led : List Nat) : ∀ l : List SBlk, (∀ x ∈ l, x.slot / 24 ≠ E) → (foldN E led l).1 = ⟨led, (foldN E led l).1.seed, Z32, Z32, 1⟩ :=
  list_snoc (fun _ => rfl) fun l b ih h => by
    have h1 := ih (fun x hx => h x (by simp [hx]))
    rw [foldN_snoc]
    unfold stepN
    rw [addE_skip (h b (by simp)), h1]
    split <;> rfl
theorem nextH_snoc {led : List Nat} {l : List SBlk} {b : SBlk} (hm : ∀ x ∈ l, x.slot / 24 ≤ lastS l / 24) (h : lastS l ≤ b.slot) :
    nextH led (l ++ [b]) = lockD (if lastS l / 24 < b.slot / 24 then ⟨b.st.led, (nextH led l).seed, b.st.prev, Z32, 1⟩ else ⟨(nextH led l).led, (nextH led l).seed, (nextH led l).start, (nextH led l).lock, (nextH led l).len + 1⟩) ⟨lastS l, b.slot, b.st.prev, b.st.led, b.st.draw⟩ := by
  have hle : lastS l / 24 ≤ b.slot / 24 := Nat.div_le_div_right h
  unfold nextH
  rw [lastS_snoc, foldN_snoc]
  have hpe : (match (foldN (b.slot / 24) led l).2 with | none => 0 | some e => e) = lastS l / 24 := by
    rw [foldN_2]
    by_cases hl : l = []
    · subst hl; rfl
    · rw [if_neg hl]
  by_cases ht : lastS l / 24 < b.slot / 24
  · have hs := fold_skip (E := b.slot / 24) led l (fun x hx => by have := hm x hx; omega)
    have hse := fold_seed (lastS l / 24) (b.slot / 24) led l
    rw [if_pos ht, hse]
    unfold stepN addE lockD
    simp only [hpe, if_pos ht, if_true]
    by_cases h1 : b.slot % 24 < 16
    · simp only [if_pos h1]
    · simp only [if_neg h1]
  · have he : b.slot / 24 = lastS l / 24 := by omega
    rw [if_neg ht, ← he]
    unfold stepN addE lockD
    simp only [hpe, if_neg ht, if_true]
    by_cases h1 : b.slot % 24 < 16
    · simp only [if_pos h1]
    · simp only [if_neg h1]
theorem addE_len (E : Nat) (d : EData) (pe : Option Nat) (b : SBlk) : (addE E d pe b).len ≤ d.len + 1 := by
  unfold addE
  by_cases h1 : b.slot % 24 < 16 <;> by_cases h2 : b.slot / 24 = E <;> simp only [h1, h2, if_true, if_false] <;> (try split) <;> (try split) <;> (try simp only) <;> omega
theorem fold_len (E : Nat) (led : List Nat) : ∀ l : List SBlk, (foldN E led l).1.len ≤ l.length + 1 :=
  list_snoc (Nat.le_refl _) fun l b ih => by
    rw [foldN_snoc, List.length_append]
    have := addE_len E (foldN E led l).1 (foldN E led l).2 b
    show (addE _ _ _ _).len ≤ _
    simp only [List.length_cons, List.length_nil]
    omega
theorem nextH_len (led : List Nat) (l : List SBlk) : (nextH led l).len ≤ l.length + 1 := fold_len _ _ _
/-! ### by places -/
structure SBlk.Ok (x : SBlk) : Prop where
  slot : x.slot < 4294967296
  st : x.st.Ok
instance : Inhabited SBlk := ⟨⟨0, ⟨0, Z32, Z32, Z32⟩⟩⟩
instance : Inhabited EStep := ⟨⟨0, Z32, Z32, Z32⟩⟩
theorem EStep.size (x : EStep) : x.cells.size = 97 := by simp [EStep.cells, hv, aj_size]
theorem SBlk.size (x : SBlk) : x.cells.size = 98 := by
  unfold SBlk.cells
  rw [show (aj #[Value.int .u32 (x.slot : Int)] x.st.cells).size = 1 + x.st.cells.size from by rw [aj_eq]; exact Array.size_append, EStep.size]
def addP (E : Nat) (d : EData) (pv : Nat) (b : SBlk) : EData := addE E d (some pv) b
def pvN (l : List SBlk) (i : Nat) : Nat := if i = 0 then 0 else (l.getD (i - 1) default).slot / 24
theorem addE_none (E : Nat) (d : EData) (b : SBlk) : addE E d none b = addP E d 0 b := rfl
theorem lastS_take {l : List SBlk} {i : Nat} (h : 0 < i) (hi : i ≤ l.length) : lastS (l.take i) = (l.getD (i - 1) default).slot := by
  obtain ⟨j, rfl⟩ : ∃ j, i = j + 1 := ⟨i - 1, by omega⟩
  rw [take_snocD (by omega), lastS_snoc]
  rfl
theorem lastS_eq {l : List SBlk} (h : 0 < l.length) : lastS l = (l.getD (l.length - 1) default).slot := by
  have := lastS_take h (Nat.le_refl _)
  rwa [List.take_length] at this
theorem foldN_take {E : Nat} {led : List Nat} {l : List SBlk} {i : Nat} (h : i < l.length) : (foldN E led (l.take (i + 1))).1 = addP E (foldN E led (l.take i)).1 (pvN l i) (l.getD i default) := by
  rw [take_snocD h, foldN_snoc]
  unfold stepN
  rw [foldN_2]
  by_cases h0 : i = 0
  · subst h0; rw [List.take_zero, if_pos rfl]; exact addE_none _ _ _
  · rw [if_neg (by intro e; have := congrArg List.length e; rw [List.length_take, List.length_nil] at this; omega), lastS_take (by omega) (by omega)]
    unfold addP pvN
    rw [if_neg h0]
theorem addP_skip {E pv : Nat} {d : EData} {b : SBlk} (h1 : b.slot / 24 ≠ E) (h2 : ¬ b.slot % 24 < 16) : addP E d pv b = d := by
  unfold addP; rw [addE_skip h1, if_neg h2]
theorem addP_skipL {E pv : Nat} {d : EData} {b : SBlk} (h1 : b.slot / 24 ≠ E) (h2 : b.slot % 24 < 16) : addP E d pv b = ⟨d.led, seedL d.seed b.st.draw, d.start, d.lock, d.len⟩ := by
  unfold addP; rw [addE_skip h1, if_pos h2]
theorem addP_new {E pv : Nat} {d : EData} {b : SBlk} (h1 : b.slot / 24 = E) (h2 : ¬ b.slot % 24 < 16) (h3 : pv < b.slot / 24) : addP E d pv b = ⟨b.st.led, d.seed, b.st.prev, Z32, 1⟩ := by
  unfold addP addE
  simp only [if_pos h1, if_neg h2, if_pos h3]
theorem addP_newL {E pv : Nat} {d : EData} {b : SBlk} (h1 : b.slot / 24 = E) (h2 : b.slot % 24 < 16) (h3 : pv < b.slot / 24) : addP E d pv b = ⟨b.st.led, seedL d.seed b.st.draw, b.st.prev, b.st.prev, 1⟩ := by
  unfold addP addE
  simp only [if_pos h1, if_pos h2, if_pos h3]
theorem addP_more {E pv : Nat} {d : EData} {b : SBlk} (h1 : b.slot / 24 = E) (h2 : ¬ b.slot % 24 < 16) (h3 : ¬ pv < b.slot / 24) : addP E d pv b = ⟨d.led, d.seed, d.start, d.lock, d.len + 1⟩ := by
  unfold addP addE
  simp only [if_pos h1, if_neg h2, if_neg h3]
theorem addP_moreL {E pv : Nat} {d : EData} {b : SBlk} (h1 : b.slot / 24 = E) (h2 : b.slot % 24 < 16) (h3 : ¬ pv < b.slot / 24) : addP E d pv b = ⟨d.led, seedL d.seed b.st.draw, d.start, b.st.prev, d.len + 1⟩ := by
  unfold addP addE
  simp only [if_pos h1, if_pos h2, if_neg h3]
theorem getD_all {α : Type} [Inhabited α] {p : α → Prop} {l : List α} (h : ∀ x ∈ l, p x) {i : Nat} (hi : i < l.length) : p (l.getD i default) := by
  rw [List.getD_eq_getElem?_getD, List.getElem?_eq_getElem hi, Option.getD_some]
  exact h _ (List.getElem_mem hi)
theorem addE_ok {E : Nat} {d : EData} {pe : Option Nat} {b : SBlk} (hd : d.Ok) (hb : b.Ok) (hl : d.len + 1 < 4294967296) : (addE E d pe b).Ok := by
  have h1 : (if b.slot % 24 < 16 then (⟨d.led, seedL d.seed b.st.draw, d.start, d.lock, d.len⟩ : EData) else d).Ok := by
    split
    · exact ⟨hd.led, seedL_ok _ _, hd.start, hd.lock, hd.len⟩
    · exact hd
  have hlen : (if b.slot % 24 < 16 then (⟨d.led, seedL d.seed b.st.draw, d.start, d.lock, d.len⟩ : EData) else d).len = d.len := by split <;> rfl
  unfold addE
  generalize (if b.slot % 24 < 16 then (⟨d.led, seedL d.seed b.st.draw, d.start, d.lock, d.len⟩ : EData) else d) = d1 at *
  simp only
  split
  · have h2 : ∀ q : Bool, (if q = true then (⟨b.st.led, d1.seed, b.st.prev, Z32, 0⟩ : EData) else d1).Ok ∧ (if q = true then (⟨b.st.led, d1.seed, b.st.prev, Z32, 0⟩ : EData) else d1).len + 1 < 4294967296 := fun q => by
      cases q
      · exact ⟨h1, by simp only [Bool.false_eq_true, if_false]; omega⟩
      · exact ⟨⟨hb.st.led, h1.seed, hb.st.prev, H32.zero, by show 0 < 4294967296; decide⟩, by show 0 + 1 < 4294967296; decide⟩
    have h3 := h2 (decide ((match pe with | none => 0 | some e => e) < b.slot / 24))
    simp only [decide_eq_true_eq] at h3
    obtain ⟨h3, h4⟩ := h3
    split
    · exact ⟨h3.led, h3.seed, h3.start, hb.st.prev, h4⟩
    · exact ⟨h3.led, h3.seed, h3.start, h3.lock, h4⟩
  · exact h1
theorem foldN_ok {E : Nat} {led : List Nat} (hl : H32 led) : ∀ l : List SBlk, (∀ x ∈ l, x.Ok) → l.length + 2 < 4294967296 → (foldN E led l).1.Ok :=
  list_snoc (fun _ _ => dataF_ok hl) fun l b ih h hn => by
    rw [foldN_snoc]
    rw [List.length_append] at hn
    simp only [List.length_cons, List.length_nil] at hn
    exact addE_ok (ih (fun x hx => h x (by simp [hx])) (by omega)) (h b (by simp)) (by have := fold_len E led l; omega)
theorem foldN_okT {E : Nat} {led : List Nat} {l : List SBlk} {i : Nat} (hl : H32 led) (hB : ∀ x ∈ l, x.Ok) (hn : l.length + 2 < 4294967296) : (foldN E led (l.take i)).1.Ok :=
  foldN_ok hl _ (fun x hx => hB x (List.mem_of_mem_take hx)) (by have : (l.take i).length ≤ l.length := (by rw [List.length_take]; omega); omega)
end Go.Alm

/- Records out of a row's reading: a struct's parts, one behind the other. -/
namespace Go.Alm
open Go Go.RowKit Go.ChangeShapes Go.WideShapes Go.ChangeAt
def consec (P : Program) : Nat → List (Nat × Nat) → Bool
  | _, [] => true
  | o, (t, off) :: l => Nat.beq off o && consec P (o + P.cellsOf t) l
def tot (P : Program) : Nat → List (Nat × Nat) → Nat
  | o, [] => o
  | o, (t, _) :: l => tot P (o + P.cellsOf t) l
section
variable {H : Type} {enc : TypeId × Value → H} {P : Program} {w : World} {base : Nat} {sp : Nat → Bool} {held : Bool} {fuel t e : Nat} {cs : List Value} {x : DataW H × List MemPlace}
inductive PartsT (enc : TypeId × Value → H) (P : Program) (w : World) (base : Nat) (sp : Nat → Bool) (held : Bool) : List (Nat × Nat) → List Value → Prop
  | nil : PartsT enc P w base sp held [] []
  | cons {n t o : Nat} {c : List Value} {z : DataW H × List MemPlace} {l : List (Nat × Nat)} {cs : List Value} (h : DataW.trod enc P w base sp held n t c = some z) (r : PartsT enc P w base sp held l cs) : PartsT enc P w base sp held ((t, o) :: l) (c ++ cs)
theorem PartsT.inv {t o : Nat} {l : List (Nat × Nat)} (h : PartsT enc P w base sp held ((t, o) :: l) cs) : ∃ n c z cs', DataW.trod enc P w base sp held n t c = some z ∧ PartsT enc P w base sp held l cs' ∧ cs = c ++ cs' := by
  cases h with
  | cons h r => exact ⟨_, _, _, _, h, r, rfl⟩
theorem PartsT.end (h : PartsT enc P w base sp held [] cs) : cs = [] := by cases h; rfl
theorem parts_of_trod {fs : Array Field} {L : List (Nat × Nat)} (he : P.underlying e = some (.struct fs)) (hfs : fs.toList.map (fun f => (f.type, f.offset)) = L) (hL : consec P 0 L = true) (hz : Nat.beq (P.cellsOf e) (tot P 0 L) = true)
    (h : DataW.trod enc P w base sp held fuel e cs = some x) : PartsT enc P w base sp held L cs := by
  obtain ⟨xs, n, _, _, hlen, hxl, hget⟩ := DataW.trod_struct he h
  rw [Nat.eq_of_beq_eq_true hz] at hlen
  have hsz : fs.size = L.length := by have := congrArg List.length hfs; simpa using this
  have get : ∀ (i a b : Nat), L[i]? = some (a, b) → ∃ z, DataW.trod enc P w base sp held n a ((cs.drop b).take (P.cellsOf a)) = some z := fun i a b hi => by
    obtain ⟨f, hf, rfl, rfl⟩ := field_of hfs i hi
    have h1 := hget i f hf
    have hs : i < xs.length := by
      have := (List.getElem?_eq_some_iff.1 hi).1
      omega
    exact ⟨xs[i], by rw [h1]; simp [hs]⟩
  have key : ∀ (M : List (Nat × Nat)) (o k : Nat), L.drop k = M → consec P o M = true → cs.length = tot P o M → PartsT enc P w base sp held M (cs.drop o) := by
    intro M
    induction M with
    | nil => intro o k _ _ hl; rw [List.drop_of_length_le (by rw [hl]; exact Nat.le_refl _)]; exact .nil
    | cons y M ih =>
      obtain ⟨a, b⟩ := y
      intro o k hk hc hl
      simp only [consec, Bool.and_eq_true] at hc
      have hb := Nat.eq_of_beq_eq_true hc.1
      subst hb
      have hi : L[k]? = some (a, b) := by
        have : (L.drop k)[0]? = some (a, b) := by rw [hk]; rfl
        simpa using this
      obtain ⟨z, hz⟩ := get k a b hi
      have := ih (b + P.cellsOf a) (k + 1) (by rw [← List.drop_drop, hk]; rfl) hc.2 hl
      have e : cs.drop b = (cs.drop b).take (P.cellsOf a) ++ cs.drop (b + P.cellsOf a) := by
        rw [← List.drop_drop, List.take_append_drop]
      rw [e]
      exact .cons hz this
  simpa using key L 0 0 rfl hL hlen
structure IsI (P : Program) (k : IntKind) (t : Nat) : Prop where
  u : P.underlying t = some (.int k)
structure IsH (P : Program) (t e : Nat) : Prop where
  u : P.underlying t = some (.array 32 e)
  u8 : P.underlying e = some (.int .u8)
  z : P.cellsOf e = 1
  s : P.cellsOf t = 32
theorem hash_of (h : IsH P t e) (ht : DataW.trod enc P w base sp held fuel t cs = some x) : ∃ l, H32 l ∧ cs = (hv l).toList := by
  obtain ⟨l, hl, rfl, hB⟩ := ints_of_trod h.u h.u8 h.z h.s ht
  exact ⟨l, ⟨hl, hB⟩, (hv_B hl).symm⟩
theorem u32_of (h : IsI P .u32 t) (ht : DataW.trod enc P w base sp held fuel t cs = some x) : ∃ n : Nat, n < 4294967296 ∧ cs = [.int .u32 (n : Int)] := by
  obtain ⟨m, rfl, _, hw⟩ := DataW.trod_int h.u ht
  simp only [Lit.wf, Bool.and_eq_true, decide_eq_true_eq] at hw
  have c1 : IntKind.u32.min = 0 := by decide
  have c2 : IntKind.u32.max = 4294967295 := by decide
  exact ⟨m.toNat, by omega, by rw [show ((m.toNat : Nat) : Int) = m from Int.toNat_of_nonneg (by omega)]⟩
theorem u64_of (h : IsI P .u64 t) (ht : DataW.trod enc P w base sp held fuel t cs = some x) : ∃ n : Nat, n < 18446744073709551616 ∧ cs = [.int .u64 (n : Int)] := by
  obtain ⟨m, rfl, _, hw⟩ := DataW.trod_int h.u ht
  simp only [Lit.wf, Bool.and_eq_true, decide_eq_true_eq] at hw
  have c1 : IntKind.u64.min = 0 := by decide
  have c2 : IntKind.u64.max = 18446744073709551615 := by decide
  exact ⟨m.toNat, by omega, by rw [show ((m.toNat : Nat) : Int) = m from Int.toNat_of_nonneg (by omega)]⟩
theorem i64_of (h : IsI P .i64 t) (ht : DataW.trod enc P w base sp held fuel t cs = some x) : ∃ n : Int, (-9223372036854775808 ≤ n ∧ n ≤ 9223372036854775807) ∧ cs = [.int .i64 n] := by
  obtain ⟨m, rfl, _, hw⟩ := DataW.trod_int h.u ht
  simp only [Lit.wf, Bool.and_eq_true, decide_eq_true_eq] at hw
  have c1 : IntKind.i64.min = -9223372036854775808 := by decide
  have c2 : IntKind.i64.max = 9223372036854775807 := by decide
  exact ⟨m, by omega, rfl⟩
/-- A struct whose fields are these. -/
structure IsS (P : Program) (t : Nat) (L : List (Nat × Nat)) : Prop where
  u : P.underlying t = some (.struct (P.fieldsOf t))
  f : (P.fieldsOf t).toList.map (fun f => (f.type, f.offset)) = L
  c : consec P 0 L = true
  z : Nat.beq (P.cellsOf t) (tot P 0 L) = true
theorem parts_of {L : List (Nat × Nat)} (h : IsS P t L) (ht : DataW.trod enc P w base sp held fuel t cs = some x) : PartsT enc P w base sp held L cs := by
  obtain ⟨h1, h2, h3, h4⟩ := h
  exact parts_of_trod h1 h2 h3 h4 ht
theorem aj_toList (a b : Array Value) : (aj a b).toList = a.toList ++ b.toList := rfl
/-! ### layer 8 -/
structure IsData (P : Program) (t th e tn : Nat) : Prop where
  s : IsS P t [(th, 0), (th, 32), (th, 64), (th, 96), (tn, 128)]
  h : IsH P th e
  n : IsI P .u32 tn
theorem data_of {th tn : Nat} (k : IsData P t th e tn) (ht : DataW.trod enc P w base sp held fuel t cs = some x) : ∃ y : EData, y.Ok ∧ cs = y.cells.toList := by
  obtain ⟨_, _, _, _, h1, r1, rfl⟩ := (parts_of k.s ht).inv
  obtain ⟨_, _, _, _, h2, r2, rfl⟩ := r1.inv
  obtain ⟨_, _, _, _, h3, r3, rfl⟩ := r2.inv
  obtain ⟨_, _, _, _, h4, r4, rfl⟩ := r3.inv
  obtain ⟨_, _, _, _, h5, r5, rfl⟩ := r4.inv
  obtain rfl := r5.end
  obtain ⟨a, ha, rfl⟩ := hash_of k.h h1
  obtain ⟨b, hb, rfl⟩ := hash_of k.h h2
  obtain ⟨c, hc, rfl⟩ := hash_of k.h h3
  obtain ⟨d, hd, rfl⟩ := hash_of k.h h4
  obtain ⟨n, hn, rfl⟩ := u32_of k.n h5
  exact ⟨⟨a, b, c, d, n⟩, ⟨ha, hb, hc, hd, hn⟩, by unfold EData.cells; simp only [aj_toList, List.append_assoc, List.append_nil]⟩
structure IsPair (P : Program) (t td th e tn : Nat) : Prop where
  s : IsS P t [(td, 0), (td, 129)]
  d : IsData P td th e tn
theorem pair_of {td th tn : Nat} (k : IsPair P t td th e tn) (ht : DataW.trod enc P w base sp held fuel t cs = some x) : ∃ y : EPair, y.Ok ∧ cs = y.cells.toList := by
  obtain ⟨_, _, _, _, h1, r1, rfl⟩ := (parts_of k.s ht).inv
  obtain ⟨_, _, _, _, h2, r2, rfl⟩ := r1.inv
  obtain rfl := r2.end
  obtain ⟨a, ha, ea⟩ := data_of k.d h1
  obtain ⟨b, hb, eb⟩ := data_of k.d h2
  exact ⟨⟨a, b⟩, ⟨ha, hb⟩, by rw [ea, eb, List.append_nil]; exact (aj_toList _ _).symm⟩
structure IsBlk (P : Program) (t th e tn : Nat) : Prop where
  s : IsS P t [(tn, 0), (tn, 1), (th, 2), (th, 34), (th, 66)]
  h : IsH P th e
  n : IsI P .u32 tn
theorem blk_of {th tn : Nat} (k : IsBlk P t th e tn) (ht : DataW.trod enc P w base sp held fuel t cs = some x) : ∃ y : EBlk, y.Ok ∧ cs = y.cells.toList := by
  obtain ⟨_, _, _, _, h1, r1, rfl⟩ := (parts_of k.s ht).inv
  obtain ⟨_, _, _, _, h2, r2, rfl⟩ := r1.inv
  obtain ⟨_, _, _, _, h3, r3, rfl⟩ := r2.inv
  obtain ⟨_, _, _, _, h4, r4, rfl⟩ := r3.inv
  obtain ⟨_, _, _, _, h5, r5, rfl⟩ := r4.inv
  obtain rfl := r5.end
  obtain ⟨a, ha, rfl⟩ := u32_of k.n h1
  obtain ⟨b, hb, rfl⟩ := u32_of k.n h2
  obtain ⟨c, hc, rfl⟩ := hash_of k.h h3
  obtain ⟨d, hd, rfl⟩ := hash_of k.h h4
  obtain ⟨n, hn, rfl⟩ := hash_of k.h h5
  exact ⟨⟨a, b, c, d, n⟩, ⟨ha, hb, hc, hd, hn⟩, by unfold EBlk.cells; simp only [aj_toList, List.append_assoc, List.append_nil]; rfl⟩
end
theorem okWide_array {P : Program} {w : World} {r : Reach} {base : Nat} {v : Value} {t n e : Nat} (ht : P.underlying t = some (.array n e)) (h : Value.okWide P w r base t v) : ∃ cs, v = .agg cs ∧ cs.size = P.cellsOf t := by
  simp only [Value.okWide, ht] at h
  obtain ⟨cs, h1, h2, _⟩ := h
  exact ⟨cs, h1, h2⟩
def sinceRe (w : World) : Re := ⟨Old w.heap.size, fun w' => Fr w w' N0, fun _ h _ hk => Nat.lt_of_lt_of_le hk h.size, fun _ _ _ h F d => ⟨F.os.trans h.os, F.tape.trans h.tape, F.output.trans h.output, Nat.le_trans h.size F.size, fun k hk _ => (F.block k (Nat.lt_of_lt_of_le hk h.size) (fun ht => d k hk ht)).trans (h.block k hk (fun h => h.elim))⟩⟩
theorem agg_eq {q c : Array Value} (h : (Value.agg q).cells.toList = c.toList) : q = c := Array.toList_inj.1 (by simpa [Value.cells] using h)
theorem bandI {a b : Bool} (h : a = true) (k : b = true) : (a && b) = true := by rw [h, k]; rfl
inductive RoA (w : World) : List Rc → Prop
  | nil : RoA w []
  | cons {r : Rc} {l : List Rc} (h : r.A w) (t : RoA w l) : RoA w (r :: l)
theorem RoA.out {w : World} {l : List Rc} (h : RoA w l) : ∀ r ∈ l, r.A w := by
  induction h with
  | nil => intro r h; cases h
  | cons h _ ih => intro r hr; rcases List.mem_cons.1 hr with rfl | hr; exact h; exact ih r hr
/-- A contract of the machine's, for a row: nothing old is touched. -/
theorem Does.row {P : Program} {f : Nat} {args : Array Value} {ro : List Rc} {v : Value} (h : Does P f args ro [] (fun v' H => v' = v ∧ H = [])) {w : World} (hA : ∀ r ∈ ro, r.A w) : Calls P f args w fun e w' => e = .returned v ∧ Fr w w' N0 := by
  have hs : Hs w (.gen (sinceRe w) :: ro) [] := ⟨fun r hr => by
    simp only [List.append_nil, List.mem_cons] at hr
    rcases hr with rfl | hr
    · exact Fr.refl _ _
    · exact hA r hr, fun _ _ o ho => (by cases ho), List.Pairwise.nil⟩
  refine (h _ w hs).mono ?_
  rintro e w' ⟨v', H, ⟨rfl, rfl⟩, rfl, hs'⟩
  exact ⟨rfl, hs'.a (.gen (sinceRe w)) (by simp)⟩
end Go.Alm

/- Records out of a row's reading: layers 9 and 12; slices of records. -/
namespace Go.Alm
open Go Go.RowKit Go.ChangeShapes Go.WideShapes Go.ChangeAt
section
variable {H : Type} {enc : TypeId × Value → H} {P : Program} {w : World} {base : Nat} {sp : Nat → Bool} {held : Bool} {fuel t e : Nat} {cs : List Value} {x : DataW H × List MemPlace}
structure IsC4 (P : Program) (t e : Nat) : Prop where
  u : P.underlying t = some (.array 4 e)
  n : IsI P .u32 e
  z : P.cellsOf e = 1
  s : P.cellsOf t = 4
theorem c4_of (h : IsC4 P t e) (ht : DataW.trod enc P w base sp held fuel t cs = some x) : ∃ l, N4 l ∧ cs = (c4 l).toList := by
  obtain ⟨xs, m, _, _, hlen, hxl, hget⟩ := DataW.trod_array h.u ht
  rw [h.s] at hlen
  have key : ∀ i, i < 4 → ∃ q : Nat, q < 4294967296 ∧ cs[i]? = some (.int .u32 (q : Int)) := fun i hi => by
    have h1 := hget i hi
    have hs : (xs[i]?).isSome = true := by simp [hxl, hi]
    obtain ⟨y, hy⟩ := Option.isSome_iff_exists.1 hs
    rw [hy] at h1
    obtain ⟨n, hn, hc⟩ := u32_of h.n h1
    rw [h.z, Nat.mul_one] at hc
    have hi' : i < cs.length := by omega
    rw [List.drop_eq_getElem_cons hi'] at hc
    simp only [List.take_succ_cons, List.take_zero, List.cons.injEq, and_true] at hc
    exact ⟨n, hn, by rw [← hc]; simp [hi']⟩
  obtain ⟨a, ha, ea⟩ := key 0 (by decide)
  obtain ⟨b, hb, eb⟩ := key 1 (by decide)
  obtain ⟨c, hc, ec⟩ := key 2 (by decide)
  obtain ⟨d, hd, ed⟩ := key 3 (by decide)
  refine ⟨[a, b, c, d], ⟨rfl, fun x hx => ?_⟩, ?_⟩
  · simp only [List.mem_cons, List.not_mem_nil, or_false] at hx
    rcases hx with rfl | rfl | rfl | rfl <;> assumption
  · match cs, hlen, ea, eb, ec, ed with
    | [_, _, _, _], _, ea, eb, ec, ed =>
      simp only [List.getElem?_cons_zero, List.getElem?_cons_succ, Option.some.injEq] at ea eb ec ed
      subst ea eb ec ed
      rfl
structure IsRing (P : Program) (t tc tn : Nat) : Prop where
  s : IsS P t [(tn, 0), (tc, 1)]
  c : IsC4 P tc tn
theorem ring_of {tc tn : Nat} (k : IsRing P t tc tn) (ht : DataW.trod enc P w base sp held fuel t cs = some x) : ∃ y : RRing, y.Ok ∧ cs = y.cells.toList := by
  obtain ⟨_, _, _, _, h1, r1, rfl⟩ := (parts_of k.s ht).inv
  obtain ⟨_, _, _, _, h2, r2, rfl⟩ := r1.inv
  obtain rfl := r2.end
  obtain ⟨n, hn, rfl⟩ := u32_of k.c.n h1
  obtain ⟨l, hl, rfl⟩ := c4_of k.c h2
  exact ⟨⟨n, l⟩, ⟨hn, hl⟩, rfl⟩
structure IsWin (P : Program) (t tr tc tn : Nat) : Prop where
  s : IsS P t [(tn, 0), (tr, 1)]
  r : IsRing P tr tc tn
theorem win_of {tr tc tn : Nat} (k : IsWin P t tr tc tn) (ht : DataW.trod enc P w base sp held fuel t cs = some x) : ∃ y : RWin, y.Ok ∧ cs = y.cells.toList := by
  obtain ⟨_, _, _, _, h1, r1, rfl⟩ := (parts_of k.s ht).inv
  obtain ⟨_, _, _, _, h2, r2, rfl⟩ := r1.inv
  obtain rfl := r2.end
  obtain ⟨n, hn, rfl⟩ := u32_of k.r.c.n h1
  obtain ⟨y, hy, rfl⟩ := ring_of k.r h2
  exact ⟨⟨n, y⟩, ⟨hn, hy⟩, rfl⟩
structure IsState (P : Program) (t th e tn tw tr tc tp td : Nat) : Prop where
  s : IsS P t [(th, 0), (th, 32), (th, 64), (tn, 96), (tn, 97), (tn, 98), (tw, 99), (tp, 105)]
  h : IsH P th e
  n : IsI P .u32 tn
  w : IsWin P tw tr tc tn
  p : IsPair P tp td th e tn
theorem st_cells (a b c : List Nat) (d f g : Nat) (u : RWin) (v : EPair) : (SState.cells ⟨a, b, c, d, f, g, u, v⟩).toList = (hv a).toList ++ ((hv b).toList ++ ((hv c).toList ++ ([.int .u32 (d : Int)] ++ ([.int .u32 (f : Int)] ++ ([.int .u32 (g : Int)] ++ (u.cells.toList ++ (v.cells.toList ++ []))))))) := by
  have h : ∀ A B C U V : Array Value, ∀ x y z : Value, (aj (aj (aj (aj (aj A B) C) #[x, y, z]) U) V).toList = A.toList ++ (B.toList ++ (C.toList ++ ([x] ++ ([y] ++ ([z] ++ (U.toList ++ (V.toList ++ []))))))) := by
    intro A B C U V x y z
    simp only [aj_toList, List.append_assoc, List.append_nil, List.cons_append, List.nil_append]
  exact h _ _ _ _ _ _ _ _
theorem state_of {th tn tw tr tc tp td : Nat} (k : IsState P t th e tn tw tr tc tp td) (ht : DataW.trod enc P w base sp held fuel t cs = some x) : ∃ y : SState, y.Ok ∧ cs = y.cells.toList := by
  obtain ⟨_, _, _, _, h1, r1, rfl⟩ := (parts_of k.s ht).inv
  obtain ⟨_, _, _, _, h2, r2, rfl⟩ := r1.inv
  obtain ⟨_, _, _, _, h3, r3, rfl⟩ := r2.inv
  obtain ⟨_, _, _, _, h4, r4, rfl⟩ := r3.inv
  obtain ⟨_, _, _, _, h5, r5, rfl⟩ := r4.inv
  obtain ⟨_, _, _, _, h6, r6, rfl⟩ := r5.inv
  obtain ⟨_, _, _, _, h7, r7, rfl⟩ := r6.inv
  obtain ⟨_, _, _, _, h8, r8, rfl⟩ := r7.inv
  obtain rfl := r8.end
  obtain ⟨a, ha, e1⟩ := hash_of k.h h1
  obtain ⟨b, hb, e2⟩ := hash_of k.h h2
  obtain ⟨c, hc, e3⟩ := hash_of k.h h3
  obtain ⟨d, hd, e4⟩ := u32_of k.n h4
  obtain ⟨f, hf, e5⟩ := u32_of k.n h5
  obtain ⟨g, hg, e6⟩ := u32_of k.n h6
  obtain ⟨u, hu, e7⟩ := win_of k.w h7
  obtain ⟨v, hw, e8⟩ := pair_of k.p h8
  refine ⟨⟨a, b, c, d, f, g, u, v⟩, ⟨ha, hb, hc, hd, hf, hg, hu, hw⟩, ?_⟩
  rw [e1, e2, e3, e4, e5, e6, e7, e8]
  exact (st_cells _ _ _ _ _ _ _ _).symm
structure IsKey (P : Program) (t th e tn : Nat) : Prop where
  s : IsS P t [(tn, 0), (th, 1), (th, 33)]
  h : IsH P th e
  n : IsI P .u32 tn
theorem key_of {th tn : Nat} (k : IsKey P t th e tn) (ht : DataW.trod enc P w base sp held fuel t cs = some x) : ∃ y : OKey, y.Ok ∧ cs = y.cells.toList := by
  obtain ⟨_, _, _, _, h1, r1, rfl⟩ := (parts_of k.s ht).inv
  obtain ⟨_, _, _, _, h2, r2, rfl⟩ := r1.inv
  obtain ⟨_, _, _, _, h3, r3, rfl⟩ := r2.inv
  obtain rfl := r3.end
  obtain ⟨a, ha, rfl⟩ := u32_of k.n h1
  obtain ⟨b, hb, rfl⟩ := hash_of k.h h2
  obtain ⟨c, hc, rfl⟩ := hash_of k.h h3
  exact ⟨⟨a, b, c⟩, ⟨ha, hb, hc⟩, by unfold OKey.cells; simp only [aj_toList, List.append_assoc, List.append_nil]⟩
structure IsStep (P : Program) (t th e tn : Nat) : Prop where
  s : IsS P t [(tn, 0), (th, 1), (th, 33), (th, 65)]
  h : IsH P th e
  n : IsI P .u32 tn
theorem step_of {th tn : Nat} (k : IsStep P t th e tn) (ht : DataW.trod enc P w base sp held fuel t cs = some x) : ∃ y : EStep, y.Ok ∧ cs = y.cells.toList := by
  obtain ⟨_, _, _, _, h1, r1, rfl⟩ := (parts_of k.s ht).inv
  obtain ⟨_, _, _, _, h2, r2, rfl⟩ := r1.inv
  obtain ⟨_, _, _, _, h3, r3, rfl⟩ := r2.inv
  obtain ⟨_, _, _, _, h4, r4, rfl⟩ := r3.inv
  obtain rfl := r4.end
  obtain ⟨a, ha, rfl⟩ := u32_of k.n h1
  obtain ⟨b, hb, rfl⟩ := hash_of k.h h2
  obtain ⟨c, hc, rfl⟩ := hash_of k.h h3
  obtain ⟨d, hd, rfl⟩ := hash_of k.h h4
  exact ⟨⟨a, b, c, d⟩, ⟨ha, hb, hc, hd⟩, by unfold EStep.cells; simp only [aj_toList, List.append_assoc, List.append_nil]⟩
/-- A slice of records. -/
theorem recs_of_trod {X : Type} {f : X → Array Value} {Ok : X → Prop} {sz : Nat} (hsz : ∀ y, (f y).size = sz) (hp : 0 < sz) (ht : P.underlying t = some (.slice e)) (ze : P.cellsOf e = sz)
    (el : ∀ (fu : Nat) (c : List Value) (y : DataW H × List MemPlace), DataW.trod enc P w base sp held fu e c = some y → ∃ z : X, Ok z ∧ c = (f z).toList)
    (h : DataW.trod enc P w base sp held fuel t cs = some x) : ∃ (ao : Option Addr) (l : List X) (cap : Nat), cs = [.slice ao l.length cap] ∧ Rd w ao (RL f l) ∧ (∀ y ∈ l, Ok y) ∧ l.length ≤ cap ∧ cap ≤ maxLen := by
  rcases DataW.trod_slice ht h with ⟨rfl, _⟩ | ⟨a, len, cap, elems, rest, n, _, rfl, _, _, hlc, hcm, hel, hget, _⟩
  · exact ⟨none, [], 0, rfl, Rd.nil _ _, fun _ h => (by cases h), Nat.le_refl _, Nat.zero_le _⟩
  · have key : ∀ i, i < len → ∃ y : X, Ok y ∧ ∀ j, j < sz → w.cell? ((a.add (i * sz)).add j) = (f y).toList[j]? := fun i hi' => by
      have h1 := hget i hi'
      have hs : (elems[i]?).isSome = true := by simp [hel, hi']
      obtain ⟨c, hc, hy⟩ := some_of_bind h1 hs
      obtain ⟨y, hy'⟩ := Option.isSome_iff_exists.1 hs
      rw [hy'] at hy
      obtain ⟨z, ok, ez⟩ := el _ _ _ hy
      rw [ze] at hc
      have hcc := (World.cells?_some hc).2.2
      rw [ez] at hcc
      exact ⟨z, ok, hcc⟩
    have build : ∀ m, m ≤ len → ∃ l : List X, l.length = m ∧ (∀ y ∈ l, Ok y) ∧ ∀ i, i < m → ∃ y, l[i]? = some y ∧ ∀ j, j < sz → w.cell? ((a.add (i * sz)).add j) = (f y).toList[j]? := by
      intro m
      induction m with
      | zero => exact fun _ => ⟨[], rfl, fun _ h => (by cases h), fun i hi => absurd hi (by omega)⟩
      | succ m ih =>
        intro hm
        obtain ⟨l, hl, hok, hg⟩ := ih (by omega)
        obtain ⟨y, hy, hc⟩ := key m (by omega)
        refine ⟨l ++ [y], by simp [hl], fun z hz => ?_, fun i hi => ?_⟩
        · rcases List.mem_append.1 hz with hz | hz
          · exact hok z hz
          · rw [List.mem_singleton.1 hz]; exact hy
        · rcases Nat.lt_or_ge i m with h1 | h1
          · obtain ⟨z, hz, hc'⟩ := hg i h1
            exact ⟨z, by rw [List.getElem?_append_left (by omega)]; exact hz, hc'⟩
          · have : i = m := by omega
            subst this
            exact ⟨y, by rw [List.getElem?_append_right (by omega)]; simp [hl], hc⟩
    obtain ⟨l, hl, hok, hg⟩ := build len (Nat.le_refl _)
    subst hl
    refine ⟨some a, l, cap, rfl, fun j u hj => ?_, hok, hlc, hcm⟩
    have hjl := (List.getElem?_eq_some_iff.1 hj).1
    rw [RL_length hsz] at hjl
    have hdiv : j / sz < l.length := (Nat.div_lt_iff_lt_mul hp).2 hjl
    obtain ⟨y, hy, hc⟩ := hg _ hdiv
    have hm : j % sz < sz := Nat.mod_lt _ hp
    refine ⟨a, rfl, ?_⟩
    have hdm : j / sz * sz + j % sz = j := by rw [Nat.mul_comm]; exact Nat.div_add_mod j sz
    have e1 : (a.add (j / sz * sz)).add (j % sz) = a.add j := by rw [add_add, hdm]
    have hc := hc _ hm
    rw [e1] at hc
    rw [hc]
    -- the same cell of the row
    have hw := congrArg (fun q : List Value => q[j % sz]?) (show ((RL f l).drop (j / sz * sz)).take sz = (f y).toList from by
      have hlt : j / sz < l.length := hdiv
      rw [RL_drop hsz, List.drop_eq_getElem_cons hlt, RL]
      have : l[j / sz] = y := by rw [List.getElem?_eq_getElem hlt] at hy; exact Option.some.inj hy
      rw [this, List.take_append_of_le_length (by simp [hsz]), List.take_of_length_le (by simp [hsz])])
    simp only [List.getElem?_take, if_pos hm, List.getElem?_drop, hdm] at hw
    rw [← hw]; exact hj
end
end Go.Alm

/- Layers 6, 7 and 10, plainly: rings, windows, and children. -/
namespace Go.Alm
open Go Go.RowKit
/-- What place `i` counts of the sub-windows up to `n`: nothing, if its sub-window is behind the last one that was counted. -/
def kp (last n i c : Nat) : Nat := if n ≤ last + (n + 4 - i) % 4 then c else 0
theorem kp_le (last n i c : Nat) : kp last n i c ≤ c := by unfold kp; split <;> omega
def RRing.cn (r : RRing) (i : Nat) : Nat := r.counts.getD i 0
/-- The ring, as it is looked at up to sub-window `n`. -/
def ringTo (r : RRing) (n : Nat) : RRing := ⟨r.last, [kp r.last n 0 (r.cn 0), kp r.last n 1 (r.cn 1), kp r.last n 2 (r.cn 2), kp r.last n 3 (r.cn 3)]⟩
def ringSum (r : RRing) : Nat := r.cn 0 + r.cn 1 + r.cn 2 + r.cn 3
def kq (r : RRing) (n i : Nat) : Nat := kp r.last n i (r.cn i) + (if n % 4 = i then 1 else 0)
def ringAdd (r : RRing) (n : Nat) : RRing := ⟨n, [kq r n 0, kq r n 1, kq r n 2, kq r n 3]⟩
def ring0 : RRing := ⟨0, [0, 0, 0, 0]⟩
def ringPE (r : RRing) (n : Nat) : Nat := if n < r.last then 6 else if n = r.last ∧ 3 ≤ r.cn (n % 4) then 11 else 0
def ringPut (r : RRing) (n : Nat) : RRing := if ringPE r n = 0 then ringAdd r n else ring0
def ringBE (r : RRing) (n : Nat) : Nat := if n ≤ r.last then 6 else 0
def ringBef (r : RRing) (n : Nat) : Nat := if n ≤ r.last then 0 else ringSum (ringTo r (n - 1))
def winRel (x : RWin) (s : Nat) : Nat := if s < 12 ∨ s / 3 ≤ x.ring.last then x.min else min x.min (ringBef x.ring (s / 3))
def win0 : RWin := ⟨0, ring0⟩
def winPut (x : RWin) (s : Nat) : RWin := if ringPE x.ring (s / 3) = 0 then ⟨winRel x s, ringAdd x.ring (s / 3)⟩ else win0
theorem ring0_ok : ring0.Ok := ⟨by decide, by decide⟩
theorem win0_ok : win0.Ok := ⟨by decide, ring0_ok⟩
/-- Few enough to be added. -/
def RRing.Few (r : RRing) : Prop := r.cn 0 + r.cn 1 + r.cn 2 + r.cn 3 < 4294967295
theorem RRing.Right.few {r : RRing} (h : r.Right) : r.Few := by
  obtain ⟨h0, h1, h2, h3, _⟩ := h
  unfold RRing.Few RRing.cn; omega
theorem RRing.Right.le {r : RRing} (h : r.Right) (i : Nat) (hi : i < 4) : r.cn i ≤ 3 := by
  obtain ⟨h0, h1, h2, h3, _⟩ := h
  unfold RRing.cn
  match i, hi with
  | 0, _ => exact h0
  | 1, _ => exact h1
  | 2, _ => exact h2
  | 3, _ => exact h3
theorem n4_mk {a b c d : Nat} (ha : a < 4294967296) (hb : b < 4294967296) (hc : c < 4294967296) (hd : d < 4294967296) : N4 [a, b, c, d] := ⟨rfl, fun x hx => by
  simp only [List.mem_cons, List.not_mem_nil, or_false] at hx
  omega⟩
theorem ringTo_ok {r : RRing} (h : r.Ok) (n : Nat) : (ringTo r n).Ok := ⟨h.last, n4_mk (Nat.lt_of_le_of_lt (kp_le _ _ _ _) (h.counts.lt 0)) (Nat.lt_of_le_of_lt (kp_le _ _ _ _) (h.counts.lt 1)) (Nat.lt_of_le_of_lt (kp_le _ _ _ _) (h.counts.lt 2)) (Nat.lt_of_le_of_lt (kp_le _ _ _ _) (h.counts.lt 3))⟩
theorem ringTo_few {r : RRing} (h : r.Few) (n : Nat) : (ringTo r n).Few := by
  have h0 := kp_le r.last n 0 (r.cn 0); have h1 := kp_le r.last n 1 (r.cn 1); have h2 := kp_le r.last n 2 (r.cn 2); have h3 := kp_le r.last n 3 (r.cn 3)
  unfold RRing.Few at *
  show kp r.last n 0 (r.cn 0) + kp r.last n 1 (r.cn 1) + kp r.last n 2 (r.cn 2) + kp r.last n 3 (r.cn 3) < _
  omega
theorem kq_lt {r : RRing} (h : r.Few) (n i : Nat) (hi : i < 4) : kq r n i < 4294967296 := by
  have := kp_le r.last n i (r.cn i)
  have hc : r.cn i < 4294967295 := by unfold RRing.Few at h; match i, hi with | 0, _ => omega | 1, _ => omega | 2, _ => omega | 3, _ => omega
  unfold kq; split <;> omega
theorem ringAdd_ok {r : RRing} (h : r.Few) {n : Nat} (hn : n < 4294967296) : (ringAdd r n).Ok := ⟨hn, n4_mk (kq_lt h n 0 (by decide)) (kq_lt h n 1 (by decide)) (kq_lt h n 2 (by decide)) (kq_lt h n 3 (by decide))⟩
theorem ringPut_ok {r : RRing} (h : r.Few) {n : Nat} (hn : n < 4294967296) : (ringPut r n).Ok := by unfold ringPut; split; exact ringAdd_ok h hn; exact ring0_ok
theorem ringBef_lt {r : RRing} (h : r.Few) (n : Nat) : ringBef r n < 4294967296 := by
  have := ringTo_few h (n - 1)
  unfold ringBef ringSum
  unfold RRing.Few at this
  split <;> omega
theorem winRel_le (x : RWin) (s : Nat) : winRel x s ≤ x.min := by unfold winRel; split <;> omega
theorem winPut_ok {x : RWin} (hx : x.Ok) (h : x.ring.Few) {s : Nat} (hs : s < 4294967296) : (winPut x s).Ok := by
  unfold winPut; split
  · exact ⟨Nat.lt_of_le_of_lt (winRel_le x s) hx.min, ringAdd_ok h (by omega)⟩
  · exact win0_ok
/-! ### the steps of the code -/
theorem ringSum_eq (r : RRing) : r.counts.getD 0 0 + r.counts.getD 1 0 + r.counts.getD 2 0 + r.counts.getD 3 0 = ringSum r := rfl
/-- What was passed is dropped, one place behind the other. -/
def zap (l : List Nat) (a : Nat) : Nat → List Nat
  | 0 => l
  | k + 1 => (zap l a k).set ((a + 1 + k) % 4) 0
theorem zap_n4 {l : List Nat} (h : N4 l) (a : Nat) : ∀ k, N4 (zap l a k)
  | 0 => h
  | k + 1 => by
    have ih := zap_n4 h a k
    refine ⟨by rw [zap, List.length_set]; exact ih.1, fun x hx => ?_⟩
    rcases List.mem_or_eq_of_mem_set hx with hx | hx
    · exact ih.2 x hx
    · omega
theorem list4 {l : List Nat} (h : l.length = 4) : l = [l.getD 0 0, l.getD 1 0, l.getD 2 0, l.getD 3 0] := by
  match l, h with
  | [a, b, c, d], _ => rfl
theorem getD_set0 (l : List Nat) (i j : Nat) (h : i < l.length) : (l.set i 0).getD j 0 = if i = j then 0 else l.getD j 0 := by
  simp only [List.getD_eq_getElem?_getD, List.getElem?_set]
  split
  · rename_i e; subst e; simp [h]
  · rfl
theorem zap_get {l : List Nat} (h : N4 l) (last : Nat) : ∀ k, k ≤ 4 → ∀ i, i < 4 → (zap l (last % 4) k).getD i 0 = kp last (last + k) i (l.getD i 0)
  | 0, _, i, hi => by rw [zap, kp, if_pos (by omega)]
  | k + 1, hk, i, hi => by
    have ih := zap_get h last k (by omega) i hi
    rw [zap, getD_set0 _ _ _ (by rw [(zap_n4 h _ k).1]; omega), ih]
    unfold kp
    by_cases e : (last % 4 + 1 + k) % 4 = i
    · rw [if_pos e, if_neg (by omega)]
    · rw [if_neg e]
      by_cases g : last + k ≤ last + (last + k + 4 - i) % 4
      · rw [if_pos g, if_pos (by omega)]
      · rw [if_neg g, if_neg (by omega)]
theorem kp_far (last n i c : Nat) (h : last + 4 ≤ n) : kp last n i c = 0 := by rw [kp, if_neg (by omega)]
theorem zap_to {r : RRing} (h : r.Ok) {n : Nat} (h1 : r.last < n) (h2 : n - r.last - 1 < 4) : (⟨r.last, zap r.counts (r.last % 4) (n - r.last - 1)⟩ : RRing) = ringTo r (n - 1) := by
  have e := list4 (zap_n4 h.counts (r.last % 4) (n - r.last - 1)).1
  have g := fun i hi => zap_get h.counts r.last (n - r.last - 1) (by omega) i hi
  rw [g 0 (by decide), g 1 (by decide), g 2 (by decide), g 3 (by decide), show r.last + (n - r.last - 1) = n - 1 by omega] at e
  rw [e]; rfl
theorem to_far (r : RRing) {n : Nat} (h : r.last + 4 ≤ n) : (⟨r.last, [0, 0, 0, 0]⟩ : RRing) = ringTo r n := by
  rw [ringTo, kp_far _ _ _ _ h, kp_far _ _ _ _ h, kp_far _ _ _ _ h, kp_far _ _ _ _ h]
/-- One more at a place. -/
theorem set_inc {l : List Nat} (h : l.length = 4) {p : Nat} (hp : p < 4) : l.set p (l.getD p 0 + 1) = [l.getD 0 0 + (if p = 0 then 1 else 0), l.getD 1 0 + (if p = 1 then 1 else 0), l.getD 2 0 + (if p = 2 then 1 else 0), l.getD 3 0 + (if p = 3 then 1 else 0)] := by
  match l, h, p, hp with
  | [a, b, c, d], _, 0, _ => rfl
  | [a, b, c, d], _, 1, _ => rfl
  | [a, b, c, d], _, 2, _ => rfl
  | [a, b, c, d], _, 3, _ => rfl
theorem kp_same (last i c : Nat) : kp last last i c = c := by rw [kp, if_pos (by omega)]
theorem put_same {r : RRing} (h : r.Ok) : (⟨r.last, r.counts.set (r.last % 4) (r.counts.getD (r.last % 4) 0 + 1)⟩ : RRing) = ringAdd r r.last := by
  rw [set_inc h.counts.1 (Nat.mod_lt _ (by decide)), ringAdd]
  simp only [kq, kp_same]; rfl
theorem put_later {r : RRing} {n : Nat} (h : r.last < n) : (⟨n, ((ringTo r (n - 1)).counts.set (n % 4) 0).set (n % 4) (((ringTo r (n - 1)).counts.set (n % 4) 0).getD (n % 4) 0 + 1)⟩ : RRing) = ringAdd r n := by
  have hl : ((ringTo r (n - 1)).counts.set (n % 4) 0).length = 4 := by rw [List.length_set]; rfl
  rw [set_inc hl (Nat.mod_lt _ (by decide)), ringAdd]
  have key : ∀ i, i < 4 → (((ringTo r (n - 1)).counts.set (n % 4) 0).getD i 0 + (if n % 4 = i then 1 else 0)) = kq r n i := by
    intro i hi
    rw [getD_set0 _ _ _ (by show n % 4 < 4; omega)]
    have hc : (ringTo r (n - 1)).counts.getD i 0 = kp r.last (n - 1) i (r.cn i) := by
      match i, hi with
      | 0, _ => rfl
      | 1, _ => rfl
      | 2, _ => rfl
      | 3, _ => rfl
    unfold kq
    by_cases e : n % 4 = i
    · rw [if_pos e, if_pos e, kp, if_neg (by omega)]
    · rw [if_neg e, if_neg e, hc]
      unfold kp
      by_cases g : n ≤ r.last + (n + 4 - i) % 4
      · rw [if_pos g, if_pos (by omega)]
      · rw [if_neg g, if_neg (by omega)]
  rw [key 0 (by decide), key 1 (by decide), key 2 (by decide), key 3 (by decide)]
/-! ### the reference's steps -/
/-- The last sub-window up to `n` that place `i` counts. -/
def ofZ (n i : Nat) : Int := (n : Int) - (((n + 4 - i) % 4 : Nat) : Int)
def atR (r : RRing) (g : Int) : Nat := if ofZ r.last 0 = g then r.cn 0 else if ofZ r.last 1 = g then r.cn 1 else if ofZ r.last 2 = g then r.cn 2 else if ofZ r.last 3 = g then r.cn 3 else 0
theorem ofZ_eq {last n i j : Nat} (hi : i < 4) (hj : j < 4) (h : last ≤ n) : ofZ last i = ofZ n j ↔ i = j ∧ n ≤ last + (n + 4 - j) % 4 := by unfold ofZ; omega
theorem at_of (r : RRing) {n j : Nat} (hj : j < 4) (h : r.last ≤ n) : atR r (ofZ n j) = kp r.last n j (r.cn j) := by
  unfold atR kp
  simp only [ofZ_eq (i := 0) (by decide) hj h, ofZ_eq (i := 1) (by decide) hj h, ofZ_eq (i := 2) (by decide) hj h, ofZ_eq (i := 3) (by decide) hj h]
  by_cases g : n ≤ r.last + (n + 4 - j) % 4
  · match j, hj, g with
    | 0, _, g => simp [g]
    | 1, _, g => simp [g]
    | 2, _, g => simp [g]
    | 3, _, g => simp [g]
  · simp [g]
theorem at_le {r : RRing} (h : r.Right) (g : Int) : atR r g ≤ 3 := by
  have h0 := h.le 0 (by decide); have h1 := h.le 1 (by decide); have h2 := h.le 2 (by decide); have h3 := h.le 3 (by decide)
  unfold atR
  repeat' split
  all_goals omega
theorem at_back (r : RRing) {n : Nat} (h : r.last < n) (i : Nat) (h1 : 1 ≤ i) (h4 : i ≤ 4) : atR r ((n : Int) - (i : Int)) = kp r.last (n - 1) ((n + 4 - i) % 4) (r.cn ((n + 4 - i) % 4)) := by
  rw [← at_of r (Nat.mod_lt _ (by decide)) (by omega)]
  congr 1
  unfold ofZ; omega
theorem bef_sum {r : RRing} {n : Nat} (h : r.last < n) : atR r ((n : Int) - (1 : Int)) + atR r ((n : Int) - (2 : Int)) + atR r ((n : Int) - (3 : Int)) + atR r ((n : Int) - (4 : Int)) = ringBef r n := by
  have e1 := at_back r h 1 (by decide) (by decide); have e2 := at_back r h 2 (by decide) (by decide); have e3 := at_back r h 3 (by decide) (by decide); have e4 := at_back r h 4 (by decide) (by decide)
  rw [show ((1 : Nat) : Int) = (1 : Int) from rfl] at e1
  rw [show ((2 : Nat) : Int) = (2 : Int) from rfl] at e2
  rw [show ((3 : Nat) : Int) = (3 : Int) from rfl] at e3
  rw [show ((4 : Nat) : Int) = (4 : Int) from rfl] at e4
  rw [e1, e2, e3, e4, ringBef, if_neg (by omega)]
  show _ = kp r.last (n - 1) 0 (r.cn 0) + kp r.last (n - 1) 1 (r.cn 1) + kp r.last (n - 1) 2 (r.cn 2) + kp r.last (n - 1) 3 (r.cn 3)
  have hm : n % 4 < 4 := Nat.mod_lt _ (by decide)
  generalize hq : n % 4 = q at hm
  match q, hm, hq with
  | 0, _, hq => rw [show (n + 4 - 1) % 4 = 3 by omega, show (n + 4 - 2) % 4 = 2 by omega, show (n + 4 - 3) % 4 = 1 by omega, show (n + 4 - 4) % 4 = 0 by omega]; omega
  | 1, _, hq => rw [show (n + 4 - 1) % 4 = 0 by omega, show (n + 4 - 2) % 4 = 3 by omega, show (n + 4 - 3) % 4 = 2 by omega, show (n + 4 - 4) % 4 = 1 by omega]; omega
  | 2, _, hq => rw [show (n + 4 - 1) % 4 = 1 by omega, show (n + 4 - 2) % 4 = 0 by omega, show (n + 4 - 3) % 4 = 3 by omega, show (n + 4 - 4) % 4 = 2 by omega]; omega
  | 3, _, hq => rw [show (n + 4 - 1) % 4 = 2 by omega, show (n + 4 - 2) % 4 = 1 by omega, show (n + 4 - 3) % 4 = 0 by omega, show (n + 4 - 4) % 4 = 3 by omega]; omega
theorem rput_eq {r : RRing} {n : Nat} (h : r.last ≤ n) : (⟨n, [atR r (ofZ n 0), atR r (ofZ n 1), atR r (ofZ n 2), atR r (ofZ n 3)].set (n % 4) ([atR r (ofZ n 0), atR r (ofZ n 1), atR r (ofZ n 2), atR r (ofZ n 3)].getD (n % 4) 0 + 1)⟩ : RRing) = ringAdd r n := by
  rw [set_inc rfl (Nat.mod_lt _ (by decide)), at_of r (by decide) h, at_of r (by decide) h, at_of r (by decide) h, at_of r (by decide) h]
  rfl
/-- What Go's remainder by four is told of. -/
def tm (x : Int) : Int := x.tmod 4
theorem tm_spec (x : Int) : (tm x - x) % 4 = 0 ∧ -4 < tm x ∧ tm x < 4 ∧ (0 ≤ x → 0 ≤ tm x) := by
  have h1 := Int.mul_tdiv_add_tmod x 4
  have h2 := Int.tmod_lt_of_pos x (b := 4) (by decide)
  have h3 : -4 < x.tmod 4 := by
    have := Int.lt_tmod_of_pos x (b := 4) (by decide)
    omega
  unfold tm
  exact ⟨by omega, h3, h2, fun h => Int.tmod_nonneg 4 h⟩
/-! ### what the code does, step by step -/
theorem n4_set {l : List Nat} (h : N4 l) (p v : Nat) (hv : v < 4294967296) : N4 (l.set p v) := ⟨by rw [List.length_set]; exact h.1, fun x hx => by
  rcases List.mem_or_eq_of_mem_set hx with hx | hx
  · exact h.2 x hx
  · omega⟩
def zp (r : RRing) (g k : Nat) : List Nat := if 4 ≤ g then [0, 0, 0, 0] else zap r.counts (r.last % 4) k
theorem zp_step (r : RRing) (g k : Nat) : (zp r g k).set ((r.last % 4 + 1 + k) % 4) 0 = zp r g (k + 1) := by
  unfold zp
  split
  · have : (r.last % 4 + 1 + k) % 4 < 4 := Nat.mod_lt _ (by decide)
    generalize (r.last % 4 + 1 + k) % 4 = p at this
    match p, this with
    | 0, _ => rfl
    | 1, _ => rfl
    | 2, _ => rfl
    | 3, _ => rfl
  · rfl
theorem zp_far (r : RRing) {g : Nat} (k : Nat) (h : 4 ≤ g) : zp r g k = [0, 0, 0, 0] := if_pos h
theorem zp_near (r : RRing) {g : Nat} (h : ¬ 4 ≤ g) : zp r g 0 = r.counts := if_neg h
theorem zp_n4 {r : RRing} (h : r.Ok) (g k : Nat) : N4 (zp r g k) := by
  unfold zp; split
  · exact n4_mk (by decide) (by decide) (by decide) (by decide)
  · exact zap_n4 h.counts _ k
theorem zp_end {r : RRing} (h : r.Ok) {n k : Nat} (hl : r.last < n) (hk : k = min (n - r.last - 1) 4) : (⟨r.last, zp r (n - r.last - 1) k⟩ : RRing) = ringTo r (n - 1) := by
  unfold zp
  split
  · exact to_far r (by omega)
  · rw [hk, Nat.min_eq_left (by omega)]; exact zap_to h hl (by omega)
theorem putP_6 {r : RRing} {n : Nat} (h : n < r.last) : ringPut r n = ring0 ∧ ringPE r n = 6 := by
  have e : ringPE r n = 6 := if_pos h
  exact ⟨by rw [ringPut, e]; rfl, e⟩
theorem putP_11 {r : RRing} {n : Nat} (h : n = r.last) (k : 3 ≤ r.cn (n % 4)) : ringPut r n = ring0 ∧ ringPE r n = 11 := by
  have e : ringPE r n = 11 := by rw [ringPE, if_neg (by omega), if_pos ⟨h, k⟩]
  exact ⟨by rw [ringPut, e]; rfl, e⟩
theorem putP_same {r : RRing} (hr : r.Ok) {n : Nat} (h : n = r.last) (k : ¬ 3 ≤ r.cn (n % 4)) : ringPut r n = (⟨r.last, r.counts.set (n % 4) (r.counts.getD (n % 4) 0 + 1)⟩ : RRing) ∧ ringPE r n = 0 := by
  subst h
  have e : ringPE r r.last = 0 := by rw [ringPE, if_neg (by omega), if_neg (fun q => k q.2)]
  exact ⟨by rw [ringPut, e, put_same hr]; rfl, e⟩
theorem putP_later {r : RRing} {n : Nat} (h : r.last < n) : ringPut r n = (⟨n, ((ringTo r (n - 1)).counts.set (n % 4) 0).set (n % 4) (((ringTo r (n - 1)).counts.set (n % 4) 0).getD (n % 4) 0 + 1)⟩ : RRing) ∧ ringPE r n = 0 := by
  have e : ringPE r n = 0 := by rw [ringPE, if_neg (by omega), if_neg (by omega)]
  exact ⟨by rw [ringPut, e, put_later h]; rfl, e⟩
theorem putP_ok {r : RRing} {n : Nat} (h : r.last ≤ n) (k : n = r.last → ¬ 3 ≤ r.cn (n % 4)) : ringPut r n = ringAdd r n ∧ ringPE r n = 0 := by
  have e : ringPE r n = 0 := by rw [ringPE, if_neg (by omega), if_neg (fun q => k q.1 q.2)]
  exact ⟨by rw [ringPut, e]; rfl, e⟩
theorem inc_zero {l : List Nat} (h : l.length = 4) {p : Nat} (hp : p < 4) : (l.set p 0).getD p 0 = 0 := by rw [getD_set0 _ _ _ (by omega), if_pos rfl]
theorem rel_min {x : RWin} {s : Nat} (h : s < 12 ∨ ¬ ringBE x.ring (s / 3) = 0) : winRel x s = x.min := by
  unfold winRel
  rw [if_pos]
  rcases h with h | h
  · exact .inl h
  · right
    unfold ringBE at h
    split at h
    · assumption
    · exact absurd rfl h
theorem rel_least {x : RWin} {s : Nat} (h : ¬ s < 12) (k : ringBE x.ring (s / 3) = 0) : winRel x s = min x.min (ringBef x.ring (s / 3)) := by
  unfold winRel
  rw [if_neg]
  rintro (q | q)
  · exact h q
  · unfold ringBE at k
    rw [if_pos q] at k
    exact absurd k (by decide)
theorem winPut_yes {x : RWin} {s : Nat} (h : ringPE x.ring (s / 3) = 0) : winPut x s = ⟨winRel x s, ringPut x.ring (s / 3)⟩ := by rw [winPut, if_pos h, ringPut, if_pos h]
theorem winPut_no {x : RWin} {s : Nat} (h : ¬ ringPE x.ring (s / 3) = 0) : winPut x s = win0 := if_neg h
theorem ringBE_no {r : RRing} {n : Nat} (h : r.last < n) : ringBE r n = 0 := if_neg (by omega)
theorem bef_few {r : RRing} (h : r.Right) : r.counts.getD 0 0 + r.counts.getD 1 0 + r.counts.getD 2 0 + r.counts.getD 3 0 < 4294967295 := h.few
theorem at_last {r : RRing} {n : Nat} (h : n = r.last) : atR r ((n : Nat) : Int) = r.cn (n % 4) := by
  have := at_of r (n := n) (j := n % 4) (Nat.mod_lt _ (by decide)) (by omega)
  rw [kp, if_pos (by omega)] at this
  rw [← this]
  congr 1
  unfold ofZ
  omega
theorem rrel_eq {x : RWin} {s : Nat} (h : ¬ s < 12) (k : ¬ s / 3 ≤ x.ring.last) (q : ringBef x.ring (s / 3) < x.min) : winRel x s = ringBef x.ring (s / 3) := by
  unfold winRel
  rw [if_neg (by omega)]; omega
theorem rrel_min {x : RWin} {s : Nat} (h : s < 12 ∨ s / 3 ≤ x.ring.last ∨ ¬ ringBef x.ring (s / 3) < x.min) : winRel x s = x.min := by
  unfold winRel
  split
  · rfl
  · omega
theorem getD4_le {a b c d m : Nat} (ha : a ≤ m) (hb : b ≤ m) (hc : c ≤ m) (hd : d ≤ m) (p : Nat) : [a, b, c, d].getD p 0 ≤ m := by
  match p with
  | 0 => exact ha
  | 1 => exact hb
  | 2 => exact hc
  | 3 => exact hd
  | n + 4 => exact Nat.zero_le _
end Go.Alm

/- Layers 10 and 11, plainly: children, chains, and lines. -/
namespace Go.Alm
open Go Go.RowKit
structure GBlk where
  slot : Nat
  led : List Nat
  draw : List Nat
instance : Inhabited GBlk := ⟨⟨0, Z32, Z32⟩⟩
structure GBlk.Ok (b : GBlk) : Prop where
  slot : b.slot < 4294967296
  led : H32 b.led
  draw : H32 b.draw
def GBlk.cells (b : GBlk) : Array Value := aj (aj #[.int .u32 (b.slot : Int)] (hv b.led)) (hv b.draw)
theorem GBlk.size (b : GBlk) : b.cells.size = 65 := by rw [GBlk.cells, aj_size, aj_size, hv_size, hv_size]; rfl
theorem GBlk.wf {b : GBlk} (h : b.Ok) : WfA b.cells := ((WfA.lit (l := [.int .u32 (b.slot : Int)]) ⟨wf_n32 h.slot, trivial⟩).app h.led.wf).app h.draw.wf
def AllB (l : List GBlk) : Prop := ∀ x ∈ l, x.Ok
theorem AllB.get {l : List GBlk} (h : AllB l) {i : Nat} (hi : i < l.length) : (l.getD i default).Ok := by
  rw [List.getD_eq_getElem?_getD, List.getElem?_eq_getElem hi, Option.getD_some]
  exact h _ (List.getElem_mem hi)
instance : Inhabited SState := ⟨state0⟩
def AllS (l : List SState) : Prop := ∀ x ∈ l, x.Ok
theorem AllS.get {l : List SState} (h : AllS l) {i : Nat} (hi : i < l.length) : (l.getD i default).Ok := by
  rw [List.getD_eq_getElem?_getD, List.getElem?_eq_getElem hi, Option.getD_some]
  exact h _ (List.getElem_mem hi)
/-! ### children -/
def firE (a b c d : Nat) : Nat := if a ≠ 0 then a else if b ≠ 0 then b else if c ≠ 0 then c else d
def morV (n k : Nat) : Nat := if n + k < 4294967296 then n + k else 0
def morE (n k : Nat) : Nat := if n + k < 4294967296 then 0 else 5
theorem morV_lt (n k : Nat) : morV n k < 4294967296 := by unfold morV; split <;> omega
theorem morE_lt (n k : Nat) : morE n k < 9223372036854775808 := by unfold morE; split <;> omega
theorem ringPE_lt (r : RRing) (n : Nat) : ringPE r n < 9223372036854775808 := by unfold ringPE; split; omega; split <;> omega
theorem folE_lt (p : EPair) (b : EBlk) : folE p b < 9223372036854775808 := by unfold folE; split; omega; split; omega; split <;> omega
def turnN (a b : Nat) : Nat := if a / 24 < b / 24 then 1 else 0
def gblkE (s : SState) (b : GBlk) : EBlk := ⟨s.slot, b.slot, stH s, s.led, b.draw⟩
def childE (s : SState) (b : GBlk) : Nat :=
  if b.slot ≤ s.slot then 6 else firE (morE s.len 1) (morE s.count (turnN s.slot b.slot)) (ringPE s.win.ring (b.slot / 3)) (folE s.eps (gblkE s b))
def childS (s : SState) (b : GBlk) : SState :=
  if childE s b = 0 then ⟨stH s, b.led, b.draw, b.slot, s.len + 1, s.count + turnN s.slot b.slot, winPut s.win b.slot, folP s.eps (gblkE s b)⟩ else state0
theorem gblkE_ok {s : SState} {b : GBlk} (hs : s.Ok) (hb : b.Ok) : (gblkE s b).Ok := ⟨hs.slot, hb.slot, stH_ok s, hs.led, hb.draw⟩
theorem firE_0 {a b c d : Nat} (h : firE a b c d = 0) : a = 0 ∧ b = 0 ∧ c = 0 ∧ d = 0 := by
  unfold firE at h
  split at h; omega
  split at h; omega
  split at h <;> omega
theorem childE_0 {s : SState} {b : GBlk} (h : childE s b = 0) : s.slot < b.slot ∧ s.len + 1 < 4294967296 ∧ s.count + turnN s.slot b.slot < 4294967296 ∧ ringPE s.win.ring (b.slot / 3) = 0 ∧ folE s.eps (gblkE s b) = 0 := by
  unfold childE at h
  split at h; omega
  obtain ⟨h1, h2, h3, h4⟩ := firE_0 h
  unfold morE at h1 h2
  refine ⟨by omega, ?_, ?_, h3, h4⟩
  · split at h1 <;> omega
  · split at h2 <;> omega
theorem child_slot {s : SState} {b : GBlk} (h : b.slot ≤ s.slot) : childS s b = state0 ∧ childE s b = 6 := by
  have e : childE s b = 6 := if_pos h
  exact ⟨if_neg (by rw [e]; decide), e⟩
theorem child_no {s : SState} {b : GBlk} {t : Nat} (h : ¬ b.slot ≤ s.slot) (ht : turnN s.slot b.slot = t) (k : ¬ firE (morE s.len 1) (morE s.count t) (ringPE s.win.ring (b.slot / 3)) (folE s.eps (gblkE s b)) = 0) :
    childS s b = state0 ∧ childE s b = firE (morE s.len 1) (morE s.count t) (ringPE s.win.ring (b.slot / 3)) (folE s.eps (gblkE s b)) := by
  subst ht
  have e : childE s b = _ := if_neg h
  exact ⟨if_neg (by rw [e]; exact k), e⟩
theorem child_yes {s : SState} {b : GBlk} {t : Nat} (h : ¬ b.slot ≤ s.slot) (ht : turnN s.slot b.slot = t) (k : firE (morE s.len 1) (morE s.count t) (ringPE s.win.ring (b.slot / 3)) (folE s.eps (gblkE s b)) = 0) :
    childS s b = ⟨stH s, b.led, b.draw, b.slot, morV s.len 1, morV s.count t, winPut s.win b.slot, folP s.eps (gblkE s b)⟩ ∧ childE s b = 0 := by
  subst ht
  have e : childE s b = 0 := by rw [childE, if_neg h]; exact k
  obtain ⟨_, h1, h2, _⟩ := childE_0 e
  refine ⟨?_, e⟩
  rw [childS, if_pos e, morV, if_pos h1, morV, if_pos h2]
theorem child_over {s : SState} {b : GBlk} (h : ¬ b.slot ≤ s.slot) (k : s.len = 4294967295 ∨ s.count + turnN s.slot b.slot = 4294967296) : childS s b = state0 ∧ childE s b = 5 := by
  have e : childE s b = 5 := by
    rw [childE, if_neg h]
    unfold firE
    by_cases h1 : s.len = 4294967295
    · have : morE s.len 1 = 5 := by rw [morE, if_neg (by omega)]
      rw [this]; rfl
    · have h2 : s.count + turnN s.slot b.slot = 4294967296 := k.resolve_left h1
      have h3 : morE s.count (turnN s.slot b.slot) = 5 := by rw [morE, if_neg (by omega)]
      rw [h3]
      by_cases h4 : morE s.len 1 ≠ 0
      · rw [if_pos h4]; unfold morE at h4 ⊢; split at h4
        · exact absurd rfl h4
        · rename_i h5; rw [if_neg h5]
      · rw [if_neg h4]; rfl
  exact ⟨if_neg (by rw [e]; decide), e⟩
theorem morE_fit {n k : Nat} (h : n + k < 4294967296) : morE n k = 0 := if_pos h
theorem child_full {s : SState} {b : GBlk} (h : ¬ b.slot ≤ s.slot) (k1 : s.len + 1 < 4294967296) (k2 : s.count + turnN s.slot b.slot < 4294967296) (k3 : ¬ ringPE s.win.ring (b.slot / 3) = 0) : childS s b = state0 ∧ childE s b = ringPE s.win.ring (b.slot / 3) := by
  have e : childE s b = ringPE s.win.ring (b.slot / 3) := by
    rw [childE, if_neg h, morE_fit k1, morE_fit k2, firE, if_neg (by decide), if_neg (by decide), if_pos k3]
  exact ⟨if_neg (by rw [e]; exact k3), e⟩
theorem child_fol {s : SState} {b : GBlk} (h : ¬ b.slot ≤ s.slot) (k1 : s.len + 1 < 4294967296) (k2 : s.count + turnN s.slot b.slot < 4294967296) (k3 : ringPE s.win.ring (b.slot / 3) = 0) (k4 : ¬ folE s.eps (gblkE s b) = 0) : childS s b = state0 ∧ childE s b = folE s.eps (gblkE s b) := by
  have e : childE s b = folE s.eps (gblkE s b) := by
    rw [childE, if_neg h, morE_fit k1, morE_fit k2, k3, firE, if_neg (by decide), if_neg (by decide), if_neg (by decide)]
  exact ⟨if_neg (by rw [e]; exact k4), e⟩
theorem child_good {s : SState} {b : GBlk} (h : ¬ b.slot ≤ s.slot) (k1 : s.len + 1 < 4294967296) (k2 : s.count + turnN s.slot b.slot < 4294967296) (k3 : ringPE s.win.ring (b.slot / 3) = 0) (k4 : folE s.eps (gblkE s b) = 0) :
    childS s b = ⟨stH s, b.led, b.draw, b.slot, s.len + 1, s.count + turnN s.slot b.slot, winPut s.win b.slot, folP s.eps (gblkE s b)⟩ ∧ childE s b = 0 := by
  have e : childE s b = 0 := by
    rw [childE, if_neg h, morE_fit k1, morE_fit k2, k3, k4]; rfl
  exact ⟨if_pos e, e⟩
theorem turn_1 {a b : Nat} (h : a / 24 < b / 24) : turnN a b = 1 := if_pos h
theorem turn_0 {a b : Nat} (h : ¬ a / 24 < b / 24) : turnN a b = 0 := if_neg h
theorem turnN_le (a b : Nat) : turnN a b ≤ 1 := by unfold turnN; split <;> omega
theorem childS_ok {s : SState} {b : GBlk} (hs : s.Ok) (hR : s.Right) (hb : b.Ok) : (childS s b).Ok := by
  unfold childS
  split
  · rename_i e
    obtain ⟨_, h1, h2, _⟩ := childE_0 e
    exact ⟨stH_ok s, hb.led, hb.draw, hb.slot, h1, h2, winPut_ok hs.win hR.1.2.few hb.slot, folP_ok hs.eps (gblkE_ok hs hb)⟩
  · exact state0_ok
theorem childE_lt (s : SState) (b : GBlk) : childE s b < 9223372036854775808 := by
  have h1 := morE_lt s.len 1; have h2 := morE_lt s.count (turnN s.slot b.slot); have h3 := ringPE_lt s.win.ring (b.slot / 3); have h4 := folE_lt s.eps (gblkE s b)
  unfold childE firE
  split; omega
  split; omega
  split; omega
  split <;> omega
theorem lockD_len (d : EData) (b : EBlk) : (lockD d b).len = d.len := by unfold lockD; split <;> rfl
theorem kq_le {r : RRing} {n : Nat} (h : r.Right) (e : ringPE r n = 0) (i : Nat) (hi : i < 4) : kq r n i ≤ 3 := by
  have hc := h.le i hi
  unfold ringPE at e
  split at e; omega
  split at e; omega
  rename_i h1 h2
  unfold kq kp
  by_cases hn : n % 4 = i
  · rw [if_pos hn]
    by_cases hq : n = r.last
    · have : ¬ 3 ≤ r.cn i := fun q => h2 ⟨hq, by rw [hn]; exact q⟩
      split <;> omega
    · rw [if_neg (by omega)]; omega
  · rw [if_neg hn]; split <;> omega
theorem ringAdd_right {r : RRing} {n : Nat} (h : r.Right) (e : ringPE r n = 0) : (ringAdd r n).Right := by
  refine ⟨kq_le h e 0 (by decide), kq_le h e 1 (by decide), kq_le h e 2 (by decide), kq_le h e 3 (by decide), ?_⟩
  have hp : ∀ i, n % 4 = i → 0 < kq r n i := fun i hi => by unfold kq; rw [if_pos hi]; omega
  show 0 < [kq r n 0, kq r n 1, kq r n 2, kq r n 3].getD (n % 4) 0
  have hm : n % 4 < 4 := Nat.mod_lt _ (by decide)
  generalize hq : n % 4 = q at hm
  match q, hm, hq with
  | 0, _, hq => exact hp 0 hq
  | 1, _, hq => exact hp 1 hq
  | 2, _, hq => exact hp 2 hq
  | 3, _, hq => exact hp 3 hq
theorem child_is {s : SState} {b : GBlk} (e : childE s b = 0) : childS s b = ⟨stH s, b.led, b.draw, b.slot, s.len + 1, s.count + turnN s.slot b.slot, winPut s.win b.slot, folP s.eps (gblkE s b)⟩ := if_pos e
theorem childS_right {s : SState} {b : GBlk} (hR : s.Right) (e : childE s b = 0) : (childS s b).Right := by
  obtain ⟨h0, h1, h2, h3, h4⟩ := childE_0 e
  obtain ⟨⟨a1, a2⟩, a3, a4, a5, a6, a7, a8, a9, a10⟩ := hR
  rw [child_is e]
  have hn : (folP s.eps (gblkE s b)).next.len = if s.slot / 24 < b.slot / 24 then 1 else s.eps.next.len + 1 := by
    unfold folP
    rw [if_pos h4]
    show (lockD _ _).len = _
    rw [lockD_len]
    unfold nextD gblkE
    split <;> rfl
  have hw : winPut s.win b.slot = ⟨winRel s.win b.slot, ringAdd s.win.ring (b.slot / 3)⟩ := if_pos h3
  have ht : turnN s.slot b.slot = if s.slot / 24 < b.slot / 24 then 1 else 0 := rfl
  refine ⟨?_, ?_, ?_, ?_, ?_, ?_, ?_, ?_, ?_⟩
  · rw [hw]; exact ⟨Nat.le_trans (winRel_le _ _) a1, ringAdd_right a2 h3⟩
  · rw [hw]; rfl
  · show 0 < s.len + 1; omega
  · show s.len + 1 ≤ b.slot + 1; omega
  · show s.count + turnN s.slot b.slot ≤ b.slot / 24; rw [ht]; split <;> omega
  · show s.count + turnN s.slot b.slot < s.len + 1; rw [ht]; split <;> omega
  · show 0 < (folP s.eps (gblkE s b)).next.len; rw [hn]; split <;> omega
  · show (folP s.eps (gblkE s b)).next.len ≤ s.len + 1; rw [hn]; split <;> omega
  · show (folP s.eps (gblkE s b)).next.len ≤ b.slot % 24 + 1; rw [hn]; split <;> omega
theorem childE_kind {s : SState} {b : GBlk} : childE s b = 0 ∨ childE s b = 5 ∨ childE s b = 6 ∨ childE s b = 11 := by
  have h1 : ∀ n k, morE n k = 0 ∨ morE n k = 5 := fun n k => by unfold morE; split <;> simp
  have h3 : ringPE s.win.ring (b.slot / 3) = 0 ∨ ringPE s.win.ring (b.slot / 3) = 6 ∨ ringPE s.win.ring (b.slot / 3) = 11 := by
    unfold ringPE; split; simp; split <;> simp
  have h4 : folE s.eps (gblkE s b) = 0 ∨ folE s.eps (gblkE s b) = 6 ∨ folE s.eps (gblkE s b) = 5 := by
    unfold folE; split; simp; split; simp; split <;> simp
  have h5 := h1 s.len 1; have h6 := h1 s.count (turnN s.slot b.slot)
  unfold childE firE
  split; omega
  split; omega
  split; omega
  split <;> omega
theorem childS_bad {s : SState} {b : GBlk} (h : ¬ childE s b = 0) : childS s b = state0 := if_neg h
/-! ### chains -/
/-- The state behind blocks; how many fit; why the next one doesn't. -/
def chainC (s : SState) : List GBlk → Nat → SState × Nat × Nat
  | [], i => (s, i, 0)
  | b :: l, i => if childE s b = 0 then chainC (childS s b) l (i + 1) else (s, i, childE s b)
theorem dropB {l : List GBlk} {i : Nat} (h : i < l.length) : l.drop i = l.getD i default :: l.drop (i + 1) := by
  rw [List.drop_eq_getElem_cons h, List.getD_eq_getElem?_getD, List.getElem?_eq_getElem h]; rfl
theorem chainC_end {s : SState} {l : List GBlk} {i : Nat} (h : l.length ≤ i) : chainC s (l.drop i) i = (s, i, 0) := by rw [List.drop_eq_nil_of_le h]; rfl
theorem chainC_bad {s : SState} {l : List GBlk} {i : Nat} (h : i < l.length) (e : ¬ childE s (l.getD i default) = 0) : chainC s (l.drop i) i = (s, i, childE s (l.getD i default)) := by rw [dropB h, chainC, if_neg e]
theorem chainC_ok {s : SState} {l : List GBlk} {i : Nat} (h : i < l.length) (e : childE s (l.getD i default) = 0) : chainC s (l.drop i) i = chainC (childS s (l.getD i default)) (l.drop (i + 1)) (i + 1) := by rw [dropB h, chainC, if_pos e]
theorem chainC_spec : ∀ (l : List GBlk) (s : SState) (i : Nat), s.Ok → s.Right → AllB l → (chainC s l i).1.Ok ∧ (chainC s l i).1.Right ∧ (chainC s l i).2.1 ≤ i + l.length ∧ (chainC s l i).2.2 < 9223372036854775808
  | [], s, i, h1, h2, _ => ⟨h1, h2, Nat.le_refl _, by show 0 < 9223372036854775808; decide⟩
  | b :: l, s, i, h1, h2, h3 => by
    have hb := h3 b (.head _)
    unfold chainC
    split
    · rename_i e
      have := chainC_spec l (childS s b) (i + 1) (childS_ok h1 h2 hb) (childS_right h2 e) (fun x hx => h3 x (.tail _ hx))
      exact ⟨this.1, this.2.1, by have := this.2.2.1; rw [List.length_cons]; omega, this.2.2.2⟩
    · exact ⟨h1, h2, by show i ≤ _; omega, childE_lt s b⟩
theorem stateF_right (led : List Nat) : (stateF led).Right :=
  ⟨⟨(show 12 ≤ 12 by decide), (show 1 ≤ 3 by decide), (show 3 ≤ 3 by decide), (show 3 ≤ 3 by decide), (show 3 ≤ 3 by decide), (show 0 < 1 by decide)⟩, (show 0 = 0 / 3 by decide), (show 0 < 1 by decide), (show 1 ≤ 0 + 1 by decide), (show 0 ≤ 0 / 24 by decide), (show 0 < 1 by decide), (show 0 < 1 by decide), (show 1 ≤ 1 by decide), (show 1 ≤ 0 % 24 + 1 by decide)⟩
theorem childS_facts {s : SState} {b : GBlk} (e : childE s b = 0) : (childS s b).len = s.len + 1 ∧ (childS s b).slot = b.slot ∧ (childS s b).prev = stH s ∧ (childS s b).led = b.led ∧ (childS s b).draw = b.draw ∧ (childS s b).win.min ≤ s.win.min ∧ (childS s b).count = s.count + turnN s.slot b.slot ∧
    s.slot < b.slot ∧ s.len + 1 < 4294967296 ∧ s.count + turnN s.slot b.slot < 4294967296 ∧ turnN s.slot b.slot ≤ 1 ∧ (childS s b).win = winPut s.win b.slot ∧ (childS s b).eps = folP s.eps (gblkE s b) := by
  obtain ⟨h0, h1, h2, h3, h4⟩ := childE_0 e
  rw [child_is e]
  refine ⟨rfl, rfl, rfl, rfl, rfl, ?_, rfl, h0, h1, h2, turnN_le _ _, rfl, rfl⟩
  show (winPut s.win b.slot).min ≤ s.win.min
  rw [winPut, if_pos h3]
  exact winRel_le _ _
theorem GBlk.one (x : GBlk) : ∀ u ∈ x.cells.toList, u.oneCell' = true := by
  have h : x.cells.toList.all (·.oneCell') = true := by kernel_rfl
  exact fun u hu => List.all_eq_true.1 h u hu
/-! ### what is asked first -/
def awkL : List GBlk := [(⟨3, Z32, Z32⟩ : GBlk), (⟨30, Z32, Z32⟩ : GBlk), (⟨50, Z32, hlit 7⟩ : GBlk)]
def awkS : SState := (chainC (stateF (hlit 1)) awkL 0).1
theorem awk_all : AllB awkL := by
  intro x hx
  simp only [awkL, List.mem_cons, List.not_mem_nil, or_false] at hx
  rcases hx with rfl | rfl | rfl
  · exact ⟨by decide, H32.zero, H32.zero⟩
  · exact ⟨by decide, H32.zero, H32.zero⟩
  · exact ⟨by decide, H32.zero, hlit_ok (by decide)⟩
theorem awkF_ok : (stateF (hlit 1)).Ok := stateF_ok (hlit_ok (n := 1) (by decide))
theorem awkS_ok : awkS.Ok := (chainC_spec awkL _ 0 awkF_ok (stateF_right _) awk_all).1
theorem awkS_right : awkS.Right := (chainC_spec awkL _ 0 awkF_ok (stateF_right _) awk_all).2.1
theorem awk2 : (chainC (stateF (hlit 1)) awkL 0).2 = (3, 0) := by kernel_rfl
theorem awk10 : (.tuple #[.agg (chainC (stateF (hlit 1)) awkL 0).1.cells, .int .i64 (((chainC (stateF (hlit 1)) awkL 0).2.1 : Nat) : Int), .int .i64 (((chainC (stateF (hlit 1)) awkL 0).2.2 : Nat) : Int)] : Value) = .tuple #[.agg awkS.cells, .int .i64 3, .int .i64 0] := by
  rw [awk2]
  generalize hq : chainC (stateF (hlit 1)) awkL 0 = q
  rw [show awkS = q.1 from by rw [← hq]; rfl]
  rfl
theorem awkG : childE (stateF (hlit 1)) (⟨3, Z32, Z32⟩ : GBlk) = 0 := by kernel_rfl
theorem awkB : childE awkS (⟨50, Z32, Z32⟩ : GBlk) = 6 := by kernel_rfl
theorem mor_fit {n k : Nat} (h : morE n k = 0) : morV n k = n + k ∧ n + k < 4294967296 := by
  unfold morE at h
  split at h
  · rename_i h1; exact ⟨if_pos h1, h1⟩
  · cases h
end Go.Alm

/- Blocks, numbers, accounts as a row hands them. -/
namespace Go.Alm
open Go Go.RowKit
section
variable {H : Type} {enc : TypeId × Value → H} {P : Program} {w : World} {base : Nat} {sp : Nat → Bool} {held : Bool} {fuel t e : Nat} {cs : List Value} {x : DataW H × List MemPlace}
theorem gblk_of {th tn : Nat} (k : IsKey P t th e tn) (ht : DataW.trod enc P w base sp held fuel t cs = some x) : ∃ y : GBlk, y.Ok ∧ cs = y.cells.toList := by
  obtain ⟨_, _, _, _, h1, r1, rfl⟩ := (parts_of k.s ht).inv
  obtain ⟨_, _, _, _, h2, r2, rfl⟩ := r1.inv
  obtain ⟨_, _, _, _, h3, r3, rfl⟩ := r2.inv
  obtain rfl := r3.end
  obtain ⟨a, ha, rfl⟩ := u32_of k.n h1
  obtain ⟨b, hb, rfl⟩ := hash_of k.h h2
  obtain ⟨c, hc, rfl⟩ := hash_of k.h h3
  exact ⟨⟨a, b, c⟩, ⟨ha, hb, hc⟩, by unfold GBlk.cells; simp only [aj_toList, List.append_assoc, List.append_nil]⟩
/-- A number of 32 bits as a cell. -/
def nC (n : Nat) : Array Value := #[.int .u32 (n : Int)]
theorem nC_size (n : Nat) : (nC n).size = 1 := rfl
theorem num_of (k : IsI P .u32 t) (ht : DataW.trod enc P w base sp held fuel t cs = some x) : ∃ n : Nat, n < 4294967296 ∧ cs = (nC n).toList := u32_of k ht
theorem hash_of' (k : IsH P t e) (ht : DataW.trod enc P w base sp held fuel t cs = some x) : ∃ l, H32 l ∧ cs = (hv l).toList := hash_of k ht
end
end Go.Alm

/- Acts on a tree out of a row's reading. -/
namespace Go.Alm
open Go Go.RowKit Go.ChangeShapes Go.WideShapes Go.ChangeAt
section
variable {H : Type} {enc : TypeId × Value → H} {P : Program} {w : World} {base : Nat} {sp : Nat → Bool} {held : Bool} {fuel t e : Nat} {cs : List Value} {x : DataW H × List MemPlace}
structure IsAcct (P : Program) (t ts tu tn : Nat) : Prop where
  s : IsS P t [(ts, 0), (tu, 1), (tn, 2)]
  st : P.underlying ts = some .string
  u : IsI P .u64 tu
  n : IsI P .u32 tn
theorem acct_of {ts tu tn : Nat} (k : IsAcct P t ts tu tn) (ht : DataW.trod enc P w base sp held fuel t cs = some x) : ∃ y : Acct, y.Ok ∧ cs = y.cells.toList := by
  obtain ⟨_, _, _, _, h1, r1, rfl⟩ := (parts_of k.s ht).inv
  obtain ⟨_, _, _, _, h2, r2, rfl⟩ := r1.inv
  obtain ⟨_, _, _, _, h3, r3, rfl⟩ := r2.inv
  obtain rfl := r3.end
  obtain ⟨s, rfl, _, hsl⟩ := DataW.trod_string k.st h1
  obtain ⟨m, hm, rfl⟩ := u64_of k.u h2
  obtain ⟨n, hn, rfl⟩ := u32_of k.n h3
  exact ⟨⟨s, m, n⟩, ⟨hsl, hm, hn⟩, rfl⟩
structure IsAct (P : Program) (t ti ta ts tu tn : Nat) : Prop where
  s : IsS P t [(ti, 0), (ti, 1), (ta, 2)]
  i : IsI P .i64 ti
  a : IsAcct P ta ts tu tn
theorem act_of {ti ta ts tu tn : Nat} (k : IsAct P t ti ta ts tu tn) (ht : DataW.trod enc P w base sp held fuel t cs = some x) : ∃ y : AAct, y.Ok ∧ cs = y.cells.toList := by
  obtain ⟨_, _, _, _, h1, r1, rfl⟩ := (parts_of k.s ht).inv
  obtain ⟨_, _, _, _, h2, r2, rfl⟩ := r1.inv
  obtain ⟨_, _, _, _, h3, r3, rfl⟩ := r2.inv
  obtain rfl := r3.end
  obtain ⟨a, ha, rfl⟩ := i64_of k.i h1
  obtain ⟨b, hb, rfl⟩ := i64_of k.i h2
  obtain ⟨y, hy, rfl⟩ := acct_of k.a h3
  exact ⟨⟨a, b, y⟩, ⟨ha, hb, hy⟩, by simp [AAct.cells, aj_toList]⟩
end
end Go.Alm

/- What a memo is asked of, as it stands in memory; a map of those that were. -/
namespace Go.Alm
open Go Go.RowKit Go.ChangeShapes Go.WideShapes Go.ChangeAt
def cellsK (qs : List TKey) : List Value := qs.flatMap fun x => x.cells.toList
theorem size_tkey (x : TKey) : x.cells.size = 33 := by simp [TKey.cells, hv]
theorem cellsK_cons (x : TKey) (qs : List TKey) : cellsK (x :: qs) = x.cells.toList ++ cellsK qs := rfl
theorem cellsK_length : ∀ qs : List TKey, (cellsK qs).length = qs.length * 33
  | [] => rfl
  | x :: qs => by rw [cellsK_cons, List.length_append, cellsK_length qs, Array.length_toList, size_tkey, List.length_cons]; omega
theorem cellsK_get : ∀ (qs : List TKey) (k : Nat) (x : TKey), qs[k]? = some x → ((cellsK qs).drop (k * 33)).take 33 = x.cells.toList
  | [], k, x, h => by simp at h
  | y :: qs, 0, x, h => by
    simp only [List.getElem?_cons_zero, Option.some.injEq] at h
    subst h
    rw [Nat.zero_mul, List.drop_zero, cellsK_cons]
    exact List.take_left' (by rw [Array.length_toList, size_tkey])
  | y :: qs, k + 1, x, h => by
    rw [List.getElem?_cons_succ] at h
    have e : (k + 1) * 33 = y.cells.toList.length + k * 33 := by rw [Array.length_toList, size_tkey]; omega
    rw [cellsK_cons, e, ← List.drop_drop, List.drop_left, cellsK_get qs k x h]
def kvI (ks : List TKey) : List (Value × Value) := ks.map fun x => (.agg x.cells, .int .i64 1)
theorem kvI_in {ks : List TKey} {x : TKey} (h : x ∈ ks) : (∀ v', (Value.agg x.cells, v') ∈ kvI ks → v' = .int .i64 1) ∧ ∃ v', (Value.agg x.cells, v') ∈ kvI ks := by
  constructor
  · intro v' hv'
    obtain ⟨y, _, he⟩ := List.mem_map.1 hv'
    simp only [Prod.mk.injEq] at he
    exact he.2.symm
  · exact ⟨_, List.mem_map.2 ⟨x, h, rfl⟩⟩
theorem kvI_no {ks : List TKey} {x : TKey} (h : x ∉ ks) : ∀ p ∈ kvI ks, p.1 ≠ .agg x.cells := fun p hp he => by
  obtain ⟨y, hy, rfl⟩ := List.mem_map.1 hp
  simp only [Value.agg.injEq] at he
  have := TKey.inj he
  subst this
  exact h hy
theorem kvI_length (ks : List TKey) : (kvI ks).length = ks.length := by simp [kvI]
theorem kvI_snoc (ks : List TKey) (x : TKey) : kvI ks ++ [(.agg x.cells, .int .i64 1)] = kvI (ks ++ [x]) := by simp [kvI]
theorem addK_length (ks : List TKey) (x : TKey) (room : Nat) : (addK ks x room).length ≤ ks.length + 1 := by unfold addK; split <;> simp
section
variable {H : Type} {enc : TypeId × Value → H} {P : Program} {w : World} {base : Nat} {sp : Nat → Bool} {held : Bool} {fuel t e : Nat} {cs : List Value} {x : DataW H × List MemPlace}
theorem i64_of_trod {v : Int} {d : DataW H} {p : List MemPlace} (ht : P.underlying t = some (.int .i64)) (h : DataW.Trod enc P w base sp held t (.int .i64 v) d p) : -9223372036854775808 ≤ v ∧ v ≤ 9223372036854775807 := by
  obtain ⟨fu, hf⟩ := h
  obtain ⟨m, e1, _, hwf⟩ := DataW.trod_int ht hf
  have : v = m := by simpa [Value.cells] using e1
  subst this
  simp only [Lit.wf, Bool.and_eq_true, decide_eq_true_eq] at hwf
  have c1 : IntKind.i64.min = -9223372036854775808 := by decide
  have c2 : IntKind.i64.max = 9223372036854775807 := by decide
  omega
theorem ask_of_trod {fs : Array Field} {ts th e8 : Nat} (he : P.underlying e = some (.struct fs)) (hfs : fs.toList.map (fun f => (f.type, f.offset)) = [(ts, 0), (th, 1)])
    (hs : P.underlying ts = some .string) (hh : P.underlying th = some (.array 32 e8)) (h8 : P.underlying e8 = some (.int .u8)) (zs : P.cellsOf ts = 1) (zh : P.cellsOf th = 32) (z8 : P.cellsOf e8 = 1) (ze : P.cellsOf e = 33)
    (h : DataW.trod enc P w base sp held fuel e cs = some x) : ∃ y : TKey, cs = y.cells.toList := by
  obtain ⟨xs, n, _, _, hlen, hxl, hget⟩ := DataW.trod_struct he h
  rw [ze] at hlen
  have hsz : fs.size = 2 := by have := congrArg List.length hfs; simpa using this
  have get : ∀ (i a b : Nat), i < 2 → ([(ts, 0), (th, 1)] : List (TypeId × Nat))[i]? = some (a, b) → ∃ z, DataW.trod enc P w base sp held n a ((cs.drop b).take (P.cellsOf a)) = some z := fun i a b hi5 hL => by
    obtain ⟨f, hf, rfl, rfl⟩ := field_of hfs i hL
    have h1 := hget i f hf
    have hs : i < xs.length := by omega
    exact ⟨xs[i], by rw [h1]; simp [hs]⟩
  obtain ⟨z0, g0⟩ := get 0 ts 0 (by decide) rfl
  obtain ⟨z1, g1⟩ := get 1 th 1 (by decide) rfl
  obtain ⟨s, e0, _, hsl⟩ := DataW.trod_string hs g0
  obtain ⟨l, hl, e1, Bl⟩ := ints_of_trod hh h8 z8 zh g1
  rw [zs] at e0; rw [zh] at e1
  refine ⟨⟨s, l, hl, Bl, hsl⟩, ?_⟩
  have es : cs = (cs.drop 0).take 1 ++ (cs.drop 1).take 32 := by
    have : (cs.drop 1).take 32 = cs.drop 1 := List.take_of_length_le (by rw [List.length_drop]; omega)
    rw [this, List.drop_zero, List.take_append_drop]
  rw [es, e0, e1]
  unfold TKey.cells
  rw [Array.toList_append, hv_B hl]
theorem asks_of_trod {fs : Array Field} {ts th e8 : Nat} (ht : P.underlying t = some (.slice e)) (he : P.underlying e = some (.struct fs)) (hfs : fs.toList.map (fun f => (f.type, f.offset)) = [(ts, 0), (th, 1)])
    (hs : P.underlying ts = some .string) (hh : P.underlying th = some (.array 32 e8)) (h8 : P.underlying e8 = some (.int .u8)) (zs : P.cellsOf ts = 1) (zh : P.cellsOf th = 32) (z8 : P.cellsOf e8 = 1) (ze : P.cellsOf e = 33)
    (h : DataW.trod enc P w base sp held fuel t cs = some x) : ∃ ao qs cap, cs = [.slice ao (qs : List TKey).length cap] ∧ Rd w ao (cellsK qs) ∧ qs.length ≤ cap ∧ cap ≤ maxLen := by
  rcases DataW.trod_slice ht h with ⟨rfl, _⟩ | ⟨a, len, cap, elems, rest, n, _, rfl, _, _, hlc, hcm, hel, hget, _⟩
  · exact ⟨none, [], 0, rfl, Rd.nil _ _, Nat.le_refl _, Nat.zero_le _⟩
  · have key : ∀ i, i < len → ∃ y : TKey, ∀ j, j < 33 → w.cell? ((a.add (i * 33)).add j) = y.cells.toList[j]? := fun i hi' => by
      have h1 := hget i hi'
      have hs' : (elems[i]?).isSome = true := by simp [hel, hi']
      obtain ⟨c, hc, hy⟩ := some_of_bind h1 hs'
      obtain ⟨y, hy'⟩ := Option.isSome_iff_exists.1 hs'
      rw [hy'] at hy
      obtain ⟨z, ez⟩ := ask_of_trod he hfs hs hh h8 zs zh z8 ze hy
      rw [ze] at hc
      have hcc := (World.cells?_some hc).2.2
      rw [ez] at hcc
      exact ⟨z, hcc⟩
    let f : Nat → TKey := fun i => if h : i < len then Classical.choose (key i h) else K0
    have hf : ∀ i, i < len → ∀ j, j < 33 → w.cell? ((a.add (i * 33)).add j) = (f i).cells.toList[j]? := fun i hi' => by
      have : f i = Classical.choose (key i hi') := by simp only [f, dif_pos hi']
      rw [this]; exact Classical.choose_spec (key i hi')
    refine ⟨some a, (List.range len).map f, cap, by simp, fun j u hj => ?_, by simpa using hlc, hcm⟩
    have hjl := (List.getElem?_eq_some_iff.1 hj).1
    rw [cellsK_length, List.length_map, List.length_range] at hjl
    have hdiv : j / 33 < len := by omega
    have hg := cellsK_get ((List.range len).map f) (j / 33) (f (j / 33)) (by simp [hdiv])
    have hm : j % 33 < 33 := Nat.mod_lt _ (by decide)
    have hu : (f (j / 33)).cells.toList[j % 33]? = some u := by
      rw [← hg, List.getElem?_take, if_pos hm, List.getElem?_drop, show j / 33 * 33 + j % 33 = j by omega]
      exact hj
    refine ⟨a, rfl, ?_⟩
    have hc := hf _ hdiv _ hm
    have e : (a.add (j / 33 * 33)).add (j % 33) = a.add j := by rw [add_add, show j / 33 * 33 + j % 33 = j by omega]
    rw [e] at hc
    rw [hc, hu]
end
end Go.Alm

/- What the listed variables hold, as an array that is read. -/
namespace Go.Alm
open Go Go.RowKit Go.ChangeShapes Go.WideShapes Go.ChangeAt
section
variable {H : Type} {enc : TypeId × Value → H} {P : Program} {w : World}
theorem words_of_trod {base : Nat} {sp : Nat → Bool} {held : Bool} {fuel t e : Nat} {cs : List Value} {K : List Int} {p : List MemPlace} (ht : P.underlying t = some (.array 64 e)) (he : P.underlying e = some (.int .u32)) (hz : P.cellsOf e = 1) (_ : K.length = 64)
    (h : DataW.trod enc P w base sp held fuel t cs = some (.agg (K.map fun k => .lit (.int .u32 k)), p)) : ∀ i, i < 64 → cs[i]? = (K[i]?).map (.int .u32 ·) := by
  intro i hi
  obtain ⟨xs, m, _, hx, hlen, hxl, hget⟩ := DataW.trod_array ht h
  simp only [Prod.mk.injEq, DataW.agg.injEq] at hx
  have h1 := hget i hi
  have hs : i < xs.length := by omega
  obtain ⟨y, hy⟩ : ∃ y, xs[i]? = some y := ⟨xs[i], by simp [hs]⟩
  rw [hy] at h1
  obtain ⟨k, e1, e2, _⟩ := DataW.trod_int he h1
  rw [hz, Nat.mul_one] at e1
  have hy2 : y.1 = .lit (.int .u32 k) := by rw [e2]
  have hm : (K.map fun k => (DataW.lit (Lit.int IntKind.u32 k) : DataW H))[i]? = some (.lit (.int .u32 k)) := by
    rw [hx.1, List.getElem?_map, hy, Option.map_some, hy2]
  rw [List.getElem?_map] at hm
  obtain ⟨k', hk', hkk⟩ := Option.map_eq_some_iff.1 hm
  simp only [DataW.lit.injEq, Lit.int.injEq, true_and] at hkk
  subst hkk
  rw [hk', Option.map_some]
  have : (List.take 1 (List.drop i cs))[0]? = some (Value.int .u32 k') := by rw [e1]; rfl
  simpa using this
theorem keys_of_laid {n : String} {g t e f : Nat} {cs : Array Value} {p : List MemPlace} {D : DataW H} {base : Nat} {sp : Nat → Bool} {held : Bool} (hg : P.globalNamed n = some g) (hv : w.var? P n = some cs) (ht : P.underlying t = some (.array 64 e)) (he : P.underlying e = some (.int .u32)) (hz : P.cellsOf e = 1)
    (hd : DataW.trod enc P w base sp held f t cs.toList = some (D, p)) (hD : D = .agg ((KL.map fun k => (k.toNat : Int)).map fun k => .lit (.int .u32 k))) : Rd w (some ⟨g, 0, none⟩) (hw KL).toList := by
  subst hD
  have h := words_of_trod ht he hz (by rfl) hd
  intro i u hi
  have h64 : i < 64 := by
    have := (List.getElem?_eq_some_iff.1 hi).1
    simpa [hw] using this
  refine ⟨_, rfl, ?_⟩
  have hadd : (⟨g, 0, none⟩ : Addr).add i = ⟨g, i, none⟩ := by unfold Addr.add; split <;> simp_all
  rw [hadd, Go.World.var?_cell hg hv i, ← Array.getElem?_toList, h i h64]
  rw [KL_get i h64] at hi
  rw [← hi]
  have hl : KL.length = 64 := rfl
  simp [show i < KL.length by omega]
end
end Go.Alm
