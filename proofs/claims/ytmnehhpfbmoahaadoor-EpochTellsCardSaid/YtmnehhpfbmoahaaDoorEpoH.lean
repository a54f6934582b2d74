/- Layer 8's histories, plainly. -/
import Derived.Test.YtmnehhpfbmoahaaDoorEpo
namespace Go.Alm
open Go Go.RowKit
structure EStep where
  by_ : Nat
  prev : List Nat
  led : List Nat
  draw : List Nat
structure EStep.Ok (x : EStep) : Prop where
  by_ : x.by_ < 4294967296
  prev : H32 x.prev
  led : H32 x.led
  draw : H32 x.draw
def EStep.cells (x : EStep) : Array Value := aj (aj (aj #[.int .u32 (x.by_ : Int)] (hv x.prev)) (hv x.led)) (hv x.draw)
structure SBlk where
  slot : Nat
  st : EStep
def SBlk.cells (b : SBlk) : Array Value := aj #[.int .u32 (b.slot : Int)] b.st.cells
/-- What one block of a history adds to what is told of the epoch E. -/
def addE (E : Nat) (d : EData) (pe : Option Nat) (b : SBlk) : EData :=
  let d1 : EData := if b.slot % 24 < 16 then ⟨d.led, seedL d.seed b.st.draw, d.start, d.lock, d.len⟩ else d
  if b.slot / 24 = E then
    let d2 : EData := if (match pe with | none => 0 | some e => e) < b.slot / 24 then ⟨b.st.led, d1.seed, b.st.prev, Z32, 0⟩ else d1
    if b.slot % 24 < 16 then ⟨d2.led, d2.seed, d2.start, b.st.prev, d2.len + 1⟩ else ⟨d2.led, d2.seed, d2.start, d2.lock, d2.len + 1⟩
  else d1
def stepN (E : Nat) (a : EData × Option Nat) (b : SBlk) : EData × Option Nat := (addE E a.1 a.2 b, some (b.slot / 24))
def lastE (l : List SBlk) : Option Nat := (l.map (·.slot / 24)).getLast?
def lastS (l : List SBlk) : Nat := match l.getLast? with | some b => b.slot | none => 0
def foldN (E : Nat) (led : List Nat) (l : List SBlk) : EData × Option Nat := l.foldl (stepN E) (dataF led, none)
def nextH (led : List Nat) (l : List SBlk) : EData := (foldN (lastS l / 24) led l).1
theorem foldN_snoc (E : Nat) (led : List Nat) (l : List SBlk) (b : SBlk) : foldN E led (l ++ [b]) = stepN E (foldN E led l) b := by simp [foldN]
theorem list_snoc {α : Type} {P : List α → Prop} (h0 : P []) (h1 : ∀ l b, P l → P (l ++ [b])) : ∀ l, P l := fun l => by
  have : ∀ r : List α, P r.reverse := fun r => by
    induction r with
    | nil => exact h0
    | cons x r ih => rw [List.reverse_cons]; exact h1 _ _ ih
  have := this l.reverse
  rwa [List.reverse_reverse] at this
theorem lastS_snoc (l : List SBlk) (b : SBlk) : lastS (l ++ [b]) = b.slot := by simp [lastS]
theorem foldN_2 (E : Nat) (led : List Nat) : ∀ l : List SBlk, (foldN E led l).2 = if l = [] then none else some (lastS l / 24) :=
  list_snoc (by rfl) fun l b _ => by rw [foldN_snoc, if_neg (by simp), lastS_snoc]; rfl
theorem addE_skip {E : Nat} {d : EData} {pe : Option Nat} {b : SBlk} (h : b.slot / 24 ≠ E) : addE E d pe b = if b.slot % 24 < 16 then ⟨d.led, seedL d.seed b.st.draw, d.start, d.lock, d.len⟩ else d := by
  unfold addE
  simp only [if_neg h]
theorem addE_seed (E : Nat) (d : EData) (pe : Option Nat) (b : SBlk) : (addE E d pe b).seed = if b.slot % 24 < 16 then seedL d.seed b.st.draw else d.seed := by
  unfold addE
  by_cases h1 : b.slot % 24 < 16 <;> by_cases h2 : b.slot / 24 = E <;> simp only [h1, h2, if_true, if_false] <;> (try split) <;> (try split) <;> rfl
theorem fold_seed (E F : Nat) (led : List Nat) : ∀ l : List SBlk, (foldN E led l).1.seed = (foldN F led l).1.seed :=
  list_snoc rfl fun l b ih => by rw [foldN_snoc, foldN_snoc]; unfold stepN; simp only [addE_seed, ih]
theorem fold_skip {E : Nat} (led : List Nat) : ∀ l : List SBlk, (∀ x ∈ l, x.slot / 24 ≠ E) → (foldN E led l).1 = ⟨led, (foldN E led l).1.seed, Z32, Z32, 1⟩ :=
  list_snoc (fun _ => rfl) fun l b ih h => by
    have h1 := ih (fun x hx => h x (by simp [hx]))
    rw [foldN_snoc]
    unfold stepN
    rw [addE_skip (h b (by simp)), h1]
    split <;> rfl
theorem nextH_snoc {led : List Nat} {l : List SBlk} {b : SBlk} (hm : ∀ x ∈ l, x.slot / 24 ≤ lastS l / 24) (h : lastS l ≤ b.slot) :
    nextH led (l ++ [b]) = lockD (if lastS l / 24 < b.slot / 24 then ⟨b.st.led, (nextH led l).seed, b.st.prev, Z32, 1⟩ else ⟨(nextH led l).led, (nextH led l).seed, (nextH led l).start, (nextH led l).lock, (nextH led l).len + 1⟩) ⟨lastS l, b.slot, b.st.prev, b.st.led, b.st.draw⟩ := by
  have hle : lastS l / 24 ≤ b.slot / 24 := Nat.div_le_div_right h
  unfold nextH
  rw [lastS_snoc, foldN_snoc]
  have hpe : (match (foldN (b.slot / 24) led l).2 with | none => 0 | some e => e) = lastS l / 24 := by
    rw [foldN_2]
    by_cases hl : l = []
    · subst hl; rfl
    · rw [if_neg hl]
  by_cases ht : lastS l / 24 < b.slot / 24
  · have hs := fold_skip (E := b.slot / 24) led l (fun x hx => by have := hm x hx; omega)
    have hse := fold_seed (lastS l / 24) (b.slot / 24) led l
    rw [if_pos ht, hse]
    unfold stepN addE lockD
    simp only [hpe, if_pos ht, if_true]
    by_cases h1 : b.slot % 24 < 16
    · simp only [if_pos h1]
    · simp only [if_neg h1]
  · have he : b.slot / 24 = lastS l / 24 := by omega
    rw [if_neg ht, ← he]
    unfold stepN addE lockD
    simp only [hpe, if_neg ht, if_true]
    by_cases h1 : b.slot % 24 < 16
    · simp only [if_pos h1]
    · simp only [if_neg h1]
theorem addE_len (E : Nat) (d : EData) (pe : Option Nat) (b : SBlk) : (addE E d pe b).len ≤ d.len + 1 := by
  unfold addE
  by_cases h1 : b.slot % 24 < 16 <;> by_cases h2 : b.slot / 24 = E <;> simp only [h1, h2, if_true, if_false] <;> (try split) <;> (try split) <;> (try simp only) <;> omega
theorem fold_len (E : Nat) (led : List Nat) : ∀ l : List SBlk, (foldN E led l).1.len ≤ l.length + 1 :=
  list_snoc (Nat.le_refl _) fun l b ih => by
    rw [foldN_snoc, List.length_append]
    have := addE_len E (foldN E led l).1 (foldN E led l).2 b
    show (addE _ _ _ _).len ≤ _
    simp only [List.length_cons, List.length_nil]
    omega
theorem nextH_len (led : List Nat) (l : List SBlk) : (nextH led l).len ≤ l.length + 1 := fold_len _ _ _
end Go.Alm
