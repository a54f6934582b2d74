/- Rows of rows of bytes that are made of more than one; digests of a name and some parts. -/
import Derived.Test.YtmnehhpfbmoahaaDoorTagL
namespace Go.Alm
open Go Go.RowKit
def AllR (w : World) (S : Nat → Prop) : List BSl → Prop
  | [] => True
  | x :: ls => (Rd w x.ao (B x.b) ∧ Sub (Ar x.ao (B x.b)) S ∧ x.Ok) ∧ AllR w S ls
theorem AllR.mem {w : World} {S : Nat → Prop} : ∀ {ls : List BSl}, AllR w S ls → ∀ x ∈ ls, Rd w x.ao (B x.b) ∧ Sub (Ar x.ao (B x.b)) S ∧ x.Ok
  | [], _, _, h => by cases h
  | y :: ls, ha, x, h => by
    rcases List.mem_cons.1 h with rfl | h
    · exact ha.1
    · exact AllR.mem ha.2 x h
theorem RowsAt.many {w : World} {b t : Nat} {c : Array Value} {fz : Nat × Nat} {ls : List BSl} {S : Nat → Prop} (hb : w.heap[b]? = some (.cells c t fz)) (hc : c.toList = cellsR ls) (ha : AllR w S ls) (hi : In w S) : RowsAt (Or2 (One b) S) w (some ⟨b, 0, Option.none⟩) ls := by
  refine ⟨?_, fun x hx => (ha.mem x hx).1, ?_, fun x hx k hk => .inr ((ha.mem x hx).2.1 k hk), fun x hx => (ha.mem x hx).2.2, ?_⟩
  · rw [← hc]
    exact Rd.of_blkN hb 0
  · rintro k ⟨_, ad, h, rfl⟩
    cases h
    exact .inl rfl
  · intro k hk
    rcases hk with hk | hk
    · rw [hk]; exact lt_of_get hb
    · exact hi k hk
theorem In.or2 {w : World} {S T : Nat → Prop} (h1 : In w S) (h2 : In w T) : In w (Or2 S T) := fun k hk => hk.elim (h1 k) (h2 k)
def tag2 (nm a b : List Nat) : List Nat := tagL nm [⟨none, 0, a⟩, ⟨none, 0, b⟩]
theorem tag2_eq (nm a b : List Nat) (ao bo : Option Addr) (c d : Nat) : tagL nm [⟨ao, c, a⟩, ⟨bo, d, b⟩] = tag2 nm a b := rfl
def tag3 (nm a b c : List Nat) : List Nat := tagL nm [⟨none, 0, a⟩, ⟨none, 0, b⟩, ⟨none, 0, c⟩]
theorem tag3_eq (nm a b c : List Nat) (ao bo co : Option Addr) (m n k : Nat) : tagL nm [⟨ao, m, a⟩, ⟨bo, n, b⟩, ⟨co, k, c⟩] = tag3 nm a b c := rfl
theorem tag2_length (nm a b : List Nat) : (tag2 nm a b).length = 32 := tagL_length _ _
theorem tag2_byt (nm a b : List Nat) : Byt (tag2 nm a b) := tagL_byt _ _
theorem tag3_length (nm a b c : List Nat) : (tag3 nm a b c).length = 32 := tagL_length _ _
theorem tag3_byt (nm a b c : List Nat) : Byt (tag3 nm a b c) := tagL_byt _ _
/-- A digest. -/
structure H32 (l : List Nat) : Prop where
  len : l.length = 32
  byt : Byt l
theorem H32.zero : H32 (List.replicate 32 0) := ⟨rfl, fun x hx => by have := List.eq_of_mem_replicate hx; omega⟩
theorem H32.tag (nm : List Nat) (ls : List BSl) : H32 (tagL nm ls) := ⟨tagL_length _ _, tagL_byt _ _⟩
theorem H32.wf {l : List Nat} (h : H32 l) : WfA (hv l) := WfA.hv h.len h.byt
end Go.Alm
