/- Layer 4's things, as they stand in memory; what is written and read of them. -/
import Derived.Test.YtmnehhpfbmoahaaDoorEqs
namespace Go.Alm
open Go Go.RowKit

structure Thing where
  kind : Int
  n : Nat
  h : List Nat
  ao : Option Addr
  cap : Nat
  b : List Nat
  most : Int
def Thing.cells (x : Thing) : Array Value := #[.int .i64 x.kind, .int .u64 (x.n : Int)] ++ hv x.h ++ #[.slice x.ao x.b.length x.cap, .int .i64 x.most]
structure Thing.Ok (x : Thing) : Prop where
  n : x.n < 18446744073709551616
  h : x.h.length = 32
  hb : Byt x.h
  b : Byt x.b
  cap : x.b.length ≤ x.cap
  len : x.cap ≤ maxLen
  most : x.most ≤ 9223372036854775807
def cellsT (ts : List Thing) : List Value := ts.flatMap fun x => x.cells.toList
structure ThingsAt (N : Nat) (w : World) (ao : Option Addr) (ts : List Thing) : Prop where
  rd : Rd w ao (cellsT ts)
  rdb : ∀ x ∈ ts, Rd w x.ao (B x.b)
  in1 : Sub (Ar ao (cellsT ts)) (Old N)
  in2 : ∀ x ∈ ts, Sub (Ar x.ao (B x.b)) (Old N)
  ok : ∀ x ∈ ts, x.Ok
  size : N ≤ w.heap.size
theorem ThingsAt.keep {N : Nat} {w w' : World} {ao : Option Addr} {ts : List Thing} {S : Nat → Prop} (h : ThingsAt N w ao ts) (F : Fr w w' S) (d : Dis (Old N) S) : ThingsAt N w' ao ts :=
  ⟨h.rd.keep' F (h.in1.dis d), fun x hx => (h.rdb x hx).keep' F ((h.in2 x hx).dis d), h.in1, h.in2, h.ok, Nat.le_trans h.size F.size⟩
theorem ThingsAt.in {N : Nat} {w : World} {ao : Option Addr} {ts : List Thing} (h : ThingsAt N w ao ts) : In w (Old N) := In.old h.size

theorem size_cells (x : Thing) : x.cells.size = 36 := by simp [Thing.cells, hv]
theorem cellsT_cons (x : Thing) (ts : List Thing) : cellsT (x :: ts) = x.cells.toList ++ cellsT ts := rfl
theorem cellsT_length : ∀ ts : List Thing, (cellsT ts).length = ts.length * 36
  | [] => rfl
  | x :: ts => by rw [cellsT_cons, List.length_append, cellsT_length ts, Array.length_toList, size_cells, List.length_cons]; omega
theorem cellsT_get : ∀ (ts : List Thing) (k : Nat) (x : Thing), ts[k]? = some x → ((cellsT ts).drop (k * 36)).take 36 = x.cells.toList
  | [], k, x, h => by simp at h
  | y :: ts, 0, x, h => by
    simp only [List.getElem?_cons_zero, Option.some.injEq] at h
    subst h
    rw [Nat.zero_mul, List.drop_zero, cellsT_cons]
    exact List.take_left' (by rw [Array.length_toList, size_cells])
  | y :: ts, k + 1, x, h => by
    rw [List.getElem?_cons_succ] at h
    have e : (k + 1) * 36 = y.cells.toList.length + k * 36 := by rw [Array.length_toList, size_cells]; omega
    rw [cellsT_cons, e, ← List.drop_drop, List.drop_left, cellsT_get ts k x h]

/-- Is there more than is looked at? -/
def largeT (ts : List Thing) : Bool := decide (100 < ts.length) || ts.any fun x => decide (300 < x.b.length)
theorem largeT_many {ts : List Thing} (h : 100 < ts.length) : largeT ts = true := by simp [largeT, h]
theorem largeT_long {ts : List Thing} {k : Nat} {x : Thing} (hx : ts[k]? = some x) (h : 300 < x.b.length) : largeT ts = true := by
  have : ∃ x ∈ ts, 300 < x.b.length := ⟨x, List.mem_of_getElem? hx, h⟩
  simp only [largeT, Bool.or_eq_true, List.any_eq_true, decide_eq_true_eq]
  exact .inr this
theorem largeT_not {ts : List Thing} (h : ¬ 100 < ts.length) (h2 : ∀ x ∈ ts, x.b.length ≤ 300) : largeT ts = false := by
  simp only [largeT, Bool.or_eq_false_iff, decide_eq_false_iff_not, List.any_eq_false, decide_eq_true_eq]
  exact ⟨h, fun x hx => by have := h2 x hx; omega⟩
theorem largeT_spec {ts : List Thing} (h : largeT ts = false) : ts.length ≤ 100 ∧ ∀ x ∈ ts, x.b.length ≤ 300 := by
  simp only [largeT, Bool.or_eq_false_iff, decide_eq_false_iff_not, List.any_eq_false, decide_eq_true_eq] at h
  exact ⟨by omega, fun x hx => by have := h.2 x hx; omega⟩
theorem upto_step {p : Thing → Prop} {ts : List Thing} {k : Nat} {x : Thing} (h : ∀ y ∈ ts.take k, p y) (hx : ts[k]? = some x) (hp : p x) : ∀ y ∈ ts.take (k + 1), p y := by
  intro y hy
  rw [List.take_add_one, hx] at hy
  rcases List.mem_append.1 hy with h1 | h1
  · exact h y h1
  · simp at h1; subst h1; exact hp

/-- What is written of a thing; may it be? -/
def Thing.w (x : Thing) : List Nat := if x.kind = 0 then putB (x.n % 256) 1 1 else if x.kind = 1 then putB (x.n % 4294967296) 4 4 else if x.kind = 2 then putB x.n 8 8 else if x.kind = 3 then x.h else if x.kind = 4 then textW x.b else []
def Thing.okW (x : Thing) : Bool := if x.kind = 4 then decide (x.b.length ≤ 255) else true
def writeT (ts : List Thing) : List Nat := ts.flatMap Thing.w
theorem textW_len (b : List Nat) : (textW b).length ≤ 256 := by
  unfold textW; split
  · rw [List.length_append, putB_length]; omega
  · simp
theorem Thing.w_len {x : Thing} (h : x.Ok) : x.w.length ≤ 256 := by
  unfold Thing.w
  split
  · rw [putB_length]; omega
  · split
    · rw [putB_length]; omega
    · split
      · rw [putB_length]; omega
      · split
        · rw [h.h]; omega
        · split
          · exact textW_len _
          · simp
theorem writeT_snoc {ts : List Thing} {k : Nat} {x : Thing} (hx : ts[k]? = some x) : writeT (ts.take (k + 1)) = writeT (ts.take k) ++ x.w := by
  unfold writeT
  rw [List.take_add_one, hx]
  simp
theorem writeT_len : ∀ {ts : List Thing}, (∀ x ∈ ts, x.Ok) → (writeT ts).length ≤ ts.length * 256
  | [], _ => by simp [writeT]
  | x :: ts, h => by
    have h1 := writeT_len (ts := ts) (fun y hy => h y (by simp [hy]))
    have h2 := Thing.w_len (h x (by simp))
    have e : writeT (x :: ts) = x.w ++ writeT ts := rfl
    rw [e, List.length_append, List.length_cons]
    omega
/-- What is read of a thing. -/
def Thing.r (x : Thing) (r : Rs) : Rs := if x.kind = 0 then r.take 1 else if x.kind = 1 then r.take 4 else if x.kind = 2 then r.take 8 else if x.kind = 3 then r.take 32 else if x.kind = 4 then r.textR 255 else r
def Thing.okR (x : Thing) (r : Rs) : Bool := if x.kind = 0 then decide (r.num 1 = x.n % 256) else if x.kind = 1 then decide (r.num 4 = x.n % 4294967296) else if x.kind = 2 then decide (r.num 8 = x.n) else if x.kind = 3 then decide (r.hash = x.h) else if x.kind = 4 then decide (r.text 255 = x.b) else true
end Go.Alm

namespace Go.Alm
open Go Go.RowKit
/-- What is read of a thing, as far as its own bound goes. -/
def Thing.rm (r : Rs) (x : Thing) : Rs := if x.kind = 0 then r.take 1 else if x.kind = 1 then r.take 4 else if x.kind = 2 then r.take 8 else if x.kind = 3 then r.take 32 else if x.kind = 4 then (if 0 ≤ x.most then r.textR x.most.toNat else r) else r
def readM (r : Rs) (ts : List Thing) : Rs := ts.foldl Thing.rm r
theorem readM_snoc {r : Rs} {ts : List Thing} {k : Nat} {x : Thing} (hx : ts[k]? = some x) : readM r (ts.take (k + 1)) = Thing.rm (readM r (ts.take k)) x := by
  unfold readM
  rw [List.take_add_one, hx]
  simp
end Go.Alm

namespace Go.Alm
open Go Go.RowKit
theorem Byt.textR {r : Rs} (h : Byt r.l) (m : Nat) : Byt (r.textR m).l := by
  have h1 : Byt (r.text1 m).l := by
    unfold Rs.text1; split
    · exact (h.rtake 1).wrong 4
    · exact h.rtake 1
  unfold Rs.textR; split
  · exact h1.rtake _
  · exact h1
theorem rm_byt {r : Rs} (h : Byt r.l) (x : Thing) : Byt (Thing.rm r x).l := by
  unfold Thing.rm
  split
  · exact h.rtake 1
  · split
    · exact h.rtake 4
    · split
      · exact h.rtake 8
      · split
        · exact h.rtake 32
        · split
          · split
            · exact h.textR _
            · exact h
          · exact h
theorem rm_len (r : Rs) (x : Thing) : (Thing.rm r x).l.length ≤ r.l.length := by
  unfold Thing.rm
  split
  · exact take_len r 1
  · split
    · exact take_len r 4
    · split
      · exact take_len r 8
      · split
        · exact take_len r 32
        · split
          · split
            · exact textR_len r _
            · exact Nat.le_refl _
          · exact Nat.le_refl _
theorem readM_byt : ∀ (ts : List Thing) {r : Rs}, Byt r.l → Byt (readM r ts).l
  | [], _, h => h
  | x :: ts, _, h => readM_byt ts (rm_byt h x)
theorem readM_len : ∀ (ts : List Thing) (r : Rs), (readM r ts).l.length ≤ r.l.length
  | [], _ => Nat.le_refl _
  | x :: ts, r => Nat.le_trans (readM_len ts (Thing.rm r x)) (rm_len r x)
end Go.Alm
