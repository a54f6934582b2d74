/- Plain lemmas and laws of the machine that the walks use; without conditions of their own. -/
import Derived.Test.YtinmmamnldephaaDoorLib5
import Derived.Test.YtinmmamnldephaaDoorLib2
import Derived.Test.YtinmmamnldephaaDoorLib4
/- Layers 6, 7 and 9, plainly: rings, windows, states; a state's bytes. -/
namespace Go.Alm
open Go Go.RowKit
def N4 (l : List Nat) : Prop := l.length = 4 ∧ ∀ x ∈ l, x < 4294967296
instance (l : List Nat) : Decidable (N4 l) := inferInstanceAs (Decidable (_ ∧ _))
def c4 (l : List Nat) : Array Value := #[.int .u32 ((l.getD 0 0 : Nat) : Int), .int .u32 ((l.getD 1 0 : Nat) : Int), .int .u32 ((l.getD 2 0 : Nat) : Int), .int .u32 ((l.getD 3 0 : Nat) : Int)]
theorem N4.lt {l : List Nat} (h : N4 l) (i : Nat) : l.getD i 0 < 4294967296 := by
  rw [List.getD_eq_getElem?_getD]
  cases hi : l[i]? with
  | none => decide
  | some x => exact h.2 x (List.mem_of_getElem? hi)
theorem N4.wf {l : List Nat} (h : N4 l) : WfA (c4 l) := WfA.lit (l := [_, _, _, _]) ⟨wf_n32 (h.lt 0), wf_n32 (h.lt 1), wf_n32 (h.lt 2), wf_n32 (h.lt 3), trivial⟩
theorem getD4 {l m : List Nat} (h : l.length = 4) (k : m.length = 4) (e0 : l.getD 0 0 = m.getD 0 0) (e1 : l.getD 1 0 = m.getD 1 0) (e2 : l.getD 2 0 = m.getD 2 0) (e3 : l.getD 3 0 = m.getD 3 0) : l = m := by
  match l, m, h, k with
  | [_, _, _, _], [_, _, _, _], _, _ =>
    simp only [List.getD_cons_zero, List.getD_cons_succ] at e0 e1 e2 e3
    rw [e0, e1, e2, e3]
theorem c4_inj {l m : List Nat} (h : N4 l) (k : N4 m) (e : c4 l = c4 m) : l = m := by
  unfold c4 at e
  simp only [Array.mk.injEq, List.cons.injEq, Value.int.injEq, true_and, and_true, Int.ofNat_inj] at e
  exact getD4 h.1 k.1 (by omega) (by omega) (by omega) (by omega)
theorem c4_size (l : List Nat) : (c4 l).size = 4 := rfl

structure RRing where
  last : Nat
  counts : List Nat
structure RRing.Ok (r : RRing) : Prop where
  last : r.last < 4294967296
  counts : N4 r.counts
def RRing.cells (r : RRing) : Array Value := aj #[.int .u32 (r.last : Int)] (c4 r.counts)
structure RWin where
  min : Nat
  ring : RRing
structure RWin.Ok (x : RWin) : Prop where
  min : x.min < 4294967296
  ring : x.ring.Ok
def RWin.cells (x : RWin) : Array Value := aj #[.int .u32 (x.min : Int)] x.ring.cells
structure SState where
  prev : List Nat
  led : List Nat
  draw : List Nat
  slot : Nat
  len : Nat
  count : Nat
  win : RWin
  eps : EPair
structure SState.Ok (s : SState) : Prop where
  prev : H32 s.prev
  led : H32 s.led
  draw : H32 s.draw
  slot : s.slot < 4294967296
  len : s.len < 4294967296
  count : s.count < 4294967296
  win : s.win.Ok
  eps : s.eps.Ok
def SState.cells (s : SState) : Array Value := aj (aj (aj (aj (aj (hv s.prev) (hv s.led)) (hv s.draw)) #[.int .u32 (s.slot : Int), .int .u32 (s.len : Int), .int .u32 (s.count : Int)]) s.win.cells) s.eps.cells
theorem RRing.size (r : RRing) : r.cells.size = 5 := rfl
theorem RWin.size (r : RWin) : r.cells.size = 6 := rfl
theorem EPair.size (x : EPair) : x.cells.size = 258 := by rw [EPair.cells, aj_size, EData.size, EData.size]
theorem SState.size (s : SState) : s.cells.size = 363 := by rw [SState.cells, aj_size, aj_size, aj_size, aj_size, aj_size, hv_size, hv_size, hv_size, RWin.size, EPair.size]; rfl
theorem RRing.wf {r : RRing} (h : r.Ok) : WfA r.cells := (WfA.lit (l := [.int .u32 (r.last : Int)]) ⟨wf_n32 h.last, trivial⟩).app h.counts.wf
theorem RWin.wf {x : RWin} (h : x.Ok) : WfA x.cells := (WfA.lit (l := [.int .u32 (x.min : Int)]) ⟨wf_n32 h.min, trivial⟩).app (RRing.wf h.ring)
theorem SState.wf {s : SState} (h : s.Ok) : WfA s.cells :=
  (((((h.prev.wf.app h.led.wf).app h.draw.wf).app (WfA.lit (l := [.int .u32 (s.slot : Int), .int .u32 (s.len : Int), .int .u32 (s.count : Int)]) ⟨wf_n32 h.slot, wf_n32 h.len, wf_n32 h.count, trivial⟩)).app (RWin.wf h.win)).app (EPair.wf h.eps))
theorem RRing.inj {x y : RRing} (h : x.Ok) (k : y.Ok) : x.cells = y.cells ↔ x = y := ⟨fun e => by
  unfold RRing.cells at e
  obtain ⟨e1, e2⟩ := aj_inj (by simp) e
  have e1 := lit1_inj e1
  have e2 := c4_inj h.counts k.counts e2
  cases x; cases y
  simp_all, fun e => by rw [e]⟩
theorem RWin.inj {x y : RWin} (h : x.Ok) (k : y.Ok) : x.cells = y.cells ↔ x = y := ⟨fun e => by
  unfold RWin.cells at e
  obtain ⟨e1, e2⟩ := aj_inj (by simp) e
  have e1 := lit1_inj e1
  have e2 := (RRing.inj h.ring k.ring).1 e2
  cases x; cases y
  simp_all, fun e => by rw [e]⟩
theorem lit3_inj {k : IntKind} {a b c x y z : Nat} (e : #[Value.int k (a : Int), .int k (b : Int), .int k (c : Int)] = #[Value.int k (x : Int), .int k (y : Int), .int k (z : Int)]) : a = x ∧ b = y ∧ c = z := by
  simp only [Array.mk.injEq, List.cons.injEq, Value.int.injEq, true_and, and_true, Int.ofNat_inj] at e
  exact e
theorem SState.inj {x y : SState} (h : x.Ok) (k : y.Ok) : x.cells = y.cells ↔ x = y := ⟨fun e => by
  unfold SState.cells at e
  obtain ⟨e, e6⟩ := aj_inj (by simp only [aj_size, hv_size, RWin.size]; rfl) e
  obtain ⟨e, e5⟩ := aj_inj (by simp only [aj_size, hv_size]; rfl) e
  obtain ⟨e, e4⟩ := aj_inj (by simp only [aj_size, hv_size]) e
  obtain ⟨e, e3⟩ := aj_inj (by simp only [aj_size, hv_size]) e
  obtain ⟨e1, e2⟩ := aj_inj (by simp only [hv_size]) e
  have e1 := (hv_iff h.prev.len k.prev.len).1 e1
  have e2 := (hv_iff h.led.len k.led.len).1 e2
  have e3 := (hv_iff h.draw.len k.draw.len).1 e3
  obtain ⟨e41, e42, e43⟩ := lit3_inj e4
  have e5 := (RWin.inj h.win k.win).1 e5
  have e6 := (EPair.inj h.eps k.eps).1 e6
  cases x; cases y
  simp_all, fun e => by rw [e]⟩

/-! ### right ones -/
def RRing.Right (r : RRing) : Prop := r.counts.getD 0 0 ≤ 3 ∧ r.counts.getD 1 0 ≤ 3 ∧ r.counts.getD 2 0 ≤ 3 ∧ r.counts.getD 3 0 ≤ 3 ∧ 0 < r.counts.getD (r.last % 4) 0
instance (r : RRing) : Decidable r.Right := inferInstanceAs (Decidable (_ ∧ _))
def RWin.Right (x : RWin) : Prop := x.min ≤ 12 ∧ x.ring.Right
instance (r : RWin) : Decidable r.Right := inferInstanceAs (Decidable (_ ∧ _))
def SState.Right (s : SState) : Prop := s.win.Right ∧ s.win.ring.last = s.slot / 3 ∧ 0 < s.len ∧ s.len ≤ s.slot + 1 ∧ s.count ≤ s.slot / 24 ∧ s.count < s.len ∧ 0 < s.eps.next.len ∧ s.eps.next.len ≤ s.len ∧ s.eps.next.len ≤ s.slot % 24 + 1
instance (r : SState) : Decidable r.Right := inferInstanceAs (Decidable (_ ∧ _))
def ring1 : RRing := ⟨0, [1, 3, 3, 3]⟩
def win1 : RWin := ⟨12, ring1⟩
def stateF (led : List Nat) : SState := ⟨Z32, led, Z32, 0, 1, 0, win1, pairF led⟩
def state0 : SState := ⟨Z32, Z32, Z32, 0, 0, 0, ⟨0, ⟨0, [0, 0, 0, 0]⟩⟩, pair0⟩
theorem ring1_ok : ring1.Ok := ⟨by decide, by decide⟩
theorem win1_ok : win1.Ok := ⟨by decide, ring1_ok⟩
theorem stateF_ok {led : List Nat} (h : H32 led) : (stateF led).Ok := ⟨H32.zero, h, H32.zero, by show 0 < 4294967296; decide, by show 1 < 4294967296; decide, by show 0 < 4294967296; decide, win1_ok, pairF_ok h⟩
theorem state0_ok : state0.Ok := ⟨H32.zero, H32.zero, H32.zero, by decide, by decide, by decide, ⟨by decide, ⟨by decide, by decide⟩⟩, pair0_ok⟩

/-! ### bytes -/
/-- A state's parts: digests, or numbers. -/
inductive SPart where
  | h (l : List Nat)
  | n (n : Nat)
def SPart.b : SPart → List Nat
  | .h l => l
  | .n k => putB k 4 4
def SState.part (s : SState) : Nat → SPart
  | 0 => .h s.prev | 1 => .h s.led | 2 => .h s.draw | 3 => .n s.slot | 4 => .n s.len | 5 => .n s.count | 6 => .n s.win.min | 7 => .n s.win.ring.last
  | 8 => .n (s.win.ring.counts.getD 0 0) | 9 => .n (s.win.ring.counts.getD 1 0) | 10 => .n (s.win.ring.counts.getD 2 0) | 11 => .n (s.win.ring.counts.getD 3 0)
  | 12 => .h s.eps.now.led | 13 => .h s.eps.now.seed | 14 => .h s.eps.now.start | 15 => .h s.eps.now.lock | 16 => .n s.eps.now.len
  | 17 => .h s.eps.next.led | 18 => .h s.eps.next.seed | 19 => .h s.eps.next.start | 20 => .h s.eps.next.lock | _ => .n s.eps.next.len
def SState.pre (s : SState) : Nat → List Nat
  | 0 => []
  | i + 1 => s.pre i ++ (s.part i).b
def SState.bytes (s : SState) : List Nat := s.pre 22
/-- Where a part's pointer stands: digests and numbers. -/
def ptsOff : Nat → Nat
  | 0 => 0 | 1 => 32 | 2 => 64 | 3 => 96 | 4 => 97 | 5 => 98 | 6 => 99 | 7 => 100 | 8 => 101 | 9 => 102 | 10 => 103 | 11 => 104
  | 12 => 105 | 13 => 137 | 14 => 169 | 15 => 201 | 16 => 233 | 17 => 234 | 18 => 266 | 19 => 298 | 20 => 330 | _ => 362
def ptsH : Nat → Bool
  | 0 => true | 1 => true | 2 => true | 12 => true | 13 => true | 14 => true | 15 => true | 17 => true | 18 => true | 19 => true | 20 => true | _ => false
def ptsV (b i : Nat) : Array Value := match ptsH i with
  | true => #[.pointer (some ⟨b, ptsOff i, none⟩), .pointer none]
  | false => #[.pointer none, .pointer (some ⟨b, ptsOff i, none⟩)]
theorem part_len {s : SState} (h : s.Ok) : ∀ i, (s.part i).b.length ≤ 32 := by
  intro i
  unfold SState.part
  split <;> simp [SPart.b, putB_length, h.prev.len, h.led.len, h.draw.len, h.eps.now.led.len, h.eps.now.seed.len, h.eps.now.start.len, h.eps.now.lock.len, h.eps.next.led.len, h.eps.next.seed.len, h.eps.next.start.len, h.eps.next.lock.len]
theorem pre_len {s : SState} (h : s.Ok) : ∀ i, (s.pre i).length ≤ 32 * i
  | 0 => Nat.le_refl _
  | i + 1 => by
    have := pre_len h i
    have := part_len h i
    simp only [SState.pre, List.length_append]
    omega
theorem putB_byt' (n k j : Nat) : Byt (putB n k j) := fun x hx => by
  unfold putB at hx
  obtain ⟨i, _, rfl⟩ := List.mem_map.1 hx
  exact Nat.mod_lt _ (by decide)
theorem part_byt {s : SState} (h : s.Ok) : ∀ i, Byt (s.part i).b := by
  intro i
  unfold SState.part
  split <;> first | exact putB_byt' _ _ _ | exact h.prev.byt | exact h.led.byt | exact h.draw.byt | exact h.eps.now.led.byt | exact h.eps.now.seed.byt | exact h.eps.now.start.byt | exact h.eps.now.lock.byt | exact h.eps.next.led.byt | exact h.eps.next.seed.byt | exact h.eps.next.start.byt | exact h.eps.next.lock.byt
theorem pre_byt {s : SState} (h : s.Ok) : ∀ i, Byt (s.pre i)
  | 0 => fun _ hx => by cases hx
  | i + 1 => fun x hx => by
    rcases List.mem_append.1 hx with hx | hx
    · exact pre_byt h i x hx
    · exact part_byt h i x hx
theorem bytes_byt {s : SState} (h : s.Ok) : Byt s.bytes := pre_byt h 22
theorem bytes_le {s : SState} (h : s.Ok) : s.bytes.length ≤ 704 := pre_len h 22
def dataB (d : EData) : List Nat := (((d.led ++ d.seed) ++ d.start) ++ d.lock) ++ putB d.len 4 4
theorem st_bytes (s : SState) : s.bytes = (s.pre 12 ++ dataB s.eps.now) ++ dataB s.eps.next := by
  simp only [SState.bytes, SState.pre, SState.part, SPart.b, dataB, List.append_assoc]
theorem dataB_len {d : EData} (h : d.Ok) : (dataB d).length = 132 := by
  simp only [dataB, List.length_append, h.led.len, h.seed.len, h.start.len, h.lock.len, putB_length]
def stateS : ByteArray := ⟨#[115, 116, 97, 116, 101]⟩
def stH (s : SState) : List Nat := tagL (sB stateS) [⟨none, 0, s.bytes⟩]
theorem stH_ok (s : SState) : H32 (stH s) := ⟨tagL_length _ _, tagL_byt _ _⟩
theorem RRing.not0 {r : RRing} (h : r = ⟨r.last, [0, 0, 0, 0]⟩) : ¬ r.Right := fun k => by
  have := k.2.2.2.2
  rw [h] at this
  have h4 : r.last % 4 < 4 := Nat.mod_lt _ (by decide)
  generalize r.last % 4 = j at *
  match j, h4 with
  | 0, _ => simp at this
  | 1, _ => simp at this
  | 2, _ => simp at this
  | 3, _ => simp at this
end Go.Alm

/- Layer 9, plainly: the state that bytes are read as. -/
namespace Go.Alm
open Go Go.RowKit
def psz (i : Nat) : Nat := match ptsH i with
  | true => 32
  | false => 4
def rsAt (l : List Nat) : Nat → Rs
  | 0 => ⟨0, l⟩
  | i + 1 => (rsAt l i).take (psz i)
def SState.setP (s : SState) (i : Nat) (h : List Nat) (n : Nat) : SState := match i with
  | 0 => ⟨h, s.led, s.draw, s.slot, s.len, s.count, s.win, s.eps⟩
  | 1 => ⟨s.prev, h, s.draw, s.slot, s.len, s.count, s.win, s.eps⟩
  | 2 => ⟨s.prev, s.led, h, s.slot, s.len, s.count, s.win, s.eps⟩
  | 3 => ⟨s.prev, s.led, s.draw, n, s.len, s.count, s.win, s.eps⟩
  | 4 => ⟨s.prev, s.led, s.draw, s.slot, n, s.count, s.win, s.eps⟩
  | 5 => ⟨s.prev, s.led, s.draw, s.slot, s.len, n, s.win, s.eps⟩
  | 6 => ⟨s.prev, s.led, s.draw, s.slot, s.len, s.count, ⟨n, s.win.ring⟩, s.eps⟩
  | 7 => ⟨s.prev, s.led, s.draw, s.slot, s.len, s.count, ⟨s.win.min, ⟨n, s.win.ring.counts⟩⟩, s.eps⟩
  | 8 => ⟨s.prev, s.led, s.draw, s.slot, s.len, s.count, ⟨s.win.min, ⟨s.win.ring.last, s.win.ring.counts.set 0 n⟩⟩, s.eps⟩
  | 9 => ⟨s.prev, s.led, s.draw, s.slot, s.len, s.count, ⟨s.win.min, ⟨s.win.ring.last, s.win.ring.counts.set 1 n⟩⟩, s.eps⟩
  | 10 => ⟨s.prev, s.led, s.draw, s.slot, s.len, s.count, ⟨s.win.min, ⟨s.win.ring.last, s.win.ring.counts.set 2 n⟩⟩, s.eps⟩
  | 11 => ⟨s.prev, s.led, s.draw, s.slot, s.len, s.count, ⟨s.win.min, ⟨s.win.ring.last, s.win.ring.counts.set 3 n⟩⟩, s.eps⟩
  | 12 => ⟨s.prev, s.led, s.draw, s.slot, s.len, s.count, s.win, ⟨⟨h, s.eps.now.seed, s.eps.now.start, s.eps.now.lock, s.eps.now.len⟩, s.eps.next⟩⟩
  | 13 => ⟨s.prev, s.led, s.draw, s.slot, s.len, s.count, s.win, ⟨⟨s.eps.now.led, h, s.eps.now.start, s.eps.now.lock, s.eps.now.len⟩, s.eps.next⟩⟩
  | 14 => ⟨s.prev, s.led, s.draw, s.slot, s.len, s.count, s.win, ⟨⟨s.eps.now.led, s.eps.now.seed, h, s.eps.now.lock, s.eps.now.len⟩, s.eps.next⟩⟩
  | 15 => ⟨s.prev, s.led, s.draw, s.slot, s.len, s.count, s.win, ⟨⟨s.eps.now.led, s.eps.now.seed, s.eps.now.start, h, s.eps.now.len⟩, s.eps.next⟩⟩
  | 16 => ⟨s.prev, s.led, s.draw, s.slot, s.len, s.count, s.win, ⟨⟨s.eps.now.led, s.eps.now.seed, s.eps.now.start, s.eps.now.lock, n⟩, s.eps.next⟩⟩
  | 17 => ⟨s.prev, s.led, s.draw, s.slot, s.len, s.count, s.win, ⟨s.eps.now, ⟨h, s.eps.next.seed, s.eps.next.start, s.eps.next.lock, s.eps.next.len⟩⟩⟩
  | 18 => ⟨s.prev, s.led, s.draw, s.slot, s.len, s.count, s.win, ⟨s.eps.now, ⟨s.eps.next.led, h, s.eps.next.start, s.eps.next.lock, s.eps.next.len⟩⟩⟩
  | 19 => ⟨s.prev, s.led, s.draw, s.slot, s.len, s.count, s.win, ⟨s.eps.now, ⟨s.eps.next.led, s.eps.next.seed, h, s.eps.next.lock, s.eps.next.len⟩⟩⟩
  | 20 => ⟨s.prev, s.led, s.draw, s.slot, s.len, s.count, s.win, ⟨s.eps.now, ⟨s.eps.next.led, s.eps.next.seed, s.eps.next.start, h, s.eps.next.len⟩⟩⟩
  | _ => ⟨s.prev, s.led, s.draw, s.slot, s.len, s.count, s.win, ⟨s.eps.now, ⟨s.eps.next.led, s.eps.next.seed, s.eps.next.start, s.eps.next.lock, n⟩⟩⟩
def stAt (l : List Nat) : Nat → SState
  | 0 => state0
  | i + 1 => (stAt l i).setP i (rsAt l i).hash ((rsAt l i).num 4)
theorem rsAt_byt {l : List Nat} (h : Byt l) : ∀ i, Byt (rsAt l i).l
  | 0 => h
  | i + 1 => Byt.rtake (rsAt_byt h i) _
theorem rsAt_h32 {l : List Nat} (h : Byt l) (i : Nat) : H32 (rsAt l i).hash := ⟨hash_length _, Byt.hash (rsAt_byt h i)⟩
theorem rsAt_n32 {l : List Nat} (h : Byt l) (i : Nat) : (rsAt l i).num 4 < 4294967296 := Rs.num_lt (rsAt_byt h i) (Nat.le_refl 4)
theorem setP_ok {s : SState} {h : List Nat} {n : Nat} (hs : s.Ok) (hh : H32 h) (hn : n < 4294967296) (i : Nat) : (s.setP i h n).Ok := by
  obtain ⟨h1, h2, h3, h4, h5, h6, ⟨h7, h8, h9⟩, ⟨ha, hb, hc, hd, he⟩, hf, hg, hi, hj, hk⟩ := hs
  have c := fun j => show N4 (s.win.ring.counts.set j n) from ⟨by rw [List.length_set]; exact h9.1, fun x hx => by
    rcases List.mem_or_eq_of_mem_set hx with h1 | h1
    · exact h9.2 x h1
    · rw [h1]; exact hn⟩
  unfold SState.setP
  split
  · exact ⟨hh, h2, h3, h4, h5, h6, ⟨h7, h8, h9⟩, ⟨ha, hb, hc, hd, he⟩, hf, hg, hi, hj, hk⟩
  · exact ⟨h1, hh, h3, h4, h5, h6, ⟨h7, h8, h9⟩, ⟨ha, hb, hc, hd, he⟩, hf, hg, hi, hj, hk⟩
  · exact ⟨h1, h2, hh, h4, h5, h6, ⟨h7, h8, h9⟩, ⟨ha, hb, hc, hd, he⟩, hf, hg, hi, hj, hk⟩
  · exact ⟨h1, h2, h3, hn, h5, h6, ⟨h7, h8, h9⟩, ⟨ha, hb, hc, hd, he⟩, hf, hg, hi, hj, hk⟩
  · exact ⟨h1, h2, h3, h4, hn, h6, ⟨h7, h8, h9⟩, ⟨ha, hb, hc, hd, he⟩, hf, hg, hi, hj, hk⟩
  · exact ⟨h1, h2, h3, h4, h5, hn, ⟨h7, h8, h9⟩, ⟨ha, hb, hc, hd, he⟩, hf, hg, hi, hj, hk⟩
  · exact ⟨h1, h2, h3, h4, h5, h6, ⟨hn, h8, h9⟩, ⟨ha, hb, hc, hd, he⟩, hf, hg, hi, hj, hk⟩
  · exact ⟨h1, h2, h3, h4, h5, h6, ⟨h7, hn, h9⟩, ⟨ha, hb, hc, hd, he⟩, hf, hg, hi, hj, hk⟩
  · exact ⟨h1, h2, h3, h4, h5, h6, ⟨h7, h8, c 0⟩, ⟨ha, hb, hc, hd, he⟩, hf, hg, hi, hj, hk⟩
  · exact ⟨h1, h2, h3, h4, h5, h6, ⟨h7, h8, c 1⟩, ⟨ha, hb, hc, hd, he⟩, hf, hg, hi, hj, hk⟩
  · exact ⟨h1, h2, h3, h4, h5, h6, ⟨h7, h8, c 2⟩, ⟨ha, hb, hc, hd, he⟩, hf, hg, hi, hj, hk⟩
  · exact ⟨h1, h2, h3, h4, h5, h6, ⟨h7, h8, c 3⟩, ⟨ha, hb, hc, hd, he⟩, hf, hg, hi, hj, hk⟩
  · exact ⟨h1, h2, h3, h4, h5, h6, ⟨h7, h8, h9⟩, ⟨hh, hb, hc, hd, he⟩, hf, hg, hi, hj, hk⟩
  · exact ⟨h1, h2, h3, h4, h5, h6, ⟨h7, h8, h9⟩, ⟨ha, hh, hc, hd, he⟩, hf, hg, hi, hj, hk⟩
  · exact ⟨h1, h2, h3, h4, h5, h6, ⟨h7, h8, h9⟩, ⟨ha, hb, hh, hd, he⟩, hf, hg, hi, hj, hk⟩
  · exact ⟨h1, h2, h3, h4, h5, h6, ⟨h7, h8, h9⟩, ⟨ha, hb, hc, hh, he⟩, hf, hg, hi, hj, hk⟩
  · exact ⟨h1, h2, h3, h4, h5, h6, ⟨h7, h8, h9⟩, ⟨ha, hb, hc, hd, hn⟩, hf, hg, hi, hj, hk⟩
  · exact ⟨h1, h2, h3, h4, h5, h6, ⟨h7, h8, h9⟩, ⟨ha, hb, hc, hd, he⟩, hh, hg, hi, hj, hk⟩
  · exact ⟨h1, h2, h3, h4, h5, h6, ⟨h7, h8, h9⟩, ⟨ha, hb, hc, hd, he⟩, hf, hh, hi, hj, hk⟩
  · exact ⟨h1, h2, h3, h4, h5, h6, ⟨h7, h8, h9⟩, ⟨ha, hb, hc, hd, he⟩, hf, hg, hh, hj, hk⟩
  · exact ⟨h1, h2, h3, h4, h5, h6, ⟨h7, h8, h9⟩, ⟨ha, hb, hc, hd, he⟩, hf, hg, hi, hh, hk⟩
  · exact ⟨h1, h2, h3, h4, h5, h6, ⟨h7, h8, h9⟩, ⟨ha, hb, hc, hd, he⟩, hf, hg, hi, hj, hn⟩
theorem stAt_ok {l : List Nat} (h : Byt l) : ∀ i, (stAt l i).Ok
  | 0 => state0_ok
  | i + 1 => setP_ok (stAt_ok h i) (rsAt_h32 h i) (rsAt_n32 h i) i
def stE (l : List Nat) : Nat := if (rsAt l 22).end = 0 then (if (stAt l 22).Right then 0 else 2) else (rsAt l 22).end
def stRd (l : List Nat) : SState := if stE l = 0 then stAt l 22 else state0
theorem stRd_ok {l : List Nat} (h : Byt l) : (stRd l).Ok := by
  unfold stRd; split
  · exact stAt_ok h 22
  · exact state0_ok
theorem st_good {l : List Nat} (h : (rsAt l 22).end = 0) (k : (stAt l 22).Right) : stE l = 0 ∧ stRd l = stAt l 22 := by
  have : stE l = 0 := by unfold stE; rw [if_pos h, if_pos k]
  exact ⟨this, by unfold stRd; rw [if_pos this]⟩
theorem st_form {l : List Nat} (h : (rsAt l 22).end = 0) (k : ¬ (stAt l 22).Right) : stE l = 2 ∧ stRd l = state0 := by
  have : stE l = 2 := by unfold stE; rw [if_pos h, if_neg k]
  exact ⟨this, by unfold stRd; rw [if_neg (by omega)]⟩
theorem st_bad {l : List Nat} (h : ¬ (rsAt l 22).end = 0) : stE l = (rsAt l 22).end ∧ stRd l = state0 := by
  have : stE l = (rsAt l 22).end := by unfold stE; rw [if_neg h]
  exact ⟨this, by unfold stRd; rw [if_neg (by omega)]⟩

/-! ### the reference's reader -/
def rfRe (tr pb : Nat) (ao : Option Addr) (cap : Nat) (l : List Nat) (r : Rs) : Re :=
  ⟨One pb, fun w => ∃ a e : Nat, w.heap[pb]? = some (.cells #[.slice ao l.length cap, .int .i64 (a : Int), .int .i64 (e : Int)] tr (0, 0)) ∧ a ≤ l.length ∧ Rf.r l ⟨a, e⟩ = r,
   fun _ ⟨_, _, h, _⟩ => In.one h, fun _ _ _ ⟨a, e, h, h2⟩ F d => ⟨a, e, Fr.keep F h d, h2⟩⟩
theorem View.rf {x : Rc} {tr pb cap : Nat} {ao : Option Addr} {l : List Nat} (h : x = .blk pb #[.slice ao l.length cap, .int .i64 0, .int .i64 0] tr := by kernel_rfl) : View x (.gen (rfRe tr pb ao cap l ⟨0, l⟩)) := by
  subst h
  exact ⟨fun w hA => ⟨⟨0, 0, hA, Nat.zero_le _, rfl⟩, Sub.refl _⟩⟩
end Go.Alm

/- A state's cells, part by part. -/
namespace Go.Alm
open Go Go.RowKit
theorem ajL (a b : Array Value) : (aj a b).toList = a.toList ++ b.toList := rfl
theorem spl_l {a b vs : Array Value} {off : Nat} (h : off + vs.size ≤ a.size) : spl (aj a b) off vs = aj (spl a off vs) b := by
  apply Array.ext'
  simp only [spl, ajL, List.append_assoc]
  rw [List.take_append_of_le_length (by simp; omega), List.drop_append_of_le_length (by simp; omega)]
theorem spl_r {a b vs : Array Value} {off o : Nat} (h : off = a.size + o) : spl (aj a b) off vs = aj a (spl b o vs) := by
  subst h
  apply Array.ext'
  simp only [spl, ajL, List.append_assoc]
  have e1 : (a.toList ++ b.toList).take (a.size + o) = a.toList ++ b.toList.take o := by
    rw [show a.size + o = a.toList.length + o by simp, List.take_length_add_append]
  have e2 : (a.toList ++ b.toList).drop (a.size + o + vs.size) = b.toList.drop (o + vs.size) := by
    rw [show a.size + o + vs.size = a.toList.length + (o + vs.size) by simp; omega, List.drop_length_add_append]
  rw [e1, e2, List.append_assoc]
theorem spl_all {a vs : Array Value} (h : vs.size = a.size) : spl a 0 vs = vs := by
  apply Array.ext'
  simp only [spl, List.take_zero, List.nil_append, Nat.zero_add]
  rw [h, List.drop_eq_nil_of_le (by simp), List.append_nil]
theorem setc0 {s : SState} (_ : s.Ok) (h : List Nat) (n : Nat) : spl s.cells 0 (hv h) = (s.setP 0 h n).cells := by
  show spl (aj (aj (aj (aj (aj (hv s.prev) (hv s.led)) (hv s.draw)) #[.int .u32 (s.slot : Int), .int .u32 (s.len : Int), .int .u32 (s.count : Int)]) s.win.cells) s.eps.cells) 0 (hv h) = _
  rw [spl_l (by simp [aj_size, hv_size, RWin.size]), spl_l (by simp [aj_size, hv_size]), spl_l (by simp [aj_size, hv_size]), spl_l (by simp [aj_size, hv_size]), spl_l (by simp [aj_size, hv_size]), spl_all (by simp [aj_size, hv_size])]
  rfl
theorem setc1 {s : SState} (_ : s.Ok) (h : List Nat) (n : Nat) : spl s.cells 32 (hv h) = (s.setP 1 h n).cells := by
  show spl (aj (aj (aj (aj (aj (hv s.prev) (hv s.led)) (hv s.draw)) #[.int .u32 (s.slot : Int), .int .u32 (s.len : Int), .int .u32 (s.count : Int)]) s.win.cells) s.eps.cells) 32 (hv h) = _
  rw [spl_l (by simp [aj_size, hv_size, RWin.size]), spl_l (by simp [aj_size, hv_size]), spl_l (by simp [aj_size, hv_size]), spl_l (by simp [aj_size, hv_size]), spl_r (o := 0) (by simp [aj_size, hv_size]), spl_all (by simp [aj_size, hv_size])]
  rfl
theorem setc2 {s : SState} (_ : s.Ok) (h : List Nat) (n : Nat) : spl s.cells 64 (hv h) = (s.setP 2 h n).cells := by
  show spl (aj (aj (aj (aj (aj (hv s.prev) (hv s.led)) (hv s.draw)) #[.int .u32 (s.slot : Int), .int .u32 (s.len : Int), .int .u32 (s.count : Int)]) s.win.cells) s.eps.cells) 64 (hv h) = _
  rw [spl_l (by simp [aj_size, hv_size, RWin.size]), spl_l (by simp [aj_size, hv_size]), spl_l (by simp [aj_size, hv_size]), spl_r (o := 0) (by simp [aj_size, hv_size]), spl_all (by simp [aj_size, hv_size])]
  rfl
theorem setc3 {s : SState} (_ : s.Ok) (h : List Nat) (n : Nat) : spl s.cells 96 #[.int .u32 (n : Int)] = (s.setP 3 h n).cells := by
  show spl (aj (aj (aj (aj (aj (hv s.prev) (hv s.led)) (hv s.draw)) #[.int .u32 (s.slot : Int), .int .u32 (s.len : Int), .int .u32 (s.count : Int)]) s.win.cells) s.eps.cells) 96 #[.int .u32 (n : Int)] = _
  rw [spl_l (by simp [aj_size, hv_size, RWin.size]), spl_l (by simp [aj_size, hv_size]), spl_r (o := 0) (by simp [aj_size, hv_size])]
  rfl
theorem setc4 {s : SState} (_ : s.Ok) (h : List Nat) (n : Nat) : spl s.cells 97 #[.int .u32 (n : Int)] = (s.setP 4 h n).cells := by
  show spl (aj (aj (aj (aj (aj (hv s.prev) (hv s.led)) (hv s.draw)) #[.int .u32 (s.slot : Int), .int .u32 (s.len : Int), .int .u32 (s.count : Int)]) s.win.cells) s.eps.cells) 97 #[.int .u32 (n : Int)] = _
  rw [spl_l (by simp [aj_size, hv_size, RWin.size]), spl_l (by simp [aj_size, hv_size]), spl_r (o := 1) (by simp [aj_size, hv_size])]
  rfl
theorem setc5 {s : SState} (_ : s.Ok) (h : List Nat) (n : Nat) : spl s.cells 98 #[.int .u32 (n : Int)] = (s.setP 5 h n).cells := by
  show spl (aj (aj (aj (aj (aj (hv s.prev) (hv s.led)) (hv s.draw)) #[.int .u32 (s.slot : Int), .int .u32 (s.len : Int), .int .u32 (s.count : Int)]) s.win.cells) s.eps.cells) 98 #[.int .u32 (n : Int)] = _
  rw [spl_l (by simp [aj_size, hv_size, RWin.size]), spl_l (by simp [aj_size, hv_size]), spl_r (o := 2) (by simp [aj_size, hv_size])]
  rfl
theorem setc6 {s : SState} (_ : s.Ok) (h : List Nat) (n : Nat) : spl s.cells 99 #[.int .u32 (n : Int)] = (s.setP 6 h n).cells := by
  show spl (aj (aj (aj (aj (aj (hv s.prev) (hv s.led)) (hv s.draw)) #[.int .u32 (s.slot : Int), .int .u32 (s.len : Int), .int .u32 (s.count : Int)]) s.win.cells) s.eps.cells) 99 #[.int .u32 (n : Int)] = _
  rw [spl_l (by simp [aj_size, hv_size, RWin.size]), spl_r (o := 0) (by simp [aj_size, hv_size]), show s.win.cells = aj #[.int .u32 (s.win.min : Int)] (aj #[.int .u32 (s.win.ring.last : Int)] (c4 s.win.ring.counts)) from rfl, spl_l (by simp [aj_size, ])]
  rfl
theorem setc7 {s : SState} (_ : s.Ok) (h : List Nat) (n : Nat) : spl s.cells 100 #[.int .u32 (n : Int)] = (s.setP 7 h n).cells := by
  show spl (aj (aj (aj (aj (aj (hv s.prev) (hv s.led)) (hv s.draw)) #[.int .u32 (s.slot : Int), .int .u32 (s.len : Int), .int .u32 (s.count : Int)]) s.win.cells) s.eps.cells) 100 #[.int .u32 (n : Int)] = _
  rw [spl_l (by simp [aj_size, hv_size, RWin.size]), spl_r (o := 1) (by simp [aj_size, hv_size]), show s.win.cells = aj #[.int .u32 (s.win.min : Int)] (aj #[.int .u32 (s.win.ring.last : Int)] (c4 s.win.ring.counts)) from rfl, spl_r (o := 0) (by simp [aj_size, ]), spl_l (by simp [aj_size, ])]
  rfl
theorem setc8 {s : SState} (hs : s.Ok) (h : List Nat) (n : Nat) : spl s.cells 101 #[.int .u32 (n : Int)] = (s.setP 8 h n).cells := by
  show spl (aj (aj (aj (aj (aj (hv s.prev) (hv s.led)) (hv s.draw)) #[.int .u32 (s.slot : Int), .int .u32 (s.len : Int), .int .u32 (s.count : Int)]) s.win.cells) s.eps.cells) 101 #[.int .u32 (n : Int)] = _
  rw [spl_l (by simp [aj_size, hv_size, RWin.size]), spl_r (o := 2) (by simp [aj_size, hv_size]), show s.win.cells = aj #[.int .u32 (s.win.min : Int)] (aj #[.int .u32 (s.win.ring.last : Int)] (c4 s.win.ring.counts)) from rfl, spl_r (o := 1) (by simp [aj_size, ]), spl_r (o := 0) (by simp [aj_size, ])]
  have hc := hs.win.ring.counts.1
  obtain ⟨p, l, d, a, b, c, ⟨m, ⟨q, cs⟩⟩, e⟩ := s
  match cs, hc with
  | [_, _, _, _], _ => rfl
theorem setc9 {s : SState} (hs : s.Ok) (h : List Nat) (n : Nat) : spl s.cells 102 #[.int .u32 (n : Int)] = (s.setP 9 h n).cells := by
  show spl (aj (aj (aj (aj (aj (hv s.prev) (hv s.led)) (hv s.draw)) #[.int .u32 (s.slot : Int), .int .u32 (s.len : Int), .int .u32 (s.count : Int)]) s.win.cells) s.eps.cells) 102 #[.int .u32 (n : Int)] = _
  rw [spl_l (by simp [aj_size, hv_size, RWin.size]), spl_r (o := 3) (by simp [aj_size, hv_size]), show s.win.cells = aj #[.int .u32 (s.win.min : Int)] (aj #[.int .u32 (s.win.ring.last : Int)] (c4 s.win.ring.counts)) from rfl, spl_r (o := 2) (by simp [aj_size, ]), spl_r (o := 1) (by simp [aj_size, ])]
  have hc := hs.win.ring.counts.1
  obtain ⟨p, l, d, a, b, c, ⟨m, ⟨q, cs⟩⟩, e⟩ := s
  match cs, hc with
  | [_, _, _, _], _ => rfl
theorem setc10 {s : SState} (hs : s.Ok) (h : List Nat) (n : Nat) : spl s.cells 103 #[.int .u32 (n : Int)] = (s.setP 10 h n).cells := by
  show spl (aj (aj (aj (aj (aj (hv s.prev) (hv s.led)) (hv s.draw)) #[.int .u32 (s.slot : Int), .int .u32 (s.len : Int), .int .u32 (s.count : Int)]) s.win.cells) s.eps.cells) 103 #[.int .u32 (n : Int)] = _
  rw [spl_l (by simp [aj_size, hv_size, RWin.size]), spl_r (o := 4) (by simp [aj_size, hv_size]), show s.win.cells = aj #[.int .u32 (s.win.min : Int)] (aj #[.int .u32 (s.win.ring.last : Int)] (c4 s.win.ring.counts)) from rfl, spl_r (o := 3) (by simp [aj_size, ]), spl_r (o := 2) (by simp [aj_size, ])]
  have hc := hs.win.ring.counts.1
  obtain ⟨p, l, d, a, b, c, ⟨m, ⟨q, cs⟩⟩, e⟩ := s
  match cs, hc with
  | [_, _, _, _], _ => rfl
theorem setc11 {s : SState} (hs : s.Ok) (h : List Nat) (n : Nat) : spl s.cells 104 #[.int .u32 (n : Int)] = (s.setP 11 h n).cells := by
  show spl (aj (aj (aj (aj (aj (hv s.prev) (hv s.led)) (hv s.draw)) #[.int .u32 (s.slot : Int), .int .u32 (s.len : Int), .int .u32 (s.count : Int)]) s.win.cells) s.eps.cells) 104 #[.int .u32 (n : Int)] = _
  rw [spl_l (by simp [aj_size, hv_size, RWin.size]), spl_r (o := 5) (by simp [aj_size, hv_size]), show s.win.cells = aj #[.int .u32 (s.win.min : Int)] (aj #[.int .u32 (s.win.ring.last : Int)] (c4 s.win.ring.counts)) from rfl, spl_r (o := 4) (by simp [aj_size, ]), spl_r (o := 3) (by simp [aj_size, ])]
  have hc := hs.win.ring.counts.1
  obtain ⟨p, l, d, a, b, c, ⟨m, ⟨q, cs⟩⟩, e⟩ := s
  match cs, hc with
  | [_, _, _, _], _ => rfl
theorem setc12 {s : SState} (_ : s.Ok) (h : List Nat) (n : Nat) : spl s.cells 105 (hv h) = (s.setP 12 h n).cells := by
  show spl (aj (aj (aj (aj (aj (hv s.prev) (hv s.led)) (hv s.draw)) #[.int .u32 (s.slot : Int), .int .u32 (s.len : Int), .int .u32 (s.count : Int)]) s.win.cells) s.eps.cells) 105 (hv h) = _
  rw [spl_r (o := 0) (by simp [aj_size, hv_size, RWin.size]), show s.eps.cells = aj (aj (aj (aj (aj (hv s.eps.now.led) (hv s.eps.now.seed)) (hv s.eps.now.start)) (hv s.eps.now.lock)) #[.int .u32 (s.eps.now.len : Int)]) (aj (aj (aj (aj (hv s.eps.next.led) (hv s.eps.next.seed)) (hv s.eps.next.start)) (hv s.eps.next.lock)) #[.int .u32 (s.eps.next.len : Int)]) from rfl, spl_l (by simp [aj_size, hv_size]), spl_l (by simp [aj_size, hv_size]), spl_l (by simp [aj_size, hv_size]), spl_l (by simp [aj_size, hv_size]), spl_l (by simp [aj_size, hv_size]), spl_all (by simp [aj_size, hv_size])]
  rfl
theorem setc13 {s : SState} (_ : s.Ok) (h : List Nat) (n : Nat) : spl s.cells 137 (hv h) = (s.setP 13 h n).cells := by
  show spl (aj (aj (aj (aj (aj (hv s.prev) (hv s.led)) (hv s.draw)) #[.int .u32 (s.slot : Int), .int .u32 (s.len : Int), .int .u32 (s.count : Int)]) s.win.cells) s.eps.cells) 137 (hv h) = _
  rw [spl_r (o := 32) (by simp [aj_size, hv_size, RWin.size]), show s.eps.cells = aj (aj (aj (aj (aj (hv s.eps.now.led) (hv s.eps.now.seed)) (hv s.eps.now.start)) (hv s.eps.now.lock)) #[.int .u32 (s.eps.now.len : Int)]) (aj (aj (aj (aj (hv s.eps.next.led) (hv s.eps.next.seed)) (hv s.eps.next.start)) (hv s.eps.next.lock)) #[.int .u32 (s.eps.next.len : Int)]) from rfl, spl_l (by simp [aj_size, hv_size]), spl_l (by simp [aj_size, hv_size]), spl_l (by simp [aj_size, hv_size]), spl_l (by simp [aj_size, hv_size]), spl_r (o := 0) (by simp [aj_size, hv_size]), spl_all (by simp [aj_size, hv_size])]
  rfl
theorem setc14 {s : SState} (_ : s.Ok) (h : List Nat) (n : Nat) : spl s.cells 169 (hv h) = (s.setP 14 h n).cells := by
  show spl (aj (aj (aj (aj (aj (hv s.prev) (hv s.led)) (hv s.draw)) #[.int .u32 (s.slot : Int), .int .u32 (s.len : Int), .int .u32 (s.count : Int)]) s.win.cells) s.eps.cells) 169 (hv h) = _
  rw [spl_r (o := 64) (by simp [aj_size, hv_size, RWin.size]), show s.eps.cells = aj (aj (aj (aj (aj (hv s.eps.now.led) (hv s.eps.now.seed)) (hv s.eps.now.start)) (hv s.eps.now.lock)) #[.int .u32 (s.eps.now.len : Int)]) (aj (aj (aj (aj (hv s.eps.next.led) (hv s.eps.next.seed)) (hv s.eps.next.start)) (hv s.eps.next.lock)) #[.int .u32 (s.eps.next.len : Int)]) from rfl, spl_l (by simp [aj_size, hv_size]), spl_l (by simp [aj_size, hv_size]), spl_l (by simp [aj_size, hv_size]), spl_r (o := 0) (by simp [aj_size, hv_size]), spl_all (by simp [aj_size, hv_size])]
  rfl
theorem setc15 {s : SState} (_ : s.Ok) (h : List Nat) (n : Nat) : spl s.cells 201 (hv h) = (s.setP 15 h n).cells := by
  show spl (aj (aj (aj (aj (aj (hv s.prev) (hv s.led)) (hv s.draw)) #[.int .u32 (s.slot : Int), .int .u32 (s.len : Int), .int .u32 (s.count : Int)]) s.win.cells) s.eps.cells) 201 (hv h) = _
  rw [spl_r (o := 96) (by simp [aj_size, hv_size, RWin.size]), show s.eps.cells = aj (aj (aj (aj (aj (hv s.eps.now.led) (hv s.eps.now.seed)) (hv s.eps.now.start)) (hv s.eps.now.lock)) #[.int .u32 (s.eps.now.len : Int)]) (aj (aj (aj (aj (hv s.eps.next.led) (hv s.eps.next.seed)) (hv s.eps.next.start)) (hv s.eps.next.lock)) #[.int .u32 (s.eps.next.len : Int)]) from rfl, spl_l (by simp [aj_size, hv_size]), spl_l (by simp [aj_size, hv_size]), spl_r (o := 0) (by simp [aj_size, hv_size]), spl_all (by simp [aj_size, hv_size])]
  rfl
theorem setc16 {s : SState} (_ : s.Ok) (h : List Nat) (n : Nat) : spl s.cells 233 #[.int .u32 (n : Int)] = (s.setP 16 h n).cells := by
  show spl (aj (aj (aj (aj (aj (hv s.prev) (hv s.led)) (hv s.draw)) #[.int .u32 (s.slot : Int), .int .u32 (s.len : Int), .int .u32 (s.count : Int)]) s.win.cells) s.eps.cells) 233 #[.int .u32 (n : Int)] = _
  rw [spl_r (o := 128) (by simp [aj_size, hv_size, RWin.size]), show s.eps.cells = aj (aj (aj (aj (aj (hv s.eps.now.led) (hv s.eps.now.seed)) (hv s.eps.now.start)) (hv s.eps.now.lock)) #[.int .u32 (s.eps.now.len : Int)]) (aj (aj (aj (aj (hv s.eps.next.led) (hv s.eps.next.seed)) (hv s.eps.next.start)) (hv s.eps.next.lock)) #[.int .u32 (s.eps.next.len : Int)]) from rfl, spl_l (by simp [aj_size, hv_size]), spl_r (o := 0) (by simp [aj_size, hv_size])]
  rfl
theorem setc17 {s : SState} (_ : s.Ok) (h : List Nat) (n : Nat) : spl s.cells 234 (hv h) = (s.setP 17 h n).cells := by
  show spl (aj (aj (aj (aj (aj (hv s.prev) (hv s.led)) (hv s.draw)) #[.int .u32 (s.slot : Int), .int .u32 (s.len : Int), .int .u32 (s.count : Int)]) s.win.cells) s.eps.cells) 234 (hv h) = _
  rw [spl_r (o := 129) (by simp [aj_size, hv_size, RWin.size]), show s.eps.cells = aj (aj (aj (aj (aj (hv s.eps.now.led) (hv s.eps.now.seed)) (hv s.eps.now.start)) (hv s.eps.now.lock)) #[.int .u32 (s.eps.now.len : Int)]) (aj (aj (aj (aj (hv s.eps.next.led) (hv s.eps.next.seed)) (hv s.eps.next.start)) (hv s.eps.next.lock)) #[.int .u32 (s.eps.next.len : Int)]) from rfl, spl_r (o := 0) (by simp [aj_size, hv_size]), spl_l (by simp [aj_size, hv_size]), spl_l (by simp [aj_size, hv_size]), spl_l (by simp [aj_size, hv_size]), spl_l (by simp [aj_size, hv_size]), spl_all (by simp [aj_size, hv_size])]
  rfl
theorem setc18 {s : SState} (_ : s.Ok) (h : List Nat) (n : Nat) : spl s.cells 266 (hv h) = (s.setP 18 h n).cells := by
  show spl (aj (aj (aj (aj (aj (hv s.prev) (hv s.led)) (hv s.draw)) #[.int .u32 (s.slot : Int), .int .u32 (s.len : Int), .int .u32 (s.count : Int)]) s.win.cells) s.eps.cells) 266 (hv h) = _
  rw [spl_r (o := 161) (by simp [aj_size, hv_size, RWin.size]), show s.eps.cells = aj (aj (aj (aj (aj (hv s.eps.now.led) (hv s.eps.now.seed)) (hv s.eps.now.start)) (hv s.eps.now.lock)) #[.int .u32 (s.eps.now.len : Int)]) (aj (aj (aj (aj (hv s.eps.next.led) (hv s.eps.next.seed)) (hv s.eps.next.start)) (hv s.eps.next.lock)) #[.int .u32 (s.eps.next.len : Int)]) from rfl, spl_r (o := 32) (by simp [aj_size, hv_size]), spl_l (by simp [aj_size, hv_size]), spl_l (by simp [aj_size, hv_size]), spl_l (by simp [aj_size, hv_size]), spl_r (o := 0) (by simp [aj_size, hv_size]), spl_all (by simp [aj_size, hv_size])]
  rfl
theorem setc19 {s : SState} (_ : s.Ok) (h : List Nat) (n : Nat) : spl s.cells 298 (hv h) = (s.setP 19 h n).cells := by
  show spl (aj (aj (aj (aj (aj (hv s.prev) (hv s.led)) (hv s.draw)) #[.int .u32 (s.slot : Int), .int .u32 (s.len : Int), .int .u32 (s.count : Int)]) s.win.cells) s.eps.cells) 298 (hv h) = _
  rw [spl_r (o := 193) (by simp [aj_size, hv_size, RWin.size]), show s.eps.cells = aj (aj (aj (aj (aj (hv s.eps.now.led) (hv s.eps.now.seed)) (hv s.eps.now.start)) (hv s.eps.now.lock)) #[.int .u32 (s.eps.now.len : Int)]) (aj (aj (aj (aj (hv s.eps.next.led) (hv s.eps.next.seed)) (hv s.eps.next.start)) (hv s.eps.next.lock)) #[.int .u32 (s.eps.next.len : Int)]) from rfl, spl_r (o := 64) (by simp [aj_size, hv_size]), spl_l (by simp [aj_size, hv_size]), spl_l (by simp [aj_size, hv_size]), spl_r (o := 0) (by simp [aj_size, hv_size]), spl_all (by simp [aj_size, hv_size])]
  rfl
theorem setc20 {s : SState} (_ : s.Ok) (h : List Nat) (n : Nat) : spl s.cells 330 (hv h) = (s.setP 20 h n).cells := by
  show spl (aj (aj (aj (aj (aj (hv s.prev) (hv s.led)) (hv s.draw)) #[.int .u32 (s.slot : Int), .int .u32 (s.len : Int), .int .u32 (s.count : Int)]) s.win.cells) s.eps.cells) 330 (hv h) = _
  rw [spl_r (o := 225) (by simp [aj_size, hv_size, RWin.size]), show s.eps.cells = aj (aj (aj (aj (aj (hv s.eps.now.led) (hv s.eps.now.seed)) (hv s.eps.now.start)) (hv s.eps.now.lock)) #[.int .u32 (s.eps.now.len : Int)]) (aj (aj (aj (aj (hv s.eps.next.led) (hv s.eps.next.seed)) (hv s.eps.next.start)) (hv s.eps.next.lock)) #[.int .u32 (s.eps.next.len : Int)]) from rfl, spl_r (o := 96) (by simp [aj_size, hv_size]), spl_l (by simp [aj_size, hv_size]), spl_r (o := 0) (by simp [aj_size, hv_size]), spl_all (by simp [aj_size, hv_size])]
  rfl
theorem setc21 {s : SState} (_ : s.Ok) (h : List Nat) (n : Nat) : spl s.cells 362 #[.int .u32 (n : Int)] = (s.setP 21 h n).cells := by
  show spl (aj (aj (aj (aj (aj (hv s.prev) (hv s.led)) (hv s.draw)) #[.int .u32 (s.slot : Int), .int .u32 (s.len : Int), .int .u32 (s.count : Int)]) s.win.cells) s.eps.cells) 362 #[.int .u32 (n : Int)] = _
  rw [spl_r (o := 257) (by simp [aj_size, hv_size, RWin.size]), show s.eps.cells = aj (aj (aj (aj (aj (hv s.eps.now.led) (hv s.eps.now.seed)) (hv s.eps.now.start)) (hv s.eps.now.lock)) #[.int .u32 (s.eps.now.len : Int)]) (aj (aj (aj (aj (hv s.eps.next.led) (hv s.eps.next.seed)) (hv s.eps.next.start)) (hv s.eps.next.lock)) #[.int .u32 (s.eps.next.len : Int)]) from rfl, spl_r (o := 128) (by simp [aj_size, hv_size]), spl_r (o := 0) (by simp [aj_size, hv_size])]
  rfl
end Go.Alm

/- Great records: read and written whole. -/
namespace Go.Alm
open Go Go.RowKit
theorem ext_all {c : Array Value} {n : Nat} (h : c.size = n) : ext c 0 n = c := by
  apply Array.ext'
  simp only [ext, List.drop_zero]
  exact List.take_of_length_le (by simp [h])
section
variable {P : Program} {Q : Exit → Act → World → Prop} {L : List Iv} {s : St} {RO FZ OW : List Rc}
theorem m_ldW (n i b te sz : Nat) (c : Array Value) (hsz : c.size = sz) (k : J P Q L (nx (go P n s) (.agg c)) RO FZ OW)
    (h1 : (go P n s).a.eval (ldX (go P n s)) = .pointer (some ⟨b, 0, none⟩) := by kernel_rfl) (h3 : gr (RO ++ (FZ ++ OW)) i = .blk b c te := by kernel_rfl)
    (hc : ((loadOf (cur (go P n s)).op).isSome && (rowed P (ldT (go P n s)) == some true) && (sizeT P (ldT (go P n s)) == some sz) && (onW (go P n s) && rdOk (go P n s) i (RO ++ FZ).length)) = true := by kernel_rfl) : J P Q L s RO FZ OW := by
  simp only [Bool.and_eq_true, beq_iff_eq] at hc
  obtain ⟨⟨⟨h4, h5⟩, h6⟩, h8, h9⟩ := hc
  have ho : loadOf (cur (go P n s)).op = some (ldT (go P n s), ldX (go P n s)) := by
    unfold ldT ldX
    cases hl : loadOf (cur (go P n s)).op with
    | none => rw [hl] at h4; cases h4
    | some x => rfl
  refine m_r n i (.agg c) (fun w hA => ?_) k h8 h9
  rw [h3] at hA
  have hb : w.heap[b]? = some (.cells c te (0, 0)) := hA
  exact run_loadN _ _ _ _ sz _ _ _ _ ho h5 h6 h1 hb (Nat.ble_eq_true_of_le (by omega)) ((ext_eq _ _ _).trans (ext_all hsz))
theorem m_stW (n i sz : Nat) (vs : Array Value) (hsz : vs.size = sz) (hv : vs.toList.all (·.oneCell') = true) (k : J P Q L (nx (go P n s) undef) RO FZ (OW.set i (.blk (gr OW i).b vs (gr OW i).te)))
    (h1 : (go P n s).a.eval (stX (go P n s)) = .pointer (some ⟨(gr OW i).b, 0, none⟩) := by kernel_rfl) (hy : (stY (go P n s)).cells = vs := by kernel_rfl)
    (hc : ((storeOf (cur (go P n s)).op).isSome && (gr OW i).isBlk && Nat.beq (gr OW i).c.size sz && (sizeT P (stT (go P n s)) == some sz) && (acts (go P n s) && onW (go P n s))) = true := by kernel_rfl) : J P Q L s RO FZ OW := by
  simp only [Bool.and_eq_true, beq_iff_eq] at hc
  obtain ⟨⟨⟨⟨h4, h3⟩, h5⟩, h6⟩, h8⟩ := hc
  have hi := gr_some h3
  have h5 := Nat.eq_of_beq_eq_true h5
  refine m_act n (fun w hw _ => ?_) (by rw [Bool.and_eq_true]; exact h8)
  have hA : (gr OW i).A w := hw.a _ (by simp only [List.mem_append]; exact .inr (.inr (List.mem_of_getElem? hi)))
  have hS : (gr OW i).S = One (gr OW i).b := by rw [Rc.blk_eq h3]; rfl
  have ho : storeOf (cur (go P n s)).op = some (stT (go P n s), stX (go P n s), ((storeOf (cur (go P n s)).op).getD (0, .tmp 0, .tmp 0)).2.2) := by
    unfold stT stX
    cases hl : storeOf (cur (go P n s)).op with
    | none => rw [hl] at h4; cases h4
    | some x => rfl
  rw [Rc.blk_eq h3] at hA
  refine op_store _ _ _ _ _ (stY (go P n s)) _ _ vs ho h1 rfl hA (by rw [hy, hsz]; exact h6) (Nat.ble_eq_true_of_le (by rw [hy]; omega)) (by rw [hy]; exact hv) (by rw [hy]; exact spl_all (by omega)) fun w' hb hz F => ⟨_, _, rfl, Hs.set (r' := .blk _ vs _) hw hi (by rw [hS]; exact F) hb ?_, k⟩
  rw [hS]
  exact New.refl _ _
end
theorem SState.ones (s : SState) : s.cells.toList.all (·.oneCell') = true := by kernel_rfl
theorem SState.one (s : SState) : ∀ u ∈ s.cells.toList, u.oneCell' = true := fun u hu => List.all_eq_true.1 s.ones u hu
/-! ### a great result -/
def res0 (l : List ResultVar) : Nat × Nat := match l with | .cell t ty :: _ => (t, ty) | _ => (0, 0)
def resT (l : List ResultVar) : List ResultVar := match l with | _ :: r => r | [] => []
def isC0 (l : List ResultVar) : Bool := match l with | .cell _ _ :: _ => true | _ => false
theorem isC0_spec {l : List ResultVar} (h : isC0 l = true) : l = .cell (res0 l).1 (res0 l).2 :: resT l := by
  match l, h with
  | .cell _ _ :: _, _ => rfl
section
variable {P : Program} {Q : Exit → Act → World → Prop} {L : List Iv} {s : St} {RO FZ OW : List Rc}
theorem m_retCW {f : Nat} {F : Re} {R : Value → List Rc → Prop} {ro : List Rc} (n i0 : Nat) (is : List Nat) (sz b te : Nat) (c : Array Value) (hsz : c.size = sz) (v : Value) (idx : List Nat) (hR : R v (pick idx OW).1) (h1 : outOk (go P n s) = true := by kernel_rfl)
    (h4 : (isC0 (fnOf P f).results.toList && (rowed P (res0 (fnOf P f).results.toList).2 == some true) && (sizeT P (res0 (fnOf P f).results.toList).2 == some sz)) = true := by kernel_rfl)
    (hg : gr ((.gen F :: ro) ++ OW) i0 = .blk b c te := by kernel_rfl) (h5 : (go P n s).a.tmps.getD (res0 (fnOf P f).results.toList).1 undef = .pointer (some ⟨b, 0, none⟩) := by kernel_rfl)
    (h2 : resK P ((.gen F :: ro) ++ OW) (go P n s).a (resT (fnOf P f).results.toList) is = true := by kernel_rfl) (h3 : resA (go P n s).a (resT (fnOf P f).results.toList) is = resB ((.gen F :: ro) ++ OW) (go P n s).a (resT (fnOf P f).results.toList) is := by kernel_rfl)
    (hr : oneOf (.agg c :: resV P ((.gen F :: ro) ++ OW) (go P n s).a (resT (fnOf P f).results.toList) is) = v := by kernel_rfl) : J P (DoesPost P f F R) L s (.gen F :: ro) [] OW := by
  refine m_go n ?_
  generalize go P n s = t at *
  obtain ⟨ps, K, a, r⟩ := t
  unfold outOk at h1
  simp only [Bool.and_eq_true, List.isEmpty_iff] at h1
  obtain ⟨⟨h6, h7⟩, h8⟩ := h1
  simp only [Bool.and_eq_true, beq_iff_eq] at h4
  obtain ⟨⟨g1, g2⟩, g3⟩ := h4
  have hp := pick_perm idx OW
  have fin : ∀ w, Hs w (.gen F :: ro) ([] ++ OW) → Hs w [.gen F] (pick idx OW).1 := fun w hw => ((hw.perm hp).own).ro (by simp)
  refine ⟨fun w hw => ?_⟩
  subst h7
  have hrun : (results (fnOf P f) a.tmps).run P w = .ok v w := by
    rw [← hr]
    have hb := gr_A hw.a i0
    have hb : (gr ((.gen F :: ro) ++ OW) i0).A w := hb
    rw [hg] at hb
    have hb : w.heap[b]? = some (.cells c te (0, 0)) := hb
    have hL : ResL P a w (.cell (res0 (fnOf P f).results.toList).1 (res0 (fnOf P f).results.toList).2 :: resT (fnOf P f).results.toList) (.agg c :: resV P ((.gen F :: ro) ++ OW) a (resT (fnOf P f).results.toList) is) :=
      ⟨ResOne.cellN h5 g2 g3 hb (Nat.ble_eq_true_of_le (by omega)) ((ext_eq _ _ _).trans (ext_all hsz)), res_L (P := P) (a := a) hw.a _ _ h2 h3⟩
    rw [← isC0_spec g1] at hL
    exact run_results' (fn := fnOf P f) _ rfl hL
  cases ps with
  | out e =>
    cases e with
    | normal => exact ⟨h8, v, hrun, v, _, hR, rfl, fin w hw⟩
    | ret => exact ⟨h8, v, hrun, v, _, hR, rfl, fin w hw⟩
    | _ => cases h6
  | _ => cases h6
end
end Go.Alm

/- Layer 4: what is written of things, read back. -/
namespace Go.Alm
open Go Go.RowKit

theorem num_cons' (b : Nat) : ∀ (l : List Nat) (n : Nat), l.foldl (fun n b => n * 256 + b) (n * 256 + b) = n * 256 ^ (l.length + 1) + (b * 256 ^ l.length + num l) := by
  intro l
  induction l generalizing b with
  | nil => intro n; simp [num]
  | cons c l ih =>
    intro n
    rw [List.foldl_cons, ih c (n * 256 + b)]
    have h2 : num (c :: l) = c * 256 ^ l.length + num l := by
      have := ih c 0
      simpa [num] using this
    rw [h2, List.length_cons, Nat.add_mul, Nat.pow_succ 256 (l.length + 1), Nat.pow_succ 256 l.length]
    generalize 256 ^ l.length = q
    rw [Nat.mul_assoc n 256, Nat.mul_comm 256 (q * 256)]
    omega
theorem num_cons (b : Nat) (l : List Nat) : num (b :: l) = b * 256 ^ l.length + num l := by
  have := num_cons' b l 0
  simpa [num] using this
theorem num_putB (n : Nat) : ∀ k, num (putB n k k) = n % 256 ^ k
  | 0 => by simp [putB, num, Nat.mod_one]
  | k + 1 => by
    rw [putB_next, num_cons, putB_length, num_putB n k, Nat.mod_pow_succ, Nat.add_comm, Nat.mul_comm]

/-! ### a reader in front of what is there -/
theorem take_app {a b : List Nat} {m : Nat} (h : a.length = m) : (Rs.mk 0 (a ++ b)).take m = ⟨0, b⟩ ∧ (Rs.mk 0 (a ++ b)).out m = a := by
  subst h
  have hn : ¬ (a ++ b).length < a.length := by rw [List.length_append]; omega
  unfold Rs.take Rs.out
  simp only [if_neg hn, List.drop_left, List.take_left, and_self]
theorem hash_app {a b : List Nat} (h : a.length = 32) : (Rs.mk 0 (a ++ b)).hash = a := by
  unfold Rs.hash
  rw [if_neg (by simp; omega)]
  exact List.take_left' h
theorem take_cut {l : List Nat} {m : Nat} (h : l.length < m) : (Rs.mk 0 l).take m = ⟨3, []⟩ := by
  unfold Rs.take Rs.wrong
  simp [h]
theorem take_dead (m : Nat) : (Rs.mk 3 []).take m = ⟨3, []⟩ := by
  unfold Rs.take Rs.wrong
  simp
theorem textR_app {t b : List Nat} (h : t.length ≤ 255) : (Rs.mk 0 (textW t ++ b)).textR 255 = ⟨0, b⟩ ∧ (Rs.mk 0 (textW t ++ b)).text 255 = t := by
  have e : textW t = putB t.length 1 1 ++ t := if_pos h
  have h1 := take_app (a := putB t.length 1 1) (b := t ++ b) (m := 1) (putB_length _ _ _)
  have h2 : (Rs.mk 0 (textW t ++ b)).num 1 = t.length := by
    rw [e, List.append_assoc]
    unfold Rs.num
    rw [h1.2, num_putB]
    omega
  have h3 : (Rs.mk 0 (textW t ++ b)).text1 255 = ⟨0, t ++ b⟩ := by
    unfold Rs.text1
    rw [h2, if_neg (by omega), e, List.append_assoc, h1.1]
  have h4 := take_app (a := t) (b := b) (m := t.length) rfl
  constructor
  · unfold Rs.textR
    rw [h3, if_pos rfl, h2, h4.1]
  · unfold Rs.text
    rw [h3, if_pos rfl, h2, h4.2]
theorem textR_cut {t : List Nat} {c : Nat} (h : t.length ≤ 255) (hc : c < (textW t).length) : (Rs.mk 0 ((textW t).take c)).textR 255 = ⟨3, []⟩ := by
  have e : textW t = putB t.length 1 1 ++ t := if_pos h
  rw [e] at hc ⊢
  rw [List.length_append, putB_length] at hc
  rcases Nat.eq_zero_or_pos c with rfl | hp
  · rfl
  · obtain ⟨d, rfl⟩ : ∃ d, c = 1 + d := ⟨c - 1, by omega⟩
    have e2 : (putB t.length 1 1 ++ t).take (1 + d) = putB t.length 1 1 ++ t.take d := by
      rw [List.take_append, putB_length, List.take_of_length_le (by rw [putB_length]; omega)]
      congr 2
      omega
    rw [e2]
    have h1 := take_app (a := putB t.length 1 1) (b := t.take d) (m := 1) (putB_length _ _ _)
    have h2 : (Rs.mk 0 (putB t.length 1 1 ++ t.take d)).num 1 = t.length := by
      unfold Rs.num
      rw [h1.2, num_putB]
      omega
    have h3 : (Rs.mk 0 (putB t.length 1 1 ++ t.take d)).text1 255 = ⟨0, t.take d⟩ := by
      unfold Rs.text1
      rw [h2, if_neg (by omega), h1.1]
    unfold Rs.textR
    rw [h3, if_pos rfl, h2]
    exact take_cut (by rw [List.length_take]; omega)
theorem textR_dead : (Rs.mk 3 []).textR 255 = ⟨3, []⟩ := rfl

/-- One thing comes back. -/
theorem Thing.back {x : Thing} (h : x.Ok) (ho : x.okW = true) (b : List Nat) : x.r ⟨0, x.w ++ b⟩ = ⟨0, b⟩ ∧ x.okR ⟨0, x.w ++ b⟩ = true := by
  have hn := h.n
  unfold Thing.r Thing.okR Thing.w
  by_cases h0 : x.kind = 0
  · simp only [if_pos h0]
    have := take_app (a := putB (x.n % 256) 1 1) (b := b) (m := 1) (putB_length _ _ _)
    refine ⟨this.1, ?_⟩
    unfold Rs.num
    rw [this.2, num_putB]
    simp
  · simp only [if_neg h0]
    by_cases h1 : x.kind = 1
    · simp only [if_pos h1]
      have := take_app (a := putB (x.n % 4294967296) 4 4) (b := b) (m := 4) (putB_length _ _ _)
      refine ⟨this.1, ?_⟩
      unfold Rs.num
      rw [this.2, num_putB]
      simp
    · simp only [if_neg h1]
      by_cases h2 : x.kind = 2
      · simp only [if_pos h2]
        have := take_app (a := putB x.n 8 8) (b := b) (m := 8) (putB_length _ _ _)
        refine ⟨this.1, ?_⟩
        unfold Rs.num
        rw [this.2, num_putB, Nat.mod_eq_of_lt (by omega)]
        simp
      · simp only [if_neg h2]
        by_cases h3 : x.kind = 3
        · simp only [if_pos h3]
          have := take_app (a := x.h) (b := b) (m := 32) h.h
          refine ⟨this.1, ?_⟩
          rw [hash_app h.h]
          simp
        · simp only [if_neg h3]
          by_cases h4 : x.kind = 4
          · simp only [if_pos h4]
            unfold Thing.okW at ho
            rw [if_pos h4] at ho
            have := textR_app (b := b) (of_decide_eq_true ho)
            exact ⟨this.1, decide_eq_true this.2⟩
          · simp only [if_neg h4, List.nil_append]
            exact ⟨trivial, trivial⟩
theorem Thing.cutR {x : Thing} (h : x.Ok) (ho : x.okW = true) {c : Nat} (hc : c < x.w.length) : x.r ⟨0, x.w.take c⟩ = ⟨3, []⟩ := by
  unfold Thing.w at hc
  unfold Thing.r Thing.w
  by_cases h0 : x.kind = 0
  · simp only [if_pos h0] at hc ⊢
    rw [putB_length] at hc
    exact take_cut (by rw [List.length_take, putB_length]; omega)
  · simp only [if_neg h0] at hc ⊢
    by_cases h1 : x.kind = 1
    · simp only [if_pos h1] at hc ⊢
      rw [putB_length] at hc
      exact take_cut (by rw [List.length_take, putB_length]; omega)
    · simp only [if_neg h1] at hc ⊢
      by_cases h2 : x.kind = 2
      · simp only [if_pos h2] at hc ⊢
        rw [putB_length] at hc
        exact take_cut (by rw [List.length_take, putB_length]; omega)
      · simp only [if_neg h2] at hc ⊢
        by_cases h3 : x.kind = 3
        · simp only [if_pos h3] at hc ⊢
          rw [h.h] at hc
          exact take_cut (by rw [List.length_take, h.h]; omega)
        · simp only [if_neg h3] at hc ⊢
          by_cases h4 : x.kind = 4
          · simp only [if_pos h4] at hc ⊢
            unfold Thing.okW at ho
            rw [if_pos h4] at ho
            exact textR_cut (of_decide_eq_true ho) hc
          · simp only [if_neg h4] at hc
            simp at hc
theorem Thing.deadR (x : Thing) : x.r ⟨3, []⟩ = ⟨3, []⟩ := by
  unfold Thing.r
  repeat' split
  all_goals first | exact take_dead _ | rfl
def readT (r : Rs) (ts : List Thing) : Rs := ts.foldl (fun r x => Thing.r x r) r
theorem readT_snoc {r : Rs} {ts : List Thing} {k : Nat} {x : Thing} (hx : ts[k]? = some x) : readT r (ts.take (k + 1)) = x.r (readT r (ts.take k)) := by
  unfold readT
  rw [List.take_add_one, hx]
  simp
theorem readT_dead : ∀ ts : List Thing, readT ⟨3, []⟩ ts = ⟨3, []⟩
  | [] => rfl
  | x :: ts => by
    have : readT ⟨3, []⟩ (x :: ts) = readT (x.r ⟨3, []⟩) ts := rfl
    rw [this, x.deadR, readT_dead ts]
theorem readT_cut : ∀ {ts : List Thing} {c : Nat}, (∀ x ∈ ts, x.Ok) → (∀ x ∈ ts, x.okW = true) → c < (writeT ts).length → readT ⟨0, (writeT ts).take c⟩ ts = ⟨3, []⟩
  | [], c, _, _, hc => by simp [writeT] at hc
  | x :: ts, c, h, ho, hc => by
    have e : writeT (x :: ts) = x.w ++ writeT ts := rfl
    have e2 : ∀ r, readT r (x :: ts) = readT (x.r r) ts := fun _ => rfl
    rw [e] at hc ⊢
    rw [e2]
    rcases Nat.lt_or_ge c x.w.length with hl | hl
    · rw [List.take_append_of_le_length (by omega), Thing.cutR (h x (by simp)) (ho x (by simp)) hl, readT_dead]
    · obtain ⟨d, rfl⟩ : ∃ d, c = x.w.length + d := ⟨c - x.w.length, by omega⟩
      rw [List.take_length_add_append, (Thing.back (h x (by simp)) (ho x (by simp)) _).1]
      rw [List.length_append] at hc
      exact readT_cut (fun y hy => h y (by simp [hy])) (fun y hy => ho y (by simp [hy])) (by omega)
theorem writeT_drop {ts : List Thing} {k : Nat} {x : Thing} (hx : ts[k]? = some x) : writeT (ts.drop k) = x.w ++ writeT (ts.drop (k + 1)) := by
  obtain ⟨hk, rfl⟩ := List.getElem?_eq_some_iff.1 hx
  rw [List.drop_eq_getElem_cons hk]
  rfl
theorem rT_len {x : Thing} (r : Rs) : (x.r r).l.length ≤ r.l.length := by
  unfold Thing.r
  repeat' split
  all_goals first | exact take_len _ _ | exact textR_len _ _ | exact Nat.le_refl _
theorem rT_byt {x : Thing} {r : Rs} (h : Byt r.l) : Byt (x.r r).l := by
  unfold Thing.r
  repeat' split
  all_goals first | exact h.rtake _ | exact h.textR _ | exact h
theorem readT_len : ∀ (ts : List Thing) (r : Rs), (readT r ts).l.length ≤ r.l.length
  | [], _ => Nat.le_refl _
  | x :: ts, r => Nat.le_trans (readT_len ts (x.r r)) (rT_len r)
theorem readT_byt : ∀ (ts : List Thing) {r : Rs}, Byt r.l → Byt (readT r ts).l
  | [], _, h => h
  | _ :: ts, _, h => readT_byt ts (rT_byt h)
theorem Byt.app {a b : List Nat} (ha : Byt a) (hb : Byt b) : Byt (a ++ b) := fun x hx => by
  rcases List.mem_append.1 hx with h | h
  · exact ha x h
  · exact hb x h
theorem Byt.putB (n k j : Nat) : Byt (putB n k j) := fun x hx => by
  unfold Go.Alm.putB at hx
  obtain ⟨i, _, rfl⟩ := List.mem_map.1 hx
  exact Nat.mod_lt _ (by decide)
theorem Byt.textW {b : List Nat} (h : Byt b) : Byt (textW b) := by
  unfold Go.Alm.textW
  split
  · exact (Byt.putB _ _ _).app h
  · exact Byt.nil
theorem Thing.w_byt {x : Thing} (h : x.Ok) : Byt x.w := by
  unfold Thing.w
  repeat' split
  all_goals first | exact Byt.putB _ _ _ | exact h.hb | exact h.b.textW | exact Byt.nil
theorem writeT_byt : ∀ {ts : List Thing}, (∀ x ∈ ts, x.Ok) → Byt (writeT ts)
  | [], _ => Byt.nil
  | x :: ts, h => by
    have e : writeT (x :: ts) = x.w ++ writeT ts := rfl
    rw [e]
    exact (Thing.w_byt (h x (by simp))).app (writeT_byt fun y hy => h y (by simp [hy]))
/-- A text that is too long is not written. -/
theorem Thing.w_skip {x : Thing} (h : x.kind = 4) (h2 : ¬ x.b.length ≤ 255) : x.w = [] := by
  unfold Thing.w
  rw [if_neg (by omega), if_neg (by omega), if_neg (by omega), if_neg (by omega), if_pos h]
  exact if_neg h2
theorem Thing.okW_of {x : Thing} (h : x.kind ≠ 4 ∨ x.b.length ≤ 255) : x.okW = true := by
  unfold Thing.okW
  split
  · rename_i h4
    rcases h with h | h
    · exact absurd h4 h
    · exact decide_eq_true h
  · rfl
end Go.Alm

/- Reading, backwards: what was read, when nothing went wrong, are the bytes; and texts of a bound of their own. -/
namespace Go.Alm
open Go Go.RowKit
theorem Rs.take_ok {r : Rs} {m : Nat} (h : (r.take m).e = 0) : r.e = 0 ∧ m ≤ r.l.length ∧ r.take m = ⟨0, r.l.drop m⟩ ∧ r.out m = r.l.take m := by
  unfold Rs.take at h
  by_cases hm : r.l.length < m
  · exfalso
    rw [if_pos hm] at h
    unfold Rs.wrong at h
    split at h
    · simp at h
    · contradiction
  · rw [if_neg hm] at h
    simp only at h
    refine ⟨h, by omega, ?_, if_neg hm⟩
    unfold Rs.take
    rw [if_neg hm, h]
theorem num_inj : ∀ {a b : List Nat}, a.length = b.length → Byt a → Byt b → num a = num b → a = b
  | [], [], _, _, _, _ => rfl
  | [], _ :: _, h, _, _, _ => by simp at h
  | _ :: _, [], h, _, _, _ => by simp at h
  | x :: a, y :: b, h, ha, hb, e => by
    have hl : a.length = b.length := by simpa using h
    have ha' : Byt a := fun z hz => ha z (by simp [hz])
    have hb' : Byt b := fun z hz => hb z (by simp [hz])
    rw [num_cons, num_cons, hl] at e
    have h1 := num_lt a ha'
    have h2 := num_lt b hb'
    rw [hl] at h1
    have hp : 0 < 256 ^ b.length := Nat.pow_pos (by decide)
    have d1 : (x * 256 ^ b.length + num a) / 256 ^ b.length = x := by rw [Nat.add_comm, Nat.add_mul_div_right _ _ hp, Nat.div_eq_of_lt h1, Nat.zero_add]
    have d2 : (y * 256 ^ b.length + num b) / 256 ^ b.length = y := by rw [Nat.add_comm, Nat.add_mul_div_right _ _ hp, Nat.div_eq_of_lt h2, Nat.zero_add]
    rw [e, d2] at d1
    subst d1
    rw [num_inj hl ha' hb' (by omega)]
theorem putB_num {l : List Nat} (h : Byt l) : putB (num l) l.length l.length = l :=
  num_inj (putB_length _ _ _) (Byt.putB _ _ _) h (by rw [num_putB, Nat.mod_eq_of_lt (num_lt l h)])
theorem Rs.num_ok {r : Rs} {m : Nat} (hB : Byt r.l) (h : (r.take m).e = 0) : putB (r.num m) m m ++ (r.take m).l = r.l := by
  obtain ⟨_, h1, h2, h3⟩ := Rs.take_ok h
  have hl : (r.l.take m).length = m := by rw [List.length_take]; omega
  have hp := putB_num (hB.take m)
  rw [hl] at hp
  unfold Rs.num
  rw [h2, h3, hp]
  exact List.take_append_drop m r.l
theorem Rs.hash_ok {r : Rs} (h : (r.take 32).e = 0) : r.hash ++ (r.take 32).l = r.l := by
  obtain ⟨_, h1, h2, h3⟩ := Rs.take_ok h
  rw [h2]
  unfold Rs.hash
  rw [if_neg (by omega)]
  exact List.take_append_drop 32 r.l
theorem Rs.wrong_ne {r : Rs} {c : Nat} (hc : c ≠ 0) : (r.wrong c).e ≠ 0 := by
  unfold Rs.wrong
  split
  · exact hc
  · assumption
theorem Rs.text_ok {r : Rs} {m : Nat} (hB : Byt r.l) (_ : m ≤ 255) (h : (r.textR m).e = 0) :
    r.e = 0 ∧ (r.text m).length ≤ m ∧ putB (r.text m).length 1 1 ++ (r.text m ++ (r.textR m).l) = r.l := by
  have h1 : (r.text1 m).e = 0 := by
    by_cases h0 : (r.text1 m).e = 0
    · exact h0
    · unfold Rs.textR at h; rw [if_neg h0] at h; exact h
  have h2 : ¬ m < r.num 1 := fun hn => by
    unfold Rs.text1 at h1
    rw [if_pos hn] at h1
    exact Rs.wrong_ne (by decide) h1
  have h3 : r.text1 m = r.take 1 := if_neg h2
  have e1 : r.textR m = (r.take 1).take (r.num 1) := by unfold Rs.textR; rw [if_pos h1, h3]
  have e2 : r.text m = (r.take 1).out (r.num 1) := by unfold Rs.text; rw [if_pos h1, h3]
  rw [h3] at h1
  rw [e1] at h
  obtain ⟨a1, a2, a3, a4⟩ := Rs.take_ok h1
  obtain ⟨b1, b2, b3, b4⟩ := Rs.take_ok h
  have hn := Rs.num_ok hB h1
  rw [e1, e2, b4, b3]
  have hl : ((r.take 1).l.take (r.num 1)).length = r.num 1 := by rw [List.length_take]; omega
  rw [hl]
  refine ⟨a1, by omega, ?_⟩
  simp only
  rw [List.take_append_drop]
  exact hn
theorem Rs.end_ok {r : Rs} (h : r.end = 0) : r.e = 0 ∧ r.l = [] := by
  unfold Rs.end at h
  split at h
  · cases h
  · rename_i hn
    refine ⟨h, ?_⟩
    cases hl : r.l with
    | nil => rfl
    | cons x l => exact absurd ⟨h, by rw [hl]; simp⟩ hn
/-! ### texts of a bound -/
theorem num_one {n : Nat} (h : n < 256) (l : List Nat) : (Rs.mk 0 (putB n 1 1 ++ l)).num 1 = n := by
  unfold Rs.num
  rw [(take_app (putB_length _ _ _)).2, num_putB]
  omega
theorem textR_appm {t b : List Nat} {m : Nat} (h : t.length ≤ m) (hm : m ≤ 255) : (Rs.mk 0 (textW t ++ b)).textR m = ⟨0, b⟩ ∧ (Rs.mk 0 (textW t ++ b)).text m = t := by
  have hw : textW t ++ b = putB t.length 1 1 ++ (t ++ b) := by unfold textW; rw [if_pos (by omega), List.append_assoc]
  rw [hw]
  have hn := num_one (n := t.length) (by omega) (t ++ b)
  have h1 : (Rs.mk 0 (putB t.length 1 1 ++ (t ++ b))).text1 m = ⟨0, t ++ b⟩ := by
    unfold Rs.text1
    rw [hn, if_neg (by omega), (take_app (putB_length _ _ _)).1]
  constructor
  · unfold Rs.textR
    rw [h1, hn, if_pos rfl, (take_app rfl).1]
  · unfold Rs.text
    rw [h1, hn, if_pos rfl, (take_app rfl).2]
theorem num_app {n k : Nat} (hn : n < 256 ^ k) (b : List Nat) : (Rs.mk 0 (putB n k k ++ b)).num k = n := by
  unfold Rs.num
  rw [(take_app (putB_length _ _ _)).2, num_putB, Nat.mod_eq_of_lt hn]
theorem num_app1 {n k : Nat} (hn : n < 256 ^ k) : (Rs.mk 0 (putB n k k)).num k = n := by
  have := num_app hn []
  rwa [List.append_nil] at this
theorem take_app1 {a : List Nat} {m : Nat} (h : a.length = m) : (Rs.mk 0 a).take m = ⟨0, []⟩ := by
  have := (take_app (b := []) h).1
  rwa [List.append_nil] at this
theorem text_le (r : Rs) (m : Nat) : (r.text m).length ≤ r.l.length := text_len r m
theorem text_bound {r : Rs} {m : Nat} (hB : Byt r.l) : (r.text m).length ≤ 255 := by
  have hn := Rs.num_lt hB (Nat.le_refl 1)
  unfold Rs.text
  split
  · have := out_length_le (r.text1 m) (r.num 1); omega
  · simp
theorem Byt.text {r : Rs} (h : Byt r.l) (m : Nat) : Byt (r.text m) := by
  have h1 : Byt (r.text1 m).l := by
    unfold Rs.text1; split
    · exact (h.rtake 1).wrong 4
    · exact h.rtake 1
  unfold Rs.text; split
  · exact h1.out _
  · exact Byt.nil
end Go.Alm

/- Layer 9, plainly: states come back from their bytes, and bytes from their states. -/
namespace Go.Alm
open Go Go.RowKit
theorem stAt22 (l : List Nat) : stAt l 22 = ⟨(rsAt l 0).hash, (rsAt l 1).hash, (rsAt l 2).hash, (rsAt l 3).num 4, (rsAt l 4).num 4, (rsAt l 5).num 4, ⟨(rsAt l 6).num 4, ⟨(rsAt l 7).num 4, [(rsAt l 8).num 4, (rsAt l 9).num 4, (rsAt l 10).num 4, (rsAt l 11).num 4]⟩⟩,
    ⟨⟨(rsAt l 12).hash, (rsAt l 13).hash, (rsAt l 14).hash, (rsAt l 15).hash, (rsAt l 16).num 4⟩, ⟨(rsAt l 17).hash, (rsAt l 18).hash, (rsAt l 19).hash, (rsAt l 20).hash, (rsAt l 21).num 4⟩⟩⟩ := by kernel_rfl
theorem part_size {s : SState} (h : s.Ok) (i : Nat) : (s.part i).b.length = psz i := by
  unfold SState.part psz ptsH
  split <;> simp [SPart.b, putB_length, h.prev.len, h.led.len, h.draw.len, h.eps.now.led.len, h.eps.now.seed.len, h.eps.now.start.len, h.eps.now.lock.len, h.eps.next.led.len, h.eps.next.seed.len, h.eps.next.start.len, h.eps.next.lock.len]
  all_goals (split <;> simp_all)
theorem rs_pre {s : SState} (h : s.Ok) (u : List Nat) : ∀ k, rsAt (s.pre k ++ u) k = ⟨0, u⟩ := by
  have key : ∀ k u, rsAt (s.pre k ++ u) k = ⟨0, u⟩ := by
    intro k
    induction k with
    | zero => intro u; rfl
    | succ k ih =>
      intro u
      simp only [rsAt, SState.pre]
      rw [List.append_assoc, ih]
      exact (take_app (part_size h k)).1
  exact fun k => key k u
theorem pre_split (s : SState) : ∀ (n k : Nat), ∃ t, s.pre (k + n) = s.pre k ++ t
  | 0, k => ⟨[], by simp⟩
  | n + 1, k => by
    obtain ⟨t, ht⟩ := pre_split s n k
    exact ⟨t ++ (s.part (k + n)).b, by rw [← Nat.add_assoc, SState.pre, ht, List.append_assoc]⟩
theorem rs_at {s : SState} (h : s.Ok) (u : List Nat) {i : Nat} (hi : i < 22) : ∃ t, rsAt (s.bytes ++ u) i = ⟨0, (s.part i).b ++ t⟩ := by
  obtain ⟨t, ht⟩ := pre_split s (21 - i) (i + 1)
  rw [show i + 1 + (21 - i) = 22 by omega] at ht
  refine ⟨t ++ u, ?_⟩
  rw [SState.bytes, ht, SState.pre, List.append_assoc, List.append_assoc, rs_pre h]
theorem rs_hash {s : SState} (h : s.Ok) (u : List Nat) {i : Nat} (hi : i < 22) {x : List Nat} (hp : s.part i = .h x) (hx : x.length = 32) : (rsAt (s.bytes ++ u) i).hash = x := by
  obtain ⟨t, ht⟩ := rs_at h u hi
  rw [ht, hp]; exact hash_app hx
theorem rs_num {s : SState} (h : s.Ok) (u : List Nat) {i : Nat} (hi : i < 22) {n : Nat} (hp : s.part i = .n n) (hn : n < 4294967296) : (rsAt (s.bytes ++ u) i).num 4 = n := by
  obtain ⟨t, ht⟩ := rs_at h u hi
  rw [ht, hp]; exact num_app (k := 4) hn t
/-- What is read of a state's bytes is the state. -/
theorem st_back {s : SState} (h : s.Ok) (u : List Nat) : stAt (s.bytes ++ u) 22 = s := by
  have hc := h.win.ring.counts
  rw [stAt22, rs_hash h u (i := 0) (by decide) rfl h.prev.len, rs_hash h u (i := 1) (by decide) rfl h.led.len, rs_hash h u (i := 2) (by decide) rfl h.draw.len, rs_num h u (i := 3) (by decide) rfl h.slot, rs_num h u (i := 4) (by decide) rfl h.len,
    rs_num h u (i := 5) (by decide) rfl h.count, rs_num h u (i := 6) (by decide) rfl h.win.min, rs_num h u (i := 7) (by decide) rfl h.win.ring.last, rs_num h u (i := 8) (by decide) rfl (hc.lt 0), rs_num h u (i := 9) (by decide) rfl (hc.lt 1), rs_num h u (i := 10) (by decide) rfl (hc.lt 2), rs_num h u (i := 11) (by decide) rfl (hc.lt 3),
    rs_hash h u (i := 12) (by decide) rfl h.eps.now.led.len, rs_hash h u (i := 13) (by decide) rfl h.eps.now.seed.len, rs_hash h u (i := 14) (by decide) rfl h.eps.now.start.len, rs_hash h u (i := 15) (by decide) rfl h.eps.now.lock.len, rs_num h u (i := 16) (by decide) rfl h.eps.now.len,
    rs_hash h u (i := 17) (by decide) rfl h.eps.next.led.len, rs_hash h u (i := 18) (by decide) rfl h.eps.next.seed.len, rs_hash h u (i := 19) (by decide) rfl h.eps.next.start.len, rs_hash h u (i := 20) (by decide) rfl h.eps.next.lock.len, rs_num h u (i := 21) (by decide) rfl h.eps.next.len]
  have e : [s.win.ring.counts.getD 0 0, s.win.ring.counts.getD 1 0, s.win.ring.counts.getD 2 0, s.win.ring.counts.getD 3 0] = s.win.ring.counts := getD4 rfl hc.1 rfl rfl rfl rfl
  rw [e]
theorem rs_end {s : SState} (h : s.Ok) (u : List Nat) : rsAt (s.bytes ++ u) 22 = ⟨0, u⟩ := rs_pre h u 22
theorem read_back {s : SState} (h : s.Ok) (k : s.Right) : stE s.bytes = 0 ∧ stRd s.bytes = s := by
  have e1 := rs_end h []
  have e2 := st_back h []
  rw [List.append_nil] at e1 e2
  have := st_good (l := s.bytes) (by rw [e1]; rfl) (by rw [e2]; exact k)
  exact ⟨this.1, by rw [this.2, e2]⟩
theorem read_form {s : SState} (h : s.Ok) (k : ¬ s.Right) : stE s.bytes = 2 ∧ stRd s.bytes = state0 := by
  have e1 := rs_end h []
  have e2 := st_back h []
  rw [List.append_nil] at e1 e2
  exact st_form (l := s.bytes) (by rw [e1]; rfl) (by rw [e2]; exact k)
theorem read_long {s : SState} (h : s.Ok) : stE (s.bytes ++ [0]) = 4 := by
  have e1 := rs_end h [0]
  have := (st_bad (l := s.bytes ++ [0]) (by rw [e1]; decide)).1
  rw [this, e1]; rfl
def psum : Nat → Nat
  | 0 => 0
  | i + 1 => psum i + psz i
theorem pre_psum {s : SState} (h : s.Ok) : ∀ i, (s.pre i).length = psum i
  | 0 => rfl
  | i + 1 => by rw [SState.pre, List.length_append, pre_psum h i, part_size h]; rfl
theorem bytes_len {s : SState} (h : s.Ok) : s.bytes.length = 396 := (pre_psum h 22).trans (by decide)
theorem read_short {s : SState} (h : s.Ok) : stE (s.bytes.take 395) = 3 := by
  have hp : (s.pre 21).length = 392 := (pre_psum h 21).trans (by decide)
  have e : s.bytes.take 395 = s.pre 21 ++ (s.part 21).b.take 3 := by
    show (s.pre 21 ++ (s.part 21).b).take 395 = _
    rw [List.take_append, hp, List.take_of_length_le (by rw [hp]; decide)]
  have e1 : rsAt (s.bytes.take 395) 22 = ⟨3, []⟩ := by
    rw [e]
    show (rsAt (s.pre 21 ++ (s.part 21).b.take 3) 21).take 4 = _
    rw [rs_pre h]
    exact take_cut (by rw [List.length_take, part_size h]; decide)
  have := (st_bad (l := s.bytes.take 395) (by rw [e1]; decide)).1
  rw [this, e1]; rfl
theorem bytes_inj {s t : SState} (hs : s.Ok) (ht : t.Ok) : s.bytes = t.bytes ↔ s = t := ⟨fun e => by
  have e1 := st_back hs []
  have e2 := st_back ht []
  rw [e] at e1
  exact e1.symm.trans e2, fun e => by rw [e]⟩
theorem part22 (l : List Nat) {i : Nat} (hi : i < 22) : ((stAt l 22).part i).b = match ptsH i with | true => (rsAt l i).hash | false => putB ((rsAt l i).num 4) 4 4 := by
  rw [stAt22]
  match i, hi with
  | 0, _ => show (_ : List Nat) = _; kernel_rfl
  | 1, _ => show (_ : List Nat) = _; kernel_rfl
  | 2, _ => show (_ : List Nat) = _; kernel_rfl
  | 3, _ => show (_ : List Nat) = _; kernel_rfl
  | 4, _ => show (_ : List Nat) = _; kernel_rfl
  | 5, _ => show (_ : List Nat) = _; kernel_rfl
  | 6, _ => show (_ : List Nat) = _; kernel_rfl
  | 7, _ => show (_ : List Nat) = _; kernel_rfl
  | 8, _ => show (_ : List Nat) = _; kernel_rfl
  | 9, _ => show (_ : List Nat) = _; kernel_rfl
  | 10, _ => show (_ : List Nat) = _; kernel_rfl
  | 11, _ => show (_ : List Nat) = _; kernel_rfl
  | 12, _ => show (_ : List Nat) = _; kernel_rfl
  | 13, _ => show (_ : List Nat) = _; kernel_rfl
  | 14, _ => show (_ : List Nat) = _; kernel_rfl
  | 15, _ => show (_ : List Nat) = _; kernel_rfl
  | 16, _ => show (_ : List Nat) = _; kernel_rfl
  | 17, _ => show (_ : List Nat) = _; kernel_rfl
  | 18, _ => show (_ : List Nat) = _; kernel_rfl
  | 19, _ => show (_ : List Nat) = _; kernel_rfl
  | 20, _ => show (_ : List Nat) = _; kernel_rfl
  | 21, _ => show (_ : List Nat) = _; kernel_rfl
  | n + 22, h => exact absurd h (by omega)
/-- What was read is what is written. -/
theorem read_write {l : List Nat} (hB : Byt l) (h : stE l = 0) : (stRd l).bytes = l ∧ (stRd l).Right := by
  have he : (rsAt l 22).end = 0 := Classical.byContradiction fun hn => by rw [(st_bad hn).1] at h; exact hn h
  have hR : (stAt l 22).Right := Classical.byContradiction fun hn => by rw [(st_form he hn).1] at h; cases h
  have hg := st_good he hR
  rw [hg.2]
  refine ⟨?_, hR⟩
  obtain ⟨e0, l0⟩ := Rs.end_ok he
  have up : ∀ n, n ≤ 22 → (rsAt l (22 - n)).e = 0 := by
    intro n
    induction n with
    | zero => intro _; exact e0
    | succ n ih =>
      intro hn
      have := ih (by omega)
      rw [show 22 - n = (22 - (n + 1)) + 1 by omega] at this
      exact (Rs.take_ok this).1
  have hpart : ∀ i, i < 22 → ((stAt l 22).part i).b ++ (rsAt l (i + 1)).l = (rsAt l i).l := by
    intro i hi
    have hz : (rsAt l (i + 1)).e = 0 := by
      have := up (22 - (i + 1)) (by omega)
      rwa [show 22 - (22 - (i + 1)) = i + 1 by omega] at this
    rw [part22 l hi]
    cases hp : ptsH i with
    | true =>
      have e : rsAt l (i + 1) = (rsAt l i).take 32 := by simp only [rsAt, psz, hp]
      rw [e] at hz ⊢; exact Rs.hash_ok hz
    | false =>
      have e : rsAt l (i + 1) = (rsAt l i).take 4 := by simp only [rsAt, psz, hp]
      rw [e] at hz ⊢; exact Rs.num_ok (rsAt_byt hB i) hz
  have fin : ∀ n, n ≤ 22 → (stAt l 22).pre n ++ (rsAt l n).l = l := by
    intro n
    induction n with
    | zero => intro _; rfl
    | succ n ih =>
      intro hn
      rw [SState.pre, List.append_assoc, hpart n (by omega)]
      exact ih (by omega)
  have := fin 22 (Nat.le_refl _)
  rw [l0, List.append_nil] at this
  exact this
theorem genesis_right (led : List Nat) : (stateF led).Right :=
  ⟨⟨Nat.le_refl 12, (by decide : ring1.Right)⟩, (by show 0 = 0 / 3; decide), Nat.zero_lt_one, Nat.le_refl 1, Nat.zero_le _, Nat.zero_lt_one, Nat.zero_lt_one, Nat.le_refl 1, Nat.le_refl 1⟩
end Go.Alm

/- Layer 9, plainly: what the document fixes of a first state. -/
namespace Go.Alm
open Go Go.RowKit
theorem read_nil : stE [] = 3 ∧ stRd [] = state0 := by
  have h : (rsAt [] 22).end = 3 := by kernel_rfl
  have := st_bad (l := []) (by rw [h]; decide)
  exact ⟨this.1.trans h, this.2⟩
set_option maxRecDepth 100000 in
theorem st_nz : (stH (stateF (hlit 5))).getD 0 0 = 91 := by kernel_rfl
theorem bind_var {α : Type} (x : α) {C : Prop} (k : ∀ y, y = x → C) : C := k x rfl
def SState.b0 (s : SState) : List Nat := s.bytes ++ [0]
theorem b0_long {s : SState} (h : s.Ok) : stE s.b0 = 4 := read_long h
theorem b0_len {s : SState} (h : s.Ok) : s.b0.length = 397 := by rw [SState.b0, List.length_append, bytes_len h]; rfl
theorem b0_byt {s : SState} (h : s.Ok) : Byt s.b0 := fun x hx => by
  rcases List.mem_append.1 hx with hx | hx
  · exact bytes_byt h x hx
  · rw [List.mem_singleton.1 hx]; decide
end Go.Alm

/- Arrays within blocks, by numbers that are reckoned. -/
namespace Go.Alm
open Go Go.RowKit
section
variable {P : Program} {Q : Exit → Act → World → Prop} {L : List Iv} {s : St} {RO FZ OW : List Rc}
theorem m_ixA (n b off sz N k : Nat) (kd : IntKind) (hk : k < N) (kk : J P Q L (nx (go P n s) (.pointer (some ⟨b, off + k * sz, none⟩))) RO FZ OW)
    (h1 : ixX (go P n s) = .pointer (some ⟨b, off, none⟩) := by kernel_rfl) (h2 : ixI (go P n s) = .int kd (k : Int) := by kernel_rfl)
    (hc : ((idxAOf (cur (go P n s)).op).isSome && (arrLen P (ixT (go P n s)) == some N) && (elemSz P (ixT (go P n s)) == some sz) && onW (go P n s)) = true := by kernel_rfl) : J P Q L s RO FZ OW := by
  simp only [Bool.and_eq_true, beq_iff_eq] at hc
  obtain ⟨⟨⟨h4, h5⟩, h6⟩, h8⟩ := hc
  refine m_p n _ (fun w => ?_) kk h8
  have ho : idxAOf (cur (go P n s)).op = some (ixT (go P n s), ((idxAOf (cur (go P n s)).op).getD (0, .tmp 0, .tmp 0)).2.1, ((idxAOf (cur (go P n s)).op).getD (0, .tmp 0, .tmp 0)).2.2) := by
    unfold ixT
    cases hl : idxAOf (cur (go P n s)).op with
    | none => rw [hl] at h4; cases h4
    | some x => rfl
  exact run_idx_arr _ _ _ sz b off N kd k ho h5 h6 h1 h2 hk
theorem m_ldA (n i b p te : Nat) (c : Array Value) (u : Value) (hu : c[p]? = some u) (k : J P Q L (nx (go P n s) u) RO FZ OW)
    (h1 : (go P n s).a.eval (ldX (go P n s)) = .pointer (some ⟨b, p, none⟩) := by kernel_rfl) (h3 : gr (RO ++ (FZ ++ OW)) i = .blk b c te := by kernel_rfl)
    (hc : ((loadOf (cur (go P n s)).op).isSome && (rowed P (ldT (go P n s)) == some false) && (onW (go P n s) && rdOk (go P n s) i (RO ++ FZ).length)) = true := by kernel_rfl) : J P Q L s RO FZ OW := by
  simp only [Bool.and_eq_true, beq_iff_eq] at hc
  obtain ⟨⟨h4, h5⟩, h8, h9⟩ := hc
  have ho : loadOf (cur (go P n s)).op = some (ldT (go P n s), ldX (go P n s)) := by
    unfold ldT ldX
    cases hl : loadOf (cur (go P n s)).op with
    | none => rw [hl] at h4; cases h4
    | some x => rfl
  refine m_r n i u (fun w hA => ?_) k h8 h9
  rw [h3] at hA
  refine run_loadC _ _ ⟨b, p, none⟩ u ho h5 h1 ?_
  rw [cell_of_row w b p c te _ hA]
  exact hu
theorem m_stA (n i b p te : Nat) (c c' : Array Value) (v : Value) (hp : p + 1 ≤ c.size) (he : spl c p #[v] = c') (hv : v.cells = #[v] ∧ v.oneCell' = true) (k : J P Q L (nx (go P n s) undef) RO FZ (OW.set i (.blk b c' te)))
    (h1 : (go P n s).a.eval (stX (go P n s)) = .pointer (some ⟨b, p, none⟩) := by kernel_rfl) (hy : stY (go P n s) = v := by kernel_rfl) (h3 : gr OW i = .blk b c te := by kernel_rfl)
    (hc : ((storeOf (cur (go P n s)).op).isSome && (sizeT P (stT (go P n s)) == some 1) && (acts (go P n s) && onW (go P n s))) = true := by kernel_rfl) : J P Q L s RO FZ OW := by
  simp only [Bool.and_eq_true, beq_iff_eq] at hc
  obtain ⟨⟨h4, h5⟩, h8⟩ := hc
  have hi : OW[i]? = some (.blk b c te) := by rw [← h3]; exact gr_some (by rw [h3]; rfl)
  refine m_act n (fun w hw _ => ?_) (by rw [Bool.and_eq_true]; exact h8)
  have hA : w.heap[b]? = some (.cells c te (0, 0)) := hw.a (.blk b c te) (by simp only [List.mem_append]; exact .inr (.inr (List.mem_of_getElem? hi)))
  have ho : storeOf (cur (go P n s)).op = some (stT (go P n s), stX (go P n s), ((storeOf (cur (go P n s)).op).getD (0, .tmp 0, .tmp 0)).2.2) := by
    unfold stT stX
    cases hl : storeOf (cur (go P n s)).op with
    | none => rw [hl] at h4; cases h4
    | some x => rfl
  refine op_store1 _ _ _ b p v c te c' ho h1 hy hv.1 hv.2 hA h5 (Nat.ble_eq_true_of_le hp) he fun w' hb hz F => ⟨_, _, rfl, Hs.set (r' := .blk b c' te) hw hi F hb (New.refl _ _), k⟩
end
theorem RRing.get {r : RRing} {k : Nat} (h : k < 4) : r.cells[1 + k * 1]? = some (.int .u32 ((r.counts.getD k 0 : Nat) : Int)) := by
  match k, h with
  | 0, _ => rfl
  | 1, _ => rfl
  | 2, _ => rfl
  | 3, _ => rfl
theorem N4.set {l : List Nat} (h : N4 l) (k : Nat) {v : Nat} (hv : v < 4294967296) : N4 (l.set k v) := ⟨by rw [List.length_set]; exact h.1, fun x hx => by
  rcases List.mem_or_eq_of_mem_set hx with h1 | h1
  · exact h.2 x h1
  · rw [h1]; exact hv⟩
theorem RRing.put {last : Nat} {l : List Nat} {k v : Nat} (hl : l.length = 4) (h : k < 4) : spl (RRing.cells ⟨last, l⟩) (1 + k * 1) #[.int .u32 (v : Int)] = RRing.cells ⟨last, l.set k v⟩ := by
  match l, hl, k, h with
  | [_, _, _, _], _, 0, _ => rfl
  | [_, _, _, _], _, 1, _ => rfl
  | [_, _, _, _], _, 2, _ => rfl
  | [_, _, _, _], _, 3, _ => rfl
end Go.Alm

/- Layer 12's keys by their cells; comparing, step by step. -/
namespace Go.Alm
open Go Go.RowKit
def OKey.cells (k : OKey) : Array Value := aj (aj #[.int .u32 (k.len : Int)] (hv k.draw)) (hv k.hash)
theorem OKey.size (k : OKey) : k.cells.size = 65 := by rw [OKey.cells, aj_size, aj_size, hv_size, hv_size]; rfl
theorem OKey.wf {k : OKey} (h : k.Ok) : WfA k.cells := ((WfA.lit (l := [.int .u32 (k.len : Int)]) ⟨wf_n32 h.len, trivial⟩).app h.draw.wf).app h.hash.wf
theorem OKey.inj {x y : OKey} (h : x.Ok) (k : y.Ok) : x.cells = y.cells ↔ x = y := ⟨fun e => by
  unfold OKey.cells at e
  obtain ⟨e, e3⟩ := aj_inj (by simp [aj_size, hv_size]) e
  obtain ⟨e1, e2⟩ := aj_inj (by simp) e
  have e1 := lit1_inj e1
  have e2 := (hv_iff h.draw.len k.draw.len).1 e2
  have e3 := (hv_iff h.hash.len k.hash.len).1 e3
  cases x; cases y
  simp_all, fun e => by rw [e]⟩
theorem h32lit {l : List Nat} (h : (Nat.beq l.length 32 && l.all (fun x => Nat.blt x 256)) = true) : H32 l := by
  rw [Bool.and_eq_true] at h
  exact ⟨Nat.eq_of_beq_eq_true h.1, fun x hx => by simpa using List.all_eq_true.1 h.2 x hx⟩
theorem hv_get (l : List Nat) {i : Nat} (h : i < 32) : (hv l)[0 + i * 1]? = some (.int .u8 ((l.getD i 0 : Nat) : Int)) := by
  simp [hv, h]
theorem drop_cons {l : List Nat} {i : Nat} (h : i < l.length) : l.drop i = l.getD i 0 :: l.drop (i + 1) := by
  rw [List.drop_eq_getElem_cons h, List.getD_eq_getElem?_getD, List.getElem?_eq_getElem h]; rfl
theorem cmpL_drop {a b : List Nat} {i : Nat} (ha : i < a.length) (hb : i < b.length) : cmpL (a.drop i) (b.drop i) = if a.getD i 0 < b.getD i 0 then -1 else if b.getD i 0 < a.getD i 0 then 1 else cmpL (a.drop (i + 1)) (b.drop (i + 1)) := by
  rw [drop_cons ha, drop_cons hb, cmpL]
theorem cmpL_end {a b : List Nat} {i : Nat} (ha : a.length ≤ i) : cmpL (a.drop i) (b.drop i) = 0 := by
  rw [List.drop_eq_nil_of_le ha]; rfl
theorem cmpN_lt {x y : Nat} (h : x < y) : cmpN x y = -1 := if_pos h
theorem cmpN_gt {x y : Nat} (h : y < x) : cmpN x y = 1 := by unfold cmpN; rw [if_neg (by omega), if_pos h]
theorem cmpN_eq {x y : Nat} (h : x = y) : cmpN x y = 0 := by unfold cmpN; rw [if_neg (by omega), if_neg (by omega)]
theorem cmpN_0 {x y : Nat} (h : cmpN x y = 0) : x = y := by
  unfold cmpN at h
  split at h
  · cases h
  · split at h
    · cases h
    · omega
theorem cmpL_hit {a b : List Nat} {i : Nat} (ha : i < a.length) (hb : i < b.length) (hx : cmpL a b = cmpL (a.drop i) (b.drop i)) (h : ¬ cmpN (a.getD i 0) (b.getD i 0) = 0) : cmpN (a.getD i 0) (b.getD i 0) = cmpL a b := by
  rw [hx, cmpL_drop ha hb]
  unfold cmpN at h ⊢
  split
  · rfl
  · split
    · rfl
    · rename_i h1 h2; rw [if_neg h1, if_neg h2] at h; exact absurd rfl h
theorem cmpL_miss {a b : List Nat} {i : Nat} (ha : i < a.length) (hb : i < b.length) (hx : cmpL a b = cmpL (a.drop i) (b.drop i)) (h : cmpN (a.getD i 0) (b.getD i 0) = 0) : cmpL a b = cmpL (a.drop (i + 1)) (b.drop (i + 1)) := by
  have := cmpN_0 h
  rw [hx, cmpL_drop ha hb, if_neg (by omega), if_neg (by omega)]
theorem cmpK_lt {a b : OKey} (h : a.len < b.len) : cmpK a b = -1 := if_pos h
theorem cmpK_gt {a b : OKey} (h : b.len < a.len) : cmpK a b = 1 := by unfold cmpK; rw [if_neg (by omega), if_pos h]
theorem cmpK_d {a b : OKey} (h : a.len = b.len) (hd : ¬ cmpL a.draw b.draw = 0) : cmpK a b = cmpL a.draw b.draw := by unfold cmpK; rw [if_neg (by omega), if_neg (by omega), if_pos hd]
theorem cmpK_h {a b : OKey} (h : a.len = b.len) (hd : cmpL a.draw b.draw = 0) : cmpK a b = cmpL a.hash b.hash := by unfold cmpK; rw [if_neg (by omega), if_neg (by omega), if_neg (by rw [hd]; decide)]
theorem cmpK_n1 {a b : OKey} (h : ¬ cmpN a.len b.len = 0) : cmpN a.len b.len = cmpK a b := by
  rcases Nat.lt_trichotomy a.len b.len with h1 | h1 | h1
  · rw [cmpN_lt h1, cmpK_lt h1]
  · exact absurd (cmpN_eq h1) h
  · rw [cmpN_gt h1, cmpK_gt h1]
theorem AllOk.take {l : List OKey} (h : AllOk l) (n : Nat) : AllOk (l.take n) := fun x hx => h x (List.mem_of_mem_take hx)
theorem grtN_take (l : List OKey) : ∀ {n : Nat}, n ≤ l.length → grtN (l.take n) n = grtN l n := by
  have key : ∀ (m n : Nat), n ≤ m → m ≤ l.length → grtN (l.take m) n = grtN l n := by
    intro m n
    induction n with
    | zero => intros; rfl
    | succ i ih =>
      intro h1 h2
      have g : ∀ j, j < m → (l.take m).getD j default = l.getD j default := fun j hj => by
        rw [List.getD_eq_getElem?_getD, List.getD_eq_getElem?_getD, List.getElem?_take, if_pos hj]
      unfold grtN
      rw [ih (by omega) h2, g i (by omega)]
      by_cases hn : grtN l i < 0
      · rw [if_pos (.inl hn), if_pos (.inl hn)]
      · have : ∀ k, grtN l k < (k : Int) ∨ k = 0 := by
          intro k
          induction k with
          | zero => exact .inr rfl
          | succ k ih =>
            left; unfold grtN; split
            · omega
            · rcases ih with h | h
              · omega
              · subst h; simp [grtN]
        rw [g (grtN l i).toNat (by rcases this i with h | h; omega; subst h; simp [grtN] at hn)]
  exact fun {_} hn => key _ _ (Nat.le_refl _) hn
theorem rng_i64 {x : Int} (h : x = -1 ∨ x = 0 ∨ x = 1) : IntKind.i64.wrap (-x) = -x := wrapN_i64 (by omega) (by omega)
end Go.Alm

/- Records out of a row's reading: layers 9 and 12; slices of records. -/
namespace Go.Alm
open Go Go.RowKit Go.ChangeShapes Go.WideShapes Go.ChangeAt
section
variable {H : Type} {enc : TypeId × Value → H} {P : Program} {w : World} {base : Nat} {sp : Nat → Bool} {held : Bool} {fuel t e : Nat} {cs : List Value} {x : DataW H × List MemPlace}
structure IsC4 (P : Program) (t e : Nat) : Prop where
  u : P.underlying t = some (.array 4 e)
  n : IsI P .u32 e
  z : P.cellsOf e = 1
  s : P.cellsOf t = 4
theorem c4_of (h : IsC4 P t e) (ht : DataW.trod enc P w base sp held fuel t cs = some x) : ∃ l, N4 l ∧ cs = (c4 l).toList := by
  obtain ⟨xs, m, _, _, hlen, hxl, hget⟩ := DataW.trod_array h.u ht
  rw [h.s] at hlen
  have key : ∀ i, i < 4 → ∃ q : Nat, q < 4294967296 ∧ cs[i]? = some (.int .u32 (q : Int)) := fun i hi => by
    have h1 := hget i hi
    have hs : (xs[i]?).isSome = true := by simp [hxl, hi]
    obtain ⟨y, hy⟩ := Option.isSome_iff_exists.1 hs
    rw [hy] at h1
    obtain ⟨n, hn, hc⟩ := u32_of h.n h1
    rw [h.z, Nat.mul_one] at hc
    have hi' : i < cs.length := by omega
    rw [List.drop_eq_getElem_cons hi'] at hc
    simp only [List.take_succ_cons, List.take_zero, List.cons.injEq, and_true] at hc
    exact ⟨n, hn, by rw [← hc]; simp [hi']⟩
  obtain ⟨a, ha, ea⟩ := key 0 (by decide)
  obtain ⟨b, hb, eb⟩ := key 1 (by decide)
  obtain ⟨c, hc, ec⟩ := key 2 (by decide)
  obtain ⟨d, hd, ed⟩ := key 3 (by decide)
  refine ⟨[a, b, c, d], ⟨rfl, fun x hx => ?_⟩, ?_⟩
  · simp only [List.mem_cons, List.not_mem_nil, or_false] at hx
    rcases hx with rfl | rfl | rfl | rfl <;> assumption
  · match cs, hlen, ea, eb, ec, ed with
    | [_, _, _, _], _, ea, eb, ec, ed =>
      simp only [List.getElem?_cons_zero, List.getElem?_cons_succ, Option.some.injEq] at ea eb ec ed
      subst ea eb ec ed
      rfl
structure IsRing (P : Program) (t tc tn : Nat) : Prop where
  s : IsS P t [(tn, 0), (tc, 1)]
  c : IsC4 P tc tn
theorem ring_of {tc tn : Nat} (k : IsRing P t tc tn) (ht : DataW.trod enc P w base sp held fuel t cs = some x) : ∃ y : RRing, y.Ok ∧ cs = y.cells.toList := by
  obtain ⟨_, _, _, _, h1, r1, rfl⟩ := (parts_of k.s ht).inv
  obtain ⟨_, _, _, _, h2, r2, rfl⟩ := r1.inv
  obtain rfl := r2.end
  obtain ⟨n, hn, rfl⟩ := u32_of k.c.n h1
  obtain ⟨l, hl, rfl⟩ := c4_of k.c h2
  exact ⟨⟨n, l⟩, ⟨hn, hl⟩, rfl⟩
structure IsWin (P : Program) (t tr tc tn : Nat) : Prop where
  s : IsS P t [(tn, 0), (tr, 1)]
  r : IsRing P tr tc tn
theorem win_of {tr tc tn : Nat} (k : IsWin P t tr tc tn) (ht : DataW.trod enc P w base sp held fuel t cs = some x) : ∃ y : RWin, y.Ok ∧ cs = y.cells.toList := by
  obtain ⟨_, _, _, _, h1, r1, rfl⟩ := (parts_of k.s ht).inv
  obtain ⟨_, _, _, _, h2, r2, rfl⟩ := r1.inv
  obtain rfl := r2.end
  obtain ⟨n, hn, rfl⟩ := u32_of k.r.c.n h1
  obtain ⟨y, hy, rfl⟩ := ring_of k.r h2
  exact ⟨⟨n, y⟩, ⟨hn, hy⟩, rfl⟩
structure IsState (P : Program) (t th e tn tw tr tc tp td : Nat) : Prop where
  s : IsS P t [(th, 0), (th, 32), (th, 64), (tn, 96), (tn, 97), (tn, 98), (tw, 99), (tp, 105)]
  h : IsH P th e
  n : IsI P .u32 tn
  w : IsWin P tw tr tc tn
  p : IsPair P tp td th e tn
theorem st_cells (a b c : List Nat) (d f g : Nat) (u : RWin) (v : EPair) : (SState.cells ⟨a, b, c, d, f, g, u, v⟩).toList = (hv a).toList ++ ((hv b).toList ++ ((hv c).toList ++ ([.int .u32 (d : Int)] ++ ([.int .u32 (f : Int)] ++ ([.int .u32 (g : Int)] ++ (u.cells.toList ++ (v.cells.toList ++ []))))))) := by
  have h : ∀ A B C U V : Array Value, ∀ x y z : Value, (aj (aj (aj (aj (aj A B) C) #[x, y, z]) U) V).toList = A.toList ++ (B.toList ++ (C.toList ++ ([x] ++ ([y] ++ ([z] ++ (U.toList ++ (V.toList ++ []))))))) := by
    intro A B C U V x y z
    simp only [aj_toList, List.append_assoc, List.append_nil, List.cons_append, List.nil_append]
  exact h _ _ _ _ _ _ _ _
theorem state_of {th tn tw tr tc tp td : Nat} (k : IsState P t th e tn tw tr tc tp td) (ht : DataW.trod enc P w base sp held fuel t cs = some x) : ∃ y : SState, y.Ok ∧ cs = y.cells.toList := by
  obtain ⟨_, _, _, _, h1, r1, rfl⟩ := (parts_of k.s ht).inv
  obtain ⟨_, _, _, _, h2, r2, rfl⟩ := r1.inv
  obtain ⟨_, _, _, _, h3, r3, rfl⟩ := r2.inv
  obtain ⟨_, _, _, _, h4, r4, rfl⟩ := r3.inv
  obtain ⟨_, _, _, _, h5, r5, rfl⟩ := r4.inv
  obtain ⟨_, _, _, _, h6, r6, rfl⟩ := r5.inv
  obtain ⟨_, _, _, _, h7, r7, rfl⟩ := r6.inv
  obtain ⟨_, _, _, _, h8, r8, rfl⟩ := r7.inv
  obtain rfl := r8.end
  obtain ⟨a, ha, e1⟩ := hash_of k.h h1
  obtain ⟨b, hb, e2⟩ := hash_of k.h h2
  obtain ⟨c, hc, e3⟩ := hash_of k.h h3
  obtain ⟨d, hd, e4⟩ := u32_of k.n h4
  obtain ⟨f, hf, e5⟩ := u32_of k.n h5
  obtain ⟨g, hg, e6⟩ := u32_of k.n h6
  obtain ⟨u, hu, e7⟩ := win_of k.w h7
  obtain ⟨v, hw, e8⟩ := pair_of k.p h8
  refine ⟨⟨a, b, c, d, f, g, u, v⟩, ⟨ha, hb, hc, hd, hf, hg, hu, hw⟩, ?_⟩
  rw [e1, e2, e3, e4, e5, e6, e7, e8]
  exact (st_cells _ _ _ _ _ _ _ _).symm
structure IsKey (P : Program) (t th e tn : Nat) : Prop where
  s : IsS P t [(tn, 0), (th, 1), (th, 33)]
  h : IsH P th e
  n : IsI P .u32 tn
theorem key_of {th tn : Nat} (k : IsKey P t th e tn) (ht : DataW.trod enc P w base sp held fuel t cs = some x) : ∃ y : OKey, y.Ok ∧ cs = y.cells.toList := by
  obtain ⟨_, _, _, _, h1, r1, rfl⟩ := (parts_of k.s ht).inv
  obtain ⟨_, _, _, _, h2, r2, rfl⟩ := r1.inv
  obtain ⟨_, _, _, _, h3, r3, rfl⟩ := r2.inv
  obtain rfl := r3.end
  obtain ⟨a, ha, rfl⟩ := u32_of k.n h1
  obtain ⟨b, hb, rfl⟩ := hash_of k.h h2
  obtain ⟨c, hc, rfl⟩ := hash_of k.h h3
  exact ⟨⟨a, b, c⟩, ⟨ha, hb, hc⟩, by unfold OKey.cells; simp only [aj_toList, List.append_assoc, List.append_nil]⟩
structure IsStep (P : Program) (t th e tn : Nat) : Prop where
  s : IsS P t [(tn, 0), (th, 1), (th, 33), (th, 65)]
  h : IsH P th e
  n : IsI P .u32 tn
theorem step_of {th tn : Nat} (k : IsStep P t th e tn) (ht : DataW.trod enc P w base sp held fuel t cs = some x) : ∃ y : EStep, y.Ok ∧ cs = y.cells.toList := by
  obtain ⟨_, _, _, _, h1, r1, rfl⟩ := (parts_of k.s ht).inv
  obtain ⟨_, _, _, _, h2, r2, rfl⟩ := r1.inv
  obtain ⟨_, _, _, _, h3, r3, rfl⟩ := r2.inv
  obtain ⟨_, _, _, _, h4, r4, rfl⟩ := r3.inv
  obtain rfl := r4.end
  obtain ⟨a, ha, rfl⟩ := u32_of k.n h1
  obtain ⟨b, hb, rfl⟩ := hash_of k.h h2
  obtain ⟨c, hc, rfl⟩ := hash_of k.h h3
  obtain ⟨d, hd, rfl⟩ := hash_of k.h h4
  exact ⟨⟨a, b, c, d⟩, ⟨ha, hb, hc, hd⟩, by unfold EStep.cells; simp only [aj_toList, List.append_assoc, List.append_nil]⟩
/-- A slice of records. -/
theorem recs_of_trod {X : Type} {f : X → Array Value} {Ok : X → Prop} {sz : Nat} (hsz : ∀ y, (f y).size = sz) (hp : 0 < sz) (ht : P.underlying t = some (.slice e)) (ze : P.cellsOf e = sz)
    (el : ∀ (fu : Nat) (c : List Value) (y : DataW H × List MemPlace), DataW.trod enc P w base sp held fu e c = some y → ∃ z : X, Ok z ∧ c = (f z).toList)
    (h : DataW.trod enc P w base sp held fuel t cs = some x) : ∃ (ao : Option Addr) (l : List X) (cap : Nat), cs = [.slice ao l.length cap] ∧ Rd w ao (RL f l) ∧ (∀ y ∈ l, Ok y) ∧ l.length ≤ cap ∧ cap ≤ maxLen := by
  rcases DataW.trod_slice ht h with ⟨rfl, _⟩ | ⟨a, len, cap, elems, rest, n, _, rfl, _, _, hlc, hcm, hel, hget, _⟩
  · exact ⟨none, [], 0, rfl, Rd.nil _ _, fun _ h => (by cases h), Nat.le_refl _, Nat.zero_le _⟩
  · have key : ∀ i, i < len → ∃ y : X, Ok y ∧ ∀ j, j < sz → w.cell? ((a.add (i * sz)).add j) = (f y).toList[j]? := fun i hi' => by
      have h1 := hget i hi'
      have hs : (elems[i]?).isSome = true := by simp [hel, hi']
      obtain ⟨c, hc, hy⟩ := some_of_bind h1 hs
      obtain ⟨y, hy'⟩ := Option.isSome_iff_exists.1 hs
      rw [hy'] at hy
      obtain ⟨z, ok, ez⟩ := el _ _ _ hy
      rw [ze] at hc
      have hcc := (World.cells?_some hc).2.2
      rw [ez] at hcc
      exact ⟨z, ok, hcc⟩
    have build : ∀ m, m ≤ len → ∃ l : List X, l.length = m ∧ (∀ y ∈ l, Ok y) ∧ ∀ i, i < m → ∃ y, l[i]? = some y ∧ ∀ j, j < sz → w.cell? ((a.add (i * sz)).add j) = (f y).toList[j]? := by
      intro m
      induction m with
      | zero => exact fun _ => ⟨[], rfl, fun _ h => (by cases h), fun i hi => absurd hi (by omega)⟩
      | succ m ih =>
        intro hm
        obtain ⟨l, hl, hok, hg⟩ := ih (by omega)
        obtain ⟨y, hy, hc⟩ := key m (by omega)
        refine ⟨l ++ [y], by simp [hl], fun z hz => ?_, fun i hi => ?_⟩
        · rcases List.mem_append.1 hz with hz | hz
          · exact hok z hz
          · rw [List.mem_singleton.1 hz]; exact hy
        · rcases Nat.lt_or_ge i m with h1 | h1
          · obtain ⟨z, hz, hc'⟩ := hg i h1
            exact ⟨z, by rw [List.getElem?_append_left (by omega)]; exact hz, hc'⟩
          · have : i = m := by omega
            subst this
            exact ⟨y, by rw [List.getElem?_append_right (by omega)]; simp [hl], hc⟩
    obtain ⟨l, hl, hok, hg⟩ := build len (Nat.le_refl _)
    subst hl
    refine ⟨some a, l, cap, rfl, fun j u hj => ?_, hok, hlc, hcm⟩
    have hjl := (List.getElem?_eq_some_iff.1 hj).1
    rw [RL_length hsz] at hjl
    have hdiv : j / sz < l.length := (Nat.div_lt_iff_lt_mul hp).2 hjl
    obtain ⟨y, hy, hc⟩ := hg _ hdiv
    have hm : j % sz < sz := Nat.mod_lt _ hp
    refine ⟨a, rfl, ?_⟩
    have hdm : j / sz * sz + j % sz = j := by rw [Nat.mul_comm]; exact Nat.div_add_mod j sz
    have e1 : (a.add (j / sz * sz)).add (j % sz) = a.add j := by rw [add_add, hdm]
    have hc := hc _ hm
    rw [e1] at hc
    rw [hc]
    -- the same cell of the row
    have hw := congrArg (fun q : List Value => q[j % sz]?) (show ((RL f l).drop (j / sz * sz)).take sz = (f y).toList from by
      have hlt : j / sz < l.length := hdiv
      rw [RL_drop hsz, List.drop_eq_getElem_cons hlt, RL]
      have : l[j / sz] = y := by rw [List.getElem?_eq_getElem hlt] at hy; exact Option.some.inj hy
      rw [this, List.take_append_of_le_length (by simp [hsz]), List.take_of_length_le (by simp [hsz])])
    simp only [List.getElem?_take, if_pos hm, List.getElem?_drop, hdm] at hw
    rw [← hw]; exact hj
end
end Go.Alm

/- Slices of slices; rows of records that are appended. -/
namespace Go.Alm
open Go Go.RowKit
section
variable {P : Program} {Q : Exit → Act → World → Prop} {L : List Iv} {s : St} {RO FZ OW : List Rc} {X : Type}
def slOp (s : St) : Nat × Operand × Option Operand × Option Operand × Option Operand := (sliceOf (cur s).op).getD (0, .tmp 0, none, none, none)
def slB (s : St) (x : Option Operand) : Option Value := x.map s.a.eval
theorem m_slc (n sz N c l h m N' C' : Nat) (ao : Option Addr) (hb : l ≤ h ∧ h ≤ m ∧ m ≤ c) (hN : h - l = N') (hC : m - l = C') (k : J P Q L (nx (go P n s) (.slice (cutA ao l m sz) N' C')) RO FZ OW)
    (h1 : (go P n s).a.eval (slOp (go P n s)).2.1 = .slice ao N c := by kernel_rfl) (hlo : boundOf (slB (go P n s) (slOp (go P n s)).2.2.1) 0 = some (l : Int) := by kernel_rfl)
    (hhi : boundOf (slB (go P n s) (slOp (go P n s)).2.2.2.1) N = some (h : Int) := by kernel_rfl) (hmx : boundOf (slB (go P n s) (slOp (go P n s)).2.2.2.2) c = some (m : Int) := by kernel_rfl)
    (hc : ((sliceOf (cur (go P n s)).op).isSome && isSl P (slOp (go P n s)).1 && (elemSz P (slOp (go P n s)).1 == some sz) && !(hasB (slB (go P n s) (slOp (go P n s)).2.2.2.2) && !hasB (slB (go P n s) (slOp (go P n s)).2.2.2.1)) && onW (go P n s)) = true := by kernel_rfl) : J P Q L s RO FZ OW := by
  simp only [Bool.and_eq_true, beq_iff_eq, Bool.not_eq_true'] at hc
  obtain ⟨⟨⟨⟨h4, h5⟩, h6⟩, h7⟩, h8⟩ := hc
  subst hN hC
  refine m_p n _ (fun w => ?_) k h8
  have ho : sliceOf (cur (go P n s)).op = some ((slOp (go P n s)).1, (slOp (go P n s)).2.1, (slOp (go P n s)).2.2.1, (slOp (go P n s)).2.2.2.1, (slOp (go P n s)).2.2.2.2) := by
    unfold slOp
    cases hl : sliceOf (cur (go P n s)).op with
    | none => rw [hl] at h4; cases h4
    | some x => rfl
  exact run_cut _ _ _ _ _ sz ao N c l h m ho h5 h6 h1 hlo hhi hmx h7 hb.1 hb.2.1 hb.2.2
theorem View.cutX {a : Rc} {ao : Option Addr} (l k m sz : Nat) (xs ys : List Value) (hk : m = l → k = 0) (hy : (xs.drop (l * sz)).take (k * sz) = ys) (h : a.isRd = true := by kernel_rfl) (hx : a.xs = xs := by kernel_rfl) (ha : a.ao = ao := by kernel_rfl) : View a (.rd (cutA ao l m sz) ys) := by
  subst hy hx ha
  refine ⟨fun w hA => ⟨Rd.cut (Rc.rd_of h hA) l k m sz hk, fun i hi => Rc.sub_ar h hA i (Sub.cut (fun hn he => hn ?_) i hi)⟩⟩
  rw [he]; simp
theorem B_cut (b : List Nat) (l k : Nat) : ((B b).drop (l * 1)).take (k * 1) = B ((b.drop l).take k) := by
  rw [Nat.mul_one, Nat.mul_one]; simp [B, List.map_drop, List.map_take]
theorem RL_cut {f : X → Array Value} {sz : Nat} (hs : ∀ x, (f x).size = sz) (x : List X) (l k : Nat) : ((RL f x).drop (l * sz)).take (k * sz) = RL f ((x.drop l).take k) := by
  rw [RL_drop hs]
  generalize x.drop l = y
  induction y generalizing k with
  | nil => simp [RL]
  | cons z y ih =>
    cases k with
    | zero => simp [RL]
    | succ k =>
      rw [List.take_succ_cons, RL, RL, Nat.succ_mul, Nat.add_comm (k * sz) sz, ← ih k]
      have : (f z).toList.length = sz := by simp [hs]
      rw [← this, List.take_length_add_append]
theorem SrcW.cutX {sz tx : Nat} {H : List Rc} {xv : Value} {ao : Option Addr} (i l k m c N : Nat) (xs ys : List Value) (hk : m = l → k = 0) (hy : (xs.drop (l * sz)).take (k * sz) = ys) (hN : ys.length = N * sz) (h1 : ∀ u ∈ ys, u.oneCell' = true) (hs : 0 < sz := by decide) (ht : isSl P tx = true := by kernel_rfl)
    (h : (gr H i).isRd = true := by kernel_rfl) (hx : (gr H i).xs = xs := by kernel_rfl) (ha : (gr H i).ao = ao := by kernel_rfl) (hv : xv = .slice (cutA ao l m sz) N c := by kernel_rfl) : SrcW P sz tx H xv N ys := fun w hA => by
  subst hv
  obtain ⟨e, ht⟩ := isSl_spec ht
  exact Rd.src ht ((View.cutX l k m sz xs ys hk hy h hx ha).A w (gr_A hA i)).1 hN hs h1
theorem RL_one {f : X → Array Value} (h : ∀ x, ∀ u ∈ (f x).toList, u.oneCell' = true) : ∀ l : List X, ∀ u ∈ RL f l, u.oneCell' = true
  | [], _, hu => by cases hu
  | x :: l, u, hu => by
    rcases List.mem_append.1 hu with hu | hu
    · exact h x u hu
    · exact RL_one h l u hu
/-- Records are appended. -/
theorem m_appRs (n i e sz bytes : Nat) (f : X → Array Value) (l l2 : List X) (src : SrcW P sz (appTx (go P n s)) (RO ++ (FZ ++ OW.eraseIdx i)) (appX (go P n s)) l2.length (RL f l2)) (hb : l.length + l2.length ≤ maxLen ∧ (l.length + l2.length) * bytes ≤ 140737488355328)
    (k : ∀ ao cap, J P Q L (nx (go P n s) (.slice ao (l ++ l2).length cap)) RO FZ (OW.set i (.row e sz ao (l ++ l2).length cap (RL f (l ++ l2)))))
    (hr : gr OW i = .row e sz (gr OW i).ao l.length (gr OW i).cap (RL f l) := by kernel_rfl) (hv : appS (go P n s) = .slice (gr OW i).ao l.length (gr OW i).cap := by kernel_rfl)
    (hc : (appOk P (go P n s) e sz bytes && (acts (go P n s) && onW (go P n s))) = true := by kernel_rfl) : J P Q L s RO FZ OW := by
  refine m_app n i e sz bytes l.length l2.length (RL f l) (RL f l2) (RL f (l ++ l2)) src hb (RL_append f l l2).symm (fun ao cap => ?_) hr hv hc
  have h := k ao cap
  rw [List.length_append] at h
  exact h
end
theorem dropR_cut {X : Type} {f : X → Array Value} {sz : Nat} (hs : ∀ x, (f x).size = sz) (l : List X) (n : Nat) : ((RL f l).drop (n * sz)).take ((l.length - n) * sz) = RL f (l.drop n) := by
  rw [RL_cut hs, List.take_of_length_le (by rw [List.length_drop]; exact Nat.le_refl _)]
theorem takeR_cut {X : Type} {f : X → Array Value} {sz : Nat} (hs : ∀ x, (f x).size = sz) (l : List X) (n : Nat) : ((RL f l).drop (0 * sz)).take (n * sz) = RL f (l.take n) := by
  rw [RL_cut hs, List.drop_zero]
theorem RL_get0 {X : Type} {f : X → Array Value} {sz : Nat} (hs : ∀ x, (f x).size = sz) (d : X) {l : List X} {k : Nat} (hk : k < l.length) (hm : 0 < sz) {v : Value} (h : (f (l.getD k d)).toList[0]? = some v) : (RL f l)[k * sz]? = some v := by
  have := RL_get (off := 0) hs d hk hm
  rw [Nat.add_zero] at this
  rw [this, h]
end Go.Alm

/- Layer 12, plainly: a turned list has the same greatest key. -/
namespace Go.Alm
open Go Go.RowKit
theorem OKey.one (x : OKey) : ∀ u ∈ x.cells.toList, u.oneCell' = true := by
  have h : x.cells.toList.all (·.oneCell') = true := by kernel_rfl
  exact fun u hu => List.all_eq_true.1 h u hu
theorem getD_mem {l : List OKey} {i : Nat} (h : i < l.length) : l.getD i default ∈ l := by
  rw [List.getD_eq_getElem?_getD, List.getElem?_eq_getElem h]; exact List.getElem_mem h
theorem mem_getD {l : List OKey} {x : OKey} (h : x ∈ l) : ∃ i, i < l.length ∧ l.getD i default = x := by
  obtain ⟨i, hi, e⟩ := List.mem_iff_getElem.1 h
  exact ⟨i, hi, by rw [List.getD_eq_getElem?_getD, List.getElem?_eq_getElem hi]; exact e⟩
def rotL (l : List OKey) (n : Nat) : List OKey := ([] ++ l.drop n) ++ l.take n
theorem rot_mem (l : List OKey) (n : Nat) (x : OKey) : x ∈ rotL l n ↔ x ∈ l := by
  unfold rotL
  rw [List.nil_append, List.mem_append, Or.comm, ← List.mem_append, List.take_append_drop]
theorem rot_ok {l : List OKey} (h : AllOk l) (n : Nat) : AllOk (rotL l n) := fun x hx => h x ((rot_mem l n x).1 hx)
theorem rot_len (l : List OKey) (n : Nat) : (rotL l n).length = l.length := by
  unfold rotL
  rw [List.nil_append, List.length_append, List.length_drop, List.length_take]; omega
theorem rot_same {l : List OKey} (h : AllOk l) {n m m2 : Nat} (hg : IsG l l.length m) (hg2 : IsG (rotL l n) (rotL l n).length m2) : (rotL l n).getD m2 default = l.getD m default := by
  have i1 := (rot_mem l n _).1 (getD_mem hg2.lt)
  obtain ⟨j, hj, e⟩ := mem_getD i1
  have c1 := hg.all j hj
  rw [e] at c1
  obtain ⟨k, hk, e2⟩ := mem_getD ((rot_mem l n _).2 (getD_mem hg.lt))
  have c2 := hg2.all k hk
  rw [e2, cmpK_anti] at c2
  exact cmpK_eq (h _ i1) (h.get hg.lt) (by omega)
theorem drop_cut (l : List OKey) (n : Nat) : ((RL OKey.cells l).drop (n * 65)).take ((l.length - n) * 65) = RL OKey.cells (l.drop n) := by
  rw [RL_cut OKey.size, List.take_of_length_le (by rw [List.length_drop]; exact Nat.le_refl _)]
theorem take_cut' (l : List OKey) (n : Nat) : ((RL OKey.cells l).drop (0 * 65)).take (n * 65) = RL OKey.cells (l.take n) := by
  rw [RL_cut OKey.size, List.drop_zero]
end Go.Alm
