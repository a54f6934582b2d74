/- Plain lemmas and laws of the machine that the walks use; without conditions of their own. -/
import Derived.Test.YtokdfjelilhekaaDoorLib6
import Derived.Test.YtokdfjelilhekaaDoorLib5
/- Layer 9, plainly: the state that bytes are read as. -/
namespace Go.Alm
open Go Go.RowKit
def psz (i : Nat) : Nat := match ptsH i with
  | true => 32
  | false => 4
def rsAt (l : List Nat) : Nat → Rs
  | 0 => ⟨0, l⟩
  | i + 1 => (rsAt l i).take (psz i)
def SState.setP (s : SState) (i : Nat) (h : List Nat) (n : Nat) : SState := match i with
  | 0 => ⟨h, s.led, s.draw, s.slot, s.len, s.count, s.win, s.eps⟩
  | 1 => ⟨s.prev, h, s.draw, s.slot, s.len, s.count, s.win, s.eps⟩
  | 2 => ⟨s.prev, s.led, h, s.slot, s.len, s.count, s.win, s.eps⟩
  | 3 => ⟨s.prev, s.led, s.draw, n, s.len, s.count, s.win, s.eps⟩
  | 4 => ⟨s.prev, s.led, s.draw, s.slot, n, s.count, s.win, s.eps⟩
  | 5 => ⟨s.prev, s.led, s.draw, s.slot, s.len, n, s.win, s.eps⟩
  | 6 => ⟨s.prev, s.led, s.draw, s.slot, s.len, s.count, ⟨n, s.win.ring⟩, s.eps⟩
  | 7 => ⟨s.prev, s.led, s.draw, s.slot, s.len, s.count, ⟨s.win.min, ⟨n, s.win.ring.counts⟩⟩, s.eps⟩
  | 8 => ⟨s.prev, s.led, s.draw, s.slot, s.len, s.count, ⟨s.win.min, ⟨s.win.ring.last, s.win.ring.counts.set 0 n⟩⟩, s.eps⟩
  | 9 => ⟨s.prev, s.led, s.draw, s.slot, s.len, s.count, ⟨s.win.min, ⟨s.win.ring.last, s.win.ring.counts.set 1 n⟩⟩, s.eps⟩
  | 10 => ⟨s.prev, s.led, s.draw, s.slot, s.len, s.count, ⟨s.win.min, ⟨s.win.ring.last, s.win.ring.counts.set 2 n⟩⟩, s.eps⟩
  | 11 => ⟨s.prev, s.led, s.draw, s.slot, s.len, s.count, ⟨s.win.min, ⟨s.win.ring.last, s.win.ring.counts.set 3 n⟩⟩, s.eps⟩
  | 12 => ⟨s.prev, s.led, s.draw, s.slot, s.len, s.count, s.win, ⟨⟨h, s.eps.now.seed, s.eps.now.start, s.eps.now.lock, s.eps.now.len⟩, s.eps.next⟩⟩
  | 13 => ⟨s.prev, s.led, s.draw, s.slot, s.len, s.count, s.win, ⟨⟨s.eps.now.led, h, s.eps.now.start, s.eps.now.lock, s.eps.now.len⟩, s.eps.next⟩⟩
  | 14 => ⟨s.prev, s.led, s.draw, s.slot, s.len, s.count, s.win, ⟨⟨s.eps.now.led, s.eps.now.seed, h, s.eps.now.lock, s.eps.now.len⟩, s.eps.next⟩⟩
  | 15 => ⟨s.prev, s.led, s.draw, s.slot, s.len, s.count, s.win, ⟨⟨s.eps.now.led, s.eps.now.seed, s.eps.now.start, h, s.eps.now.len⟩, s.eps.next⟩⟩
  | 16 => ⟨s.prev, s.led, s.draw, s.slot, s.len, s.count, s.win, ⟨⟨s.eps.now.led, s.eps.now.seed, s.eps.now.start, s.eps.now.lock, n⟩, s.eps.next⟩⟩
  | 17 => ⟨s.prev, s.led, s.draw, s.slot, s.len, s.count, s.win, ⟨s.eps.now, ⟨h, s.eps.next.seed, s.eps.next.start, s.eps.next.lock, s.eps.next.len⟩⟩⟩
  | 18 => ⟨s.prev, s.led, s.draw, s.slot, s.len, s.count, s.win, ⟨s.eps.now, ⟨s.eps.next.led, h, s.eps.next.start, s.eps.next.lock, s.eps.next.len⟩⟩⟩
  | 19 => ⟨s.prev, s.led, s.draw, s.slot, s.len, s.count, s.win, ⟨s.eps.now, ⟨s.eps.next.led, s.eps.next.seed, h, s.eps.next.lock, s.eps.next.len⟩⟩⟩
  | 20 => ⟨s.prev, s.led, s.draw, s.slot, s.len, s.count, s.win, ⟨s.eps.now, ⟨s.eps.next.led, s.eps.next.seed, s.eps.next.start, h, s.eps.next.len⟩⟩⟩
  | _ => ⟨s.prev, s.led, s.draw, s.slot, s.len, s.count, s.win, ⟨s.eps.now, ⟨s.eps.next.led, s.eps.next.seed, s.eps.next.start, s.eps.next.lock, n⟩⟩⟩
def stAt (l : List Nat) : Nat → SState
  | 0 => state0
  | i + 1 => (stAt l i).setP i (rsAt l i).hash ((rsAt l i).num 4)
theorem rsAt_byt {l : List Nat} (h : Byt l) : ∀ i, Byt (rsAt l i).l
  | 0 => h
  | i + 1 => Byt.rtake (rsAt_byt h i) _
theorem rsAt_h32 {l : List Nat} (h : Byt l) (i : Nat) : H32 (rsAt l i).hash := ⟨hash_length _, Byt.hash (rsAt_byt h i)⟩
theorem rsAt_n32 {l : List Nat} (h : Byt l) (i : Nat) : (rsAt l i).num 4 < 4294967296 := Rs.num_lt (rsAt_byt h i) (Nat.le_refl 4)
theorem setP_ok {s : SState} {h : List Nat} {n : Nat} (hs : s.Ok) (hh : H32 h) (hn : n < 4294967296) (i : Nat) : (s.setP i h n).Ok := by
  obtain ⟨h1, h2, h3, h4, h5, h6, ⟨h7, h8, h9⟩, ⟨ha, hb, hc, hd, he⟩, hf, hg, hi, hj, hk⟩ := hs
  have c := fun j => show N4 (s.win.ring.counts.set j n) from ⟨by rw [List.length_set]; exact h9.1, fun x hx => by
    rcases List.mem_or_eq_of_mem_set hx with h1 | h1
    · exact h9.2 x h1
    · rw [h1]; exact hn⟩
  unfold SState.setP
  split
  · exact ⟨hh, h2, h3, h4, h5, h6, ⟨h7, h8, h9⟩, ⟨ha, hb, hc, hd, he⟩, hf, hg, hi, hj, hk⟩
  · exact ⟨h1, hh, h3, h4, h5, h6, ⟨h7, h8, h9⟩, ⟨ha, hb, hc, hd, he⟩, hf, hg, hi, hj, hk⟩
  · exact ⟨h1, h2, hh, h4, h5, h6, ⟨h7, h8, h9⟩, ⟨ha, hb, hc, hd, he⟩, hf, hg, hi, hj, hk⟩
  · exact ⟨h1, h2, h3, hn, h5, h6, ⟨h7, h8, h9⟩, ⟨ha, hb, hc, hd, he⟩, hf, hg, hi, hj, hk⟩
  · exact ⟨h1, h2, h3, h4, hn, h6, ⟨h7, h8, h9⟩, ⟨ha, hb, hc, hd, he⟩, hf, hg, hi, hj, hk⟩
  · exact ⟨h1, h2, h3, h4, h5, hn, ⟨h7, h8, h9⟩, ⟨ha, hb, hc, hd, he⟩, hf, hg, hi, hj, hk⟩
  · exact ⟨h1, h2, h3, h4, h5, h6, ⟨hn, h8, h9⟩, ⟨ha, hb, hc, hd, he⟩, hf, hg, hi, hj, hk⟩
  · exact ⟨h1, h2, h3, h4, h5, h6, ⟨h7, hn, h9⟩, ⟨ha, hb, hc, hd, he⟩, hf, hg, hi, hj, hk⟩
  · exact ⟨h1, h2, h3, h4, h5, h6, ⟨h7, h8, c 0⟩, ⟨ha, hb, hc, hd, he⟩, hf, hg, hi, hj, hk⟩
  · exact ⟨h1, h2, h3, h4, h5, h6, ⟨h7, h8, c 1⟩, ⟨ha, hb, hc, hd, he⟩, hf, hg, hi, hj, hk⟩
  · exact ⟨h1, h2, h3, h4, h5, h6, ⟨h7, h8, c 2⟩, ⟨ha, hb, hc, hd, he⟩, hf, hg, hi, hj, hk⟩
  · exact ⟨h1, h2, h3, h4, h5, h6, ⟨h7, h8, c 3⟩, ⟨ha, hb, hc, hd, he⟩, hf, hg, hi, hj, hk⟩
  · exact ⟨h1, h2, h3, h4, h5, h6, ⟨h7, h8, h9⟩, ⟨hh, hb, hc, hd, he⟩, hf, hg, hi, hj, hk⟩
  · exact ⟨h1, h2, h3, h4, h5, h6, ⟨h7, h8, h9⟩, ⟨ha, hh, hc, hd, he⟩, hf, hg, hi, hj, hk⟩
  · exact ⟨h1, h2, h3, h4, h5, h6, ⟨h7, h8, h9⟩, ⟨ha, hb, hh, hd, he⟩, hf, hg, hi, hj, hk⟩
  · exact ⟨h1, h2, h3, h4, h5, h6, ⟨h7, h8, h9⟩, ⟨ha, hb, hc, hh, he⟩, hf, hg, hi, hj, hk⟩
  · exact ⟨h1, h2, h3, h4, h5, h6, ⟨h7, h8, h9⟩, ⟨ha, hb, hc, hd, hn⟩, hf, hg, hi, hj, hk⟩
  · exact ⟨h1, h2, h3, h4, h5, h6, ⟨h7, h8, h9⟩, ⟨ha, hb, hc, hd, he⟩, hh, hg, hi, hj, hk⟩
  · exact ⟨h1, h2, h3, h4, h5, h6, ⟨h7, h8, h9⟩, ⟨ha, hb, hc, hd, he⟩, hf, hh, hi, hj, hk⟩
  · exact ⟨h1, h2, h3, h4, h5, h6, ⟨h7, h8, h9⟩, ⟨ha, hb, hc, hd, he⟩, hf, hg, hh, hj, hk⟩
  · exact ⟨h1, h2, h3, h4, h5, h6, ⟨h7, h8, h9⟩, ⟨ha, hb, hc, hd, he⟩, hf, hg, hi, hh, hk⟩
  · exact ⟨h1, h2, h3, h4, h5, h6, ⟨h7, h8, h9⟩, ⟨ha, hb, hc, hd, he⟩, hf, hg, hi, hj, hn⟩
theorem stAt_ok {l : List Nat} (h : Byt l) : ∀ i, (stAt l i).Ok
  | 0 => state0_ok
  | i + 1 => setP_ok (stAt_ok h i) (rsAt_h32 h i) (rsAt_n32 h i) i
def stE (l : List Nat) : Nat := if (rsAt l 22).end = 0 then (if (stAt l 22).Right then 0 else 2) else (rsAt l 22).end
def stRd (l : List Nat) : SState := if stE l = 0 then stAt l 22 else state0
theorem stRd_ok {l : List Nat} (h : Byt l) : (stRd l).Ok := by
  unfold stRd; split
  · exact stAt_ok h 22
  · exact state0_ok
theorem st_good {l : List Nat} (h : (rsAt l 22).end = 0) (k : (stAt l 22).Right) : stE l = 0 ∧ stRd l = stAt l 22 := by
  have : stE l = 0 := by unfold stE; rw [if_pos h, if_pos k]
  exact ⟨this, by unfold stRd; rw [if_pos this]⟩
theorem st_form {l : List Nat} (h : (rsAt l 22).end = 0) (k : ¬ (stAt l 22).Right) : stE l = 2 ∧ stRd l = state0 := by
  have : stE l = 2 := by unfold stE; rw [if_pos h, if_neg k]
  exact ⟨this, by unfold stRd; rw [if_neg (by omega)]⟩
theorem st_bad {l : List Nat} (h : ¬ (rsAt l 22).end = 0) : stE l = (rsAt l 22).end ∧ stRd l = state0 := by
  have : stE l = (rsAt l 22).end := by unfold stE; rw [if_neg h]
  exact ⟨this, by unfold stRd; rw [if_neg (by omega)]⟩

/-! ### the reference's reader -/
def rfRe (tr pb : Nat) (ao : Option Addr) (cap : Nat) (l : List Nat) (r : Rs) : Re :=
  ⟨One pb, fun w => ∃ a e : Nat, w.heap[pb]? = some (.cells #[.slice ao l.length cap, .int .i64 (a : Int), .int .i64 (e : Int)] tr (0, 0)) ∧ a ≤ l.length ∧ Rf.r l ⟨a, e⟩ = r,
   fun _ ⟨_, _, h, _⟩ => In.one h, fun _ _ _ ⟨a, e, h, h2⟩ F d => ⟨a, e, Fr.keep F h d, h2⟩⟩
theorem View.rf {x : Rc} {tr pb cap : Nat} {ao : Option Addr} {l : List Nat} (h : x = .blk pb #[.slice ao l.length cap, .int .i64 0, .int .i64 0] tr := by kernel_rfl) : View x (.gen (rfRe tr pb ao cap l ⟨0, l⟩)) := by
  subst h
  exact ⟨fun w hA => ⟨⟨0, 0, hA, Nat.zero_le _, rfl⟩, Sub.refl _⟩⟩
end Go.Alm

/- A state's cells, part by part. -/
namespace Go.Alm
open Go Go.RowKit
theorem ajL (a b : Array Value) : (aj a b).toList = a.toList ++ b.toList := rfl
theorem spl_l {a b vs : Array Value} {off : Nat} (h : off + vs.size ≤ a.size) : spl (aj a b) off vs = aj (spl a off vs) b := by
  apply Array.ext'
  simp only [spl, ajL, List.append_assoc]
  rw [List.take_append_of_le_length (by simp; omega), List.drop_append_of_le_length (by simp; omega)]
theorem spl_r {a b vs : Array Value} {off o : Nat} (h : off = a.size + o) : spl (aj a b) off vs = aj a (spl b o vs) := by
  subst h
  apply Array.ext'
  simp only [spl, ajL, List.append_assoc]
  have e1 : (a.toList ++ b.toList).take (a.size + o) = a.toList ++ b.toList.take o := by
    rw [show a.size + o = a.toList.length + o by simp, List.take_length_add_append]
  have e2 : (a.toList ++ b.toList).drop (a.size + o + vs.size) = b.toList.drop (o + vs.size) := by
    rw [show a.size + o + vs.size = a.toList.length + (o + vs.size) by simp; omega, List.drop_length_add_append]
  rw [e1, e2, List.append_assoc]
theorem spl_all {a vs : Array Value} (h : vs.size = a.size) : spl a 0 vs = vs := by
  apply Array.ext'
  simp only [spl, List.take_zero, List.nil_append, Nat.zero_add]
  rw [h, List.drop_eq_nil_of_le (by simp), List.append_nil]
theorem setc0 {s : SState} (_ : s.Ok) (h : List Nat) (n : Nat) : spl s.cells 0 (hv h) = (s.setP 0 h n).cells := by
  show spl (aj (aj (aj (aj (aj (hv s.prev) (hv s.led)) (hv s.draw)) #[.int .u32 (s.slot : Int), .int .u32 (s.len : Int), .int .u32 (s.count : Int)]) s.win.cells) s.eps.cells) 0 (hv h) = _
  rw [spl_l (by simp [aj_size, hv_size, RWin.size]), spl_l (by simp [aj_size, hv_size]), spl_l (by simp [aj_size, hv_size]), spl_l (by simp [aj_size, hv_size]), spl_l (by simp [aj_size, hv_size]), spl_all (by simp [aj_size, hv_size])]
  rfl
theorem setc1 {s : SState} (_ : s.Ok) (h : List Nat) (n : Nat) : spl s.cells 32 (hv h) = (s.setP 1 h n).cells := by
  show spl (aj (aj (aj (aj (aj (hv s.prev) (hv s.led)) (hv s.draw)) #[.int .u32 (s.slot : Int), .int .u32 (s.len : Int), .int .u32 (s.count : Int)]) s.win.cells) s.eps.cells) 32 (hv h) = _
  rw [spl_l (by simp [aj_size, hv_size, RWin.size]), spl_l (by simp [aj_size, hv_size]), spl_l (by simp [aj_size, hv_size]), spl_l (by simp [aj_size, hv_size]), spl_r (o := 0) (by simp [aj_size, hv_size]), spl_all (by simp [aj_size, hv_size])]
  rfl
theorem setc2 {s : SState} (_ : s.Ok) (h : List Nat) (n : Nat) : spl s.cells 64 (hv h) = (s.setP 2 h n).cells := by
  show spl (aj (aj (aj (aj (aj (hv s.prev) (hv s.led)) (hv s.draw)) #[.int .u32 (s.slot : Int), .int .u32 (s.len : Int), .int .u32 (s.count : Int)]) s.win.cells) s.eps.cells) 64 (hv h) = _
  rw [spl_l (by simp [aj_size, hv_size, RWin.size]), spl_l (by simp [aj_size, hv_size]), spl_l (by simp [aj_size, hv_size]), spl_r (o := 0) (by simp [aj_size, hv_size]), spl_all (by simp [aj_size, hv_size])]
  rfl
theorem setc3 {s : SState} (_ : s.Ok) (h : List Nat) (n : Nat) : spl s.cells 96 #[.int .u32 (n : Int)] = (s.setP 3 h n).cells := by
  show spl (aj (aj (aj (aj (aj (hv s.prev) (hv s.led)) (hv s.draw)) #[.int .u32 (s.slot : Int), .int .u32 (s.len : Int), .int .u32 (s.count : Int)]) s.win.cells) s.eps.cells) 96 #[.int .u32 (n : Int)] = _
  rw [spl_l (by simp [aj_size, hv_size, RWin.size]), spl_l (by simp [aj_size, hv_size]), spl_r (o := 0) (by simp [aj_size, hv_size])]
  rfl
theorem setc4 {s : SState} (_ : s.Ok) (h : List Nat) (n : Nat) : spl s.cells 97 #[.int .u32 (n : Int)] = (s.setP 4 h n).cells := by
  show spl (aj (aj (aj (aj (aj (hv s.prev) (hv s.led)) (hv s.draw)) #[.int .u32 (s.slot : Int), .int .u32 (s.len : Int), .int .u32 (s.count : Int)]) s.win.cells) s.eps.cells) 97 #[.int .u32 (n : Int)] = _
  rw [spl_l (by simp [aj_size, hv_size, RWin.size]), spl_l (by simp [aj_size, hv_size]), spl_r (o := 1) (by simp [aj_size, hv_size])]
  rfl
theorem setc5 {s : SState} (_ : s.Ok) (h : List Nat) (n : Nat) : spl s.cells 98 #[.int .u32 (n : Int)] = (s.setP 5 h n).cells := by
  show spl (aj (aj (aj (aj (aj (hv s.prev) (hv s.led)) (hv s.draw)) #[.int .u32 (s.slot : Int), .int .u32 (s.len : Int), .int .u32 (s.count : Int)]) s.win.cells) s.eps.cells) 98 #[.int .u32 (n : Int)] = _
  rw [spl_l (by simp [aj_size, hv_size, RWin.size]), spl_l (by simp [aj_size, hv_size]), spl_r (o := 2) (by simp [aj_size, hv_size])]
  rfl
theorem setc6 {s : SState} (_ : s.Ok) (h : List Nat) (n : Nat) : spl s.cells 99 #[.int .u32 (n : Int)] = (s.setP 6 h n).cells := by
  show spl (aj (aj (aj (aj (aj (hv s.prev) (hv s.led)) (hv s.draw)) #[.int .u32 (s.slot : Int), .int .u32 (s.len : Int), .int .u32 (s.count : Int)]) s.win.cells) s.eps.cells) 99 #[.int .u32 (n : Int)] = _
  rw [spl_l (by simp [aj_size, hv_size, RWin.size]), spl_r (o := 0) (by simp [aj_size, hv_size]), show s.win.cells = aj #[.int .u32 (s.win.min : Int)] (aj #[.int .u32 (s.win.ring.last : Int)] (c4 s.win.ring.counts)) from rfl, spl_l (by simp [aj_size, ])]
  rfl
theorem setc7 {s : SState} (_ : s.Ok) (h : List Nat) (n : Nat) : spl s.cells 100 #[.int .u32 (n : Int)] = (s.setP 7 h n).cells := by
  show spl (aj (aj (aj (aj (aj (hv s.prev) (hv s.led)) (hv s.draw)) #[.int .u32 (s.slot : Int), .int .u32 (s.len : Int), .int .u32 (s.count : Int)]) s.win.cells) s.eps.cells) 100 #[.int .u32 (n : Int)] = _
  rw [spl_l (by simp [aj_size, hv_size, RWin.size]), spl_r (o := 1) (by simp [aj_size, hv_size]), show s.win.cells = aj #[.int .u32 (s.win.min : Int)] (aj #[.int .u32 (s.win.ring.last : Int)] (c4 s.win.ring.counts)) from rfl, spl_r (o := 0) (by simp [aj_size, ]), spl_l (by simp [aj_size, ])]
  rfl
theorem setc8 {s : SState} (hs : s.Ok) (h : List Nat) (n : Nat) : spl s.cells 101 #[.int .u32 (n : Int)] = (s.setP 8 h n).cells := by
  show spl (aj (aj (aj (aj (aj (hv s.prev) (hv s.led)) (hv s.draw)) #[.int .u32 (s.slot : Int), .int .u32 (s.len : Int), .int .u32 (s.count : Int)]) s.win.cells) s.eps.cells) 101 #[.int .u32 (n : Int)] = _
  rw [spl_l (by simp [aj_size, hv_size, RWin.size]), spl_r (o := 2) (by simp [aj_size, hv_size]), show s.win.cells = aj #[.int .u32 (s.win.min : Int)] (aj #[.int .u32 (s.win.ring.last : Int)] (c4 s.win.ring.counts)) from rfl, spl_r (o := 1) (by simp [aj_size, ]), spl_r (o := 0) (by simp [aj_size, ])]
  have hc := hs.win.ring.counts.1
  obtain ⟨p, l, d, a, b, c, ⟨m, ⟨q, cs⟩⟩, e⟩ := s
  match cs, hc with
  | [_, _, _, _], _ => rfl
theorem setc9 {s : SState} (hs : s.Ok) (h : List Nat) (n : Nat) : spl s.cells 102 #[.int .u32 (n : Int)] = (s.setP 9 h n).cells := by
  show spl (aj (aj (aj (aj (aj (hv s.prev) (hv s.led)) (hv s.draw)) #[.int .u32 (s.slot : Int), .int .u32 (s.len : Int), .int .u32 (s.count : Int)]) s.win.cells) s.eps.cells) 102 #[.int .u32 (n : Int)] = _
  rw [spl_l (by simp [aj_size, hv_size, RWin.size]), spl_r (o := 3) (by simp [aj_size, hv_size]), show s.win.cells = aj #[.int .u32 (s.win.min : Int)] (aj #[.int .u32 (s.win.ring.last : Int)] (c4 s.win.ring.counts)) from rfl, spl_r (o := 2) (by simp [aj_size, ]), spl_r (o := 1) (by simp [aj_size, ])]
  have hc := hs.win.ring.counts.1
  obtain ⟨p, l, d, a, b, c, ⟨m, ⟨q, cs⟩⟩, e⟩ := s
  match cs, hc with
  | [_, _, _, _], _ => rfl
theorem setc10 {s : SState} (hs : s.Ok) (h : List Nat) (n : Nat) : spl s.cells 103 #[.int .u32 (n : Int)] = (s.setP 10 h n).cells := by
  show spl (aj (aj (aj (aj (aj (hv s.prev) (hv s.led)) (hv s.draw)) #[.int .u32 (s.slot : Int), .int .u32 (s.len : Int), .int .u32 (s.count : Int)]) s.win.cells) s.eps.cells) 103 #[.int .u32 (n : Int)] = _
  rw [spl_l (by simp [aj_size, hv_size, RWin.size]), spl_r (o := 4) (by simp [aj_size, hv_size]), show s.win.cells = aj #[.int .u32 (s.win.min : Int)] (aj #[.int .u32 (s.win.ring.last : Int)] (c4 s.win.ring.counts)) from rfl, spl_r (o := 3) (by simp [aj_size, ]), spl_r (o := 2) (by simp [aj_size, ])]
  have hc := hs.win.ring.counts.1
  obtain ⟨p, l, d, a, b, c, ⟨m, ⟨q, cs⟩⟩, e⟩ := s
  match cs, hc with
  | [_, _, _, _], _ => rfl
theorem setc11 {s : SState} (hs : s.Ok) (h : List Nat) (n : Nat) : spl s.cells 104 #[.int .u32 (n : Int)] = (s.setP 11 h n).cells := by
  show spl (aj (aj (aj (aj (aj (hv s.prev) (hv s.led)) (hv s.draw)) #[.int .u32 (s.slot : Int), .int .u32 (s.len : Int), .int .u32 (s.count : Int)]) s.win.cells) s.eps.cells) 104 #[.int .u32 (n : Int)] = _
  rw [spl_l (by simp [aj_size, hv_size, RWin.size]), spl_r (o := 5) (by simp [aj_size, hv_size]), show s.win.cells = aj #[.int .u32 (s.win.min : Int)] (aj #[.int .u32 (s.win.ring.last : Int)] (c4 s.win.ring.counts)) from rfl, spl_r (o := 4) (by simp [aj_size, ]), spl_r (o := 3) (by simp [aj_size, ])]
  have hc := hs.win.ring.counts.1
  obtain ⟨p, l, d, a, b, c, ⟨m, ⟨q, cs⟩⟩, e⟩ := s
  match cs, hc with
  | [_, _, _, _], _ => rfl
theorem setc12 {s : SState} (_ : s.Ok) (h : List Nat) (n : Nat) : spl s.cells 105 (hv h) = (s.setP 12 h n).cells := by
  show spl (aj (aj (aj (aj (aj (hv s.prev) (hv s.led)) (hv s.draw)) #[.int .u32 (s.slot : Int), .int .u32 (s.len : Int), .int .u32 (s.count : Int)]) s.win.cells) s.eps.cells) 105 (hv h) = _
  rw [spl_r (o := 0) (by simp [aj_size, hv_size, RWin.size]), show s.eps.cells = aj (aj (aj (aj (aj (hv s.eps.now.led) (hv s.eps.now.seed)) (hv s.eps.now.start)) (hv s.eps.now.lock)) #[.int .u32 (s.eps.now.len : Int)]) (aj (aj (aj (aj (hv s.eps.next.led) (hv s.eps.next.seed)) (hv s.eps.next.start)) (hv s.eps.next.lock)) #[.int .u32 (s.eps.next.len : Int)]) from rfl, spl_l (by simp [aj_size, hv_size]), spl_l (by simp [aj_size, hv_size]), spl_l (by simp [aj_size, hv_size]), spl_l (by simp [aj_size, hv_size]), spl_l (by simp [aj_size, hv_size]), spl_all (by simp [aj_size, hv_size])]
  rfl
theorem setc13 {s : SState} (_ : s.Ok) (h : List Nat) (n : Nat) : spl s.cells 137 (hv h) = (s.setP 13 h n).cells := by
  show spl (aj (aj (aj (aj (aj (hv s.prev) (hv s.led)) (hv s.draw)) #[.int .u32 (s.slot : Int), .int .u32 (s.len : Int), .int .u32 (s.count : Int)]) s.win.cells) s.eps.cells) 137 (hv h) = _
  rw [spl_r (o := 32) (by simp [aj_size, hv_size, RWin.size]), show s.eps.cells = aj (aj (aj (aj (aj (hv s.eps.now.led) (hv s.eps.now.seed)) (hv s.eps.now.start)) (hv s.eps.now.lock)) #[.int .u32 (s.eps.now.len : Int)]) (aj (aj (aj (aj (hv s.eps.next.led) (hv s.eps.next.seed)) (hv s.eps.next.start)) (hv s.eps.next.lock)) #[.int .u32 (s.eps.next.len : Int)]) from rfl, spl_l (by simp [aj_size, hv_size]), spl_l (by simp [aj_size, hv_size]), spl_l (by simp [aj_size, hv_size]), spl_l (by simp [aj_size, hv_size]), spl_r (o := 0) (by simp [aj_size, hv_size]), spl_all (by simp [aj_size, hv_size])]
  rfl
theorem setc14 {s : SState} (_ : s.Ok) (h : List Nat) (n : Nat) : spl s.cells 169 (hv h) = (s.setP 14 h n).cells := by
  show spl (aj (aj (aj (aj (aj (hv s.prev) (hv s.led)) (hv s.draw)) #[.int .u32 (s.slot : Int), .int .u32 (s.len : Int), .int .u32 (s.count : Int)]) s.win.cells) s.eps.cells) 169 (hv h) = _
  rw [spl_r (o := 64) (by simp [aj_size, hv_size, RWin.size]), show s.eps.cells = aj (aj (aj (aj (aj (hv s.eps.now.led) (hv s.eps.now.seed)) (hv s.eps.now.start)) (hv s.eps.now.lock)) #[.int .u32 (s.eps.now.len : Int)]) (aj (aj (aj (aj (hv s.eps.next.led) (hv s.eps.next.seed)) (hv s.eps.next.start)) (hv s.eps.next.lock)) #[.int .u32 (s.eps.next.len : Int)]) from rfl, spl_l (by simp [aj_size, hv_size]), spl_l (by simp [aj_size, hv_size]), spl_l (by simp [aj_size, hv_size]), spl_r (o := 0) (by simp [aj_size, hv_size]), spl_all (by simp [aj_size, hv_size])]
  rfl
theorem setc15 {s : SState} (_ : s.Ok) (h : List Nat) (n : Nat) : spl s.cells 201 (hv h) = (s.setP 15 h n).cells := by
  show spl (aj (aj (aj (aj (aj (hv s.prev) (hv s.led)) (hv s.draw)) #[.int .u32 (s.slot : Int), .int .u32 (s.len : Int), .int .u32 (s.count : Int)]) s.win.cells) s.eps.cells) 201 (hv h) = _
  rw [spl_r (o := 96) (by simp [aj_size, hv_size, RWin.size]), show s.eps.cells = aj (aj (aj (aj (aj (hv s.eps.now.led) (hv s.eps.now.seed)) (hv s.eps.now.start)) (hv s.eps.now.lock)) #[.int .u32 (s.eps.now.len : Int)]) (aj (aj (aj (aj (hv s.eps.next.led) (hv s.eps.next.seed)) (hv s.eps.next.start)) (hv s.eps.next.lock)) #[.int .u32 (s.eps.next.len : Int)]) from rfl, spl_l (by simp [aj_size, hv_size]), spl_l (by simp [aj_size, hv_size]), spl_r (o := 0) (by simp [aj_size, hv_size]), spl_all (by simp [aj_size, hv_size])]
  rfl
theorem setc16 {s : SState} (_ : s.Ok) (h : List Nat) (n : Nat) : spl s.cells 233 #[.int .u32 (n : Int)] = (s.setP 16 h n).cells := by
  show spl (aj (aj (aj (aj (aj (hv s.prev) (hv s.led)) (hv s.draw)) #[.int .u32 (s.slot : Int), .int .u32 (s.len : Int), .int .u32 (s.count : Int)]) s.win.cells) s.eps.cells) 233 #[.int .u32 (n : Int)] = _
  rw [spl_r (o := 128) (by simp [aj_size, hv_size, RWin.size]), show s.eps.cells = aj (aj (aj (aj (aj (hv s.eps.now.led) (hv s.eps.now.seed)) (hv s.eps.now.start)) (hv s.eps.now.lock)) #[.int .u32 (s.eps.now.len : Int)]) (aj (aj (aj (aj (hv s.eps.next.led) (hv s.eps.next.seed)) (hv s.eps.next.start)) (hv s.eps.next.lock)) #[.int .u32 (s.eps.next.len : Int)]) from rfl, spl_l (by simp [aj_size, hv_size]), spl_r (o := 0) (by simp [aj_size, hv_size])]
  rfl
theorem setc17 {s : SState} (_ : s.Ok) (h : List Nat) (n : Nat) : spl s.cells 234 (hv h) = (s.setP 17 h n).cells := by
  show spl (aj (aj (aj (aj (aj (hv s.prev) (hv s.led)) (hv s.draw)) #[.int .u32 (s.slot : Int), .int .u32 (s.len : Int), .int .u32 (s.count : Int)]) s.win.cells) s.eps.cells) 234 (hv h) = _
  rw [spl_r (o := 129) (by simp [aj_size, hv_size, RWin.size]), show s.eps.cells = aj (aj (aj (aj (aj (hv s.eps.now.led) (hv s.eps.now.seed)) (hv s.eps.now.start)) (hv s.eps.now.lock)) #[.int .u32 (s.eps.now.len : Int)]) (aj (aj (aj (aj (hv s.eps.next.led) (hv s.eps.next.seed)) (hv s.eps.next.start)) (hv s.eps.next.lock)) #[.int .u32 (s.eps.next.len : Int)]) from rfl, spl_r (o := 0) (by simp [aj_size, hv_size]), spl_l (by simp [aj_size, hv_size]), spl_l (by simp [aj_size, hv_size]), spl_l (by simp [aj_size, hv_size]), spl_l (by simp [aj_size, hv_size]), spl_all (by simp [aj_size, hv_size])]
  rfl
theorem setc18 {s : SState} (_ : s.Ok) (h : List Nat) (n : Nat) : spl s.cells 266 (hv h) = (s.setP 18 h n).cells := by
  show spl (aj (aj (aj (aj (aj (hv s.prev) (hv s.led)) (hv s.draw)) #[.int .u32 (s.slot : Int), .int .u32 (s.len : Int), .int .u32 (s.count : Int)]) s.win.cells) s.eps.cells) 266 (hv h) = _
  rw [spl_r (o := 161) (by simp [aj_size, hv_size, RWin.size]), show s.eps.cells = aj (aj (aj (aj (aj (hv s.eps.now.led) (hv s.eps.now.seed)) (hv s.eps.now.start)) (hv s.eps.now.lock)) #[.int .u32 (s.eps.now.len : Int)]) (aj (aj (aj (aj (hv s.eps.next.led) (hv s.eps.next.seed)) (hv s.eps.next.start)) (hv s.eps.next.lock)) #[.int .u32 (s.eps.next.len : Int)]) from rfl, spl_r (o := 32) (by simp [aj_size, hv_size]), spl_l (by simp [aj_size, hv_size]), spl_l (by simp [aj_size, hv_size]), spl_l (by simp [aj_size, hv_size]), spl_r (o := 0) (by simp [aj_size, hv_size]), spl_all (by simp [aj_size, hv_size])]
  rfl
theorem setc19 {s : SState} (_ : s.Ok) (h : List Nat) (n : Nat) : spl s.cells 298 (hv h) = (s.setP 19 h n).cells := by
  show spl (aj (aj (aj (aj (aj (hv s.prev) (hv s.led)) (hv s.draw)) #[.int .u32 (s.slot : Int), .int .u32 (s.len : Int), .int .u32 (s.count : Int)]) s.win.cells) s.eps.cells) 298 (hv h) = _
  rw [spl_r (o := 193) (by simp [aj_size, hv_size, RWin.size]), show s.eps.cells = aj (aj (aj (aj (aj (hv s.eps.now.led) (hv s.eps.now.seed)) (hv s.eps.now.start)) (hv s.eps.now.lock)) #[.int .u32 (s.eps.now.len : Int)]) (aj (aj (aj (aj (hv s.eps.next.led) (hv s.eps.next.seed)) (hv s.eps.next.start)) (hv s.eps.next.lock)) #[.int .u32 (s.eps.next.len : Int)]) from rfl, spl_r (o := 64) (by simp [aj_size, hv_size]), spl_l (by simp [aj_size, hv_size]), spl_l (by simp [aj_size, hv_size]), spl_r (o := 0) (by simp [aj_size, hv_size]), spl_all (by simp [aj_size, hv_size])]
  rfl
theorem setc20 {s : SState} (_ : s.Ok) (h : List Nat) (n : Nat) : spl s.cells 330 (hv h) = (s.setP 20 h n).cells := by
  show spl (aj (aj (aj (aj (aj (hv s.prev) (hv s.led)) (hv s.draw)) #[.int .u32 (s.slot : Int), .int .u32 (s.len : Int), .int .u32 (s.count : Int)]) s.win.cells) s.eps.cells) 330 (hv h) = _
  rw [spl_r (o := 225) (by simp [aj_size, hv_size, RWin.size]), show s.eps.cells = aj (aj (aj (aj (aj (hv s.eps.now.led) (hv s.eps.now.seed)) (hv s.eps.now.start)) (hv s.eps.now.lock)) #[.int .u32 (s.eps.now.len : Int)]) (aj (aj (aj (aj (hv s.eps.next.led) (hv s.eps.next.seed)) (hv s.eps.next.start)) (hv s.eps.next.lock)) #[.int .u32 (s.eps.next.len : Int)]) from rfl, spl_r (o := 96) (by simp [aj_size, hv_size]), spl_l (by simp [aj_size, hv_size]), spl_r (o := 0) (by simp [aj_size, hv_size]), spl_all (by simp [aj_size, hv_size])]
  rfl
theorem setc21 {s : SState} (_ : s.Ok) (h : List Nat) (n : Nat) : spl s.cells 362 #[.int .u32 (n : Int)] = (s.setP 21 h n).cells := by
  show spl (aj (aj (aj (aj (aj (hv s.prev) (hv s.led)) (hv s.draw)) #[.int .u32 (s.slot : Int), .int .u32 (s.len : Int), .int .u32 (s.count : Int)]) s.win.cells) s.eps.cells) 362 #[.int .u32 (n : Int)] = _
  rw [spl_r (o := 257) (by simp [aj_size, hv_size, RWin.size]), show s.eps.cells = aj (aj (aj (aj (aj (hv s.eps.now.led) (hv s.eps.now.seed)) (hv s.eps.now.start)) (hv s.eps.now.lock)) #[.int .u32 (s.eps.now.len : Int)]) (aj (aj (aj (aj (hv s.eps.next.led) (hv s.eps.next.seed)) (hv s.eps.next.start)) (hv s.eps.next.lock)) #[.int .u32 (s.eps.next.len : Int)]) from rfl, spl_r (o := 128) (by simp [aj_size, hv_size]), spl_r (o := 0) (by simp [aj_size, hv_size])]
  rfl
end Go.Alm

/- Great records: read and written whole. -/
namespace Go.Alm
open Go Go.RowKit
theorem ext_all {c : Array Value} {n : Nat} (h : c.size = n) : ext c 0 n = c := by
  apply Array.ext'
  simp only [ext, List.drop_zero]
  exact List.take_of_length_le (by simp [h])
section
variable {P : Program} {Q : Exit → Act → World → Prop} {L : List Iv} {s : St} {RO FZ OW : List Rc}
theorem m_ldW (n i b te sz : Nat) (c : Array Value) (hsz : c.size = sz) (k : J P Q L (nx (go P n s) (.agg c)) RO FZ OW)
    (h1 : (go P n s).a.eval (ldX (go P n s)) = .pointer (some ⟨b, 0, none⟩) := by kernel_rfl) (h3 : gr (RO ++ (FZ ++ OW)) i = .blk b c te := by kernel_rfl)
    (hc : ((loadOf (cur (go P n s)).op).isSome && (rowed P (ldT (go P n s)) == some true) && (sizeT P (ldT (go P n s)) == some sz) && (onW (go P n s) && rdOk (go P n s) i (RO ++ FZ).length)) = true := by kernel_rfl) : J P Q L s RO FZ OW := by
  simp only [Bool.and_eq_true, beq_iff_eq] at hc
  obtain ⟨⟨⟨h4, h5⟩, h6⟩, h8, h9⟩ := hc
  have ho : loadOf (cur (go P n s)).op = some (ldT (go P n s), ldX (go P n s)) := by
    unfold ldT ldX
    cases hl : loadOf (cur (go P n s)).op with
    | none => rw [hl] at h4; cases h4
    | some x => rfl
  refine m_r n i (.agg c) (fun w hA => ?_) k h8 h9
  rw [h3] at hA
  have hb : w.heap[b]? = some (.cells c te (0, 0)) := hA
  exact run_loadN _ _ _ _ sz _ _ _ _ ho h5 h6 h1 hb (Nat.ble_eq_true_of_le (by omega)) ((ext_eq _ _ _).trans (ext_all hsz))
theorem m_stW (n i sz : Nat) (vs : Array Value) (hsz : vs.size = sz) (hv : vs.toList.all (·.oneCell') = true) (k : J P Q L (nx (go P n s) undef) RO FZ (OW.set i (.blk (gr OW i).b vs (gr OW i).te)))
    (h1 : (go P n s).a.eval (stX (go P n s)) = .pointer (some ⟨(gr OW i).b, 0, none⟩) := by kernel_rfl) (hy : (stY (go P n s)).cells = vs := by kernel_rfl)
    (hc : ((storeOf (cur (go P n s)).op).isSome && (gr OW i).isBlk && Nat.beq (gr OW i).c.size sz && (sizeT P (stT (go P n s)) == some sz) && (acts (go P n s) && onW (go P n s))) = true := by kernel_rfl) : J P Q L s RO FZ OW := by
  simp only [Bool.and_eq_true, beq_iff_eq] at hc
  obtain ⟨⟨⟨⟨h4, h3⟩, h5⟩, h6⟩, h8⟩ := hc
  have hi := gr_some h3
  have h5 := Nat.eq_of_beq_eq_true h5
  refine m_act n (fun w hw _ => ?_) (by rw [Bool.and_eq_true]; exact h8)
  have hA : (gr OW i).A w := hw.a _ (by simp only [List.mem_append]; exact .inr (.inr (List.mem_of_getElem? hi)))
  have hS : (gr OW i).S = One (gr OW i).b := by rw [Rc.blk_eq h3]; rfl
  have ho : storeOf (cur (go P n s)).op = some (stT (go P n s), stX (go P n s), ((storeOf (cur (go P n s)).op).getD (0, .tmp 0, .tmp 0)).2.2) := by
    unfold stT stX
    cases hl : storeOf (cur (go P n s)).op with
    | none => rw [hl] at h4; cases h4
    | some x => rfl
  rw [Rc.blk_eq h3] at hA
  refine op_store _ _ _ _ _ (stY (go P n s)) _ _ vs ho h1 rfl hA (by rw [hy, hsz]; exact h6) (Nat.ble_eq_true_of_le (by rw [hy]; omega)) (by rw [hy]; exact hv) (by rw [hy]; exact spl_all (by omega)) fun w' hb hz F => ⟨_, _, rfl, Hs.set (r' := .blk _ vs _) hw hi (by rw [hS]; exact F) hb ?_, k⟩
  rw [hS]
  exact New.refl _ _
end
theorem SState.ones (s : SState) : s.cells.toList.all (·.oneCell') = true := by kernel_rfl
theorem SState.one (s : SState) : ∀ u ∈ s.cells.toList, u.oneCell' = true := fun u hu => List.all_eq_true.1 s.ones u hu
/-! ### a great result -/
def res0 (l : List ResultVar) : Nat × Nat := match l with | .cell t ty :: _ => (t, ty) | _ => (0, 0)
def resT (l : List ResultVar) : List ResultVar := match l with | _ :: r => r | [] => []
def isC0 (l : List ResultVar) : Bool := match l with | .cell _ _ :: _ => true | _ => false
theorem isC0_spec {l : List ResultVar} (h : isC0 l = true) : l = .cell (res0 l).1 (res0 l).2 :: resT l := by
  match l, h with
  | .cell _ _ :: _, _ => rfl
section
variable {P : Program} {Q : Exit → Act → World → Prop} {L : List Iv} {s : St} {RO FZ OW : List Rc}
theorem m_retCW {f : Nat} {F : Re} {R : Value → List Rc → Prop} {ro : List Rc} (n i0 : Nat) (is : List Nat) (sz b te : Nat) (c : Array Value) (hsz : c.size = sz) (v : Value) (idx : List Nat) (hR : R v (pick idx OW).1) (h1 : outOk (go P n s) = true := by kernel_rfl)
    (h4 : (isC0 (fnOf P f).results.toList && (rowed P (res0 (fnOf P f).results.toList).2 == some true) && (sizeT P (res0 (fnOf P f).results.toList).2 == some sz)) = true := by kernel_rfl)
    (hg : gr ((.gen F :: ro) ++ OW) i0 = .blk b c te := by kernel_rfl) (h5 : (go P n s).a.tmps.getD (res0 (fnOf P f).results.toList).1 undef = .pointer (some ⟨b, 0, none⟩) := by kernel_rfl)
    (h2 : resK P ((.gen F :: ro) ++ OW) (go P n s).a (resT (fnOf P f).results.toList) is = true := by kernel_rfl) (h3 : resA (go P n s).a (resT (fnOf P f).results.toList) is = resB ((.gen F :: ro) ++ OW) (go P n s).a (resT (fnOf P f).results.toList) is := by kernel_rfl)
    (hr : oneOf (.agg c :: resV P ((.gen F :: ro) ++ OW) (go P n s).a (resT (fnOf P f).results.toList) is) = v := by kernel_rfl) : J P (DoesPost P f F R) L s (.gen F :: ro) [] OW := by
  refine m_go n ?_
  generalize go P n s = t at *
  obtain ⟨ps, K, a, r⟩ := t
  unfold outOk at h1
  simp only [Bool.and_eq_true, List.isEmpty_iff] at h1
  obtain ⟨⟨h6, h7⟩, h8⟩ := h1
  simp only [Bool.and_eq_true, beq_iff_eq] at h4
  obtain ⟨⟨g1, g2⟩, g3⟩ := h4
  have hp := pick_perm idx OW
  have fin : ∀ w, Hs w (.gen F :: ro) ([] ++ OW) → Hs w [.gen F] (pick idx OW).1 := fun w hw => ((hw.perm hp).own).ro (by simp)
  refine ⟨fun w hw => ?_⟩
  subst h7
  have hrun : (results (fnOf P f) a.tmps).run P w = .ok v w := by
    rw [← hr]
    have hb := gr_A hw.a i0
    have hb : (gr ((.gen F :: ro) ++ OW) i0).A w := hb
    rw [hg] at hb
    have hb : w.heap[b]? = some (.cells c te (0, 0)) := hb
    have hL : ResL P a w (.cell (res0 (fnOf P f).results.toList).1 (res0 (fnOf P f).results.toList).2 :: resT (fnOf P f).results.toList) (.agg c :: resV P ((.gen F :: ro) ++ OW) a (resT (fnOf P f).results.toList) is) :=
      ⟨ResOne.cellN h5 g2 g3 hb (Nat.ble_eq_true_of_le (by omega)) ((ext_eq _ _ _).trans (ext_all hsz)), res_L (P := P) (a := a) hw.a _ _ h2 h3⟩
    rw [← isC0_spec g1] at hL
    exact run_results' (fn := fnOf P f) _ rfl hL
  cases ps with
  | out e =>
    cases e with
    | normal => exact ⟨h8, v, hrun, v, _, hR, rfl, fin w hw⟩
    | ret => exact ⟨h8, v, hrun, v, _, hR, rfl, fin w hw⟩
    | _ => cases h6
  | _ => cases h6
end
end Go.Alm

/- Arrays within blocks, by numbers that are reckoned. -/
namespace Go.Alm
open Go Go.RowKit
section
variable {P : Program} {Q : Exit → Act → World → Prop} {L : List Iv} {s : St} {RO FZ OW : List Rc}
theorem m_ixA (n b off sz N k : Nat) (kd : IntKind) (hk : k < N) (kk : J P Q L (nx (go P n s) (.pointer (some ⟨b, off + k * sz, none⟩))) RO FZ OW)
    (h1 : ixX (go P n s) = .pointer (some ⟨b, off, none⟩) := by kernel_rfl) (h2 : ixI (go P n s) = .int kd (k : Int) := by kernel_rfl)
    (hc : ((idxAOf (cur (go P n s)).op).isSome && (arrLen P (ixT (go P n s)) == some N) && (elemSz P (ixT (go P n s)) == some sz) && onW (go P n s)) = true := by kernel_rfl) : J P Q L s RO FZ OW := by
  simp only [Bool.and_eq_true, beq_iff_eq] at hc
  obtain ⟨⟨⟨h4, h5⟩, h6⟩, h8⟩ := hc
  refine m_p n _ (fun w => ?_) kk h8
  have ho : idxAOf (cur (go P n s)).op = some (ixT (go P n s), ((idxAOf (cur (go P n s)).op).getD (0, .tmp 0, .tmp 0)).2.1, ((idxAOf (cur (go P n s)).op).getD (0, .tmp 0, .tmp 0)).2.2) := by
    unfold ixT
    cases hl : idxAOf (cur (go P n s)).op with
    | none => rw [hl] at h4; cases h4
    | some x => rfl
  exact run_idx_arr _ _ _ sz b off N kd k ho h5 h6 h1 h2 hk
theorem m_ldA (n i b p te : Nat) (c : Array Value) (u : Value) (hu : c[p]? = some u) (k : J P Q L (nx (go P n s) u) RO FZ OW)
    (h1 : (go P n s).a.eval (ldX (go P n s)) = .pointer (some ⟨b, p, none⟩) := by kernel_rfl) (h3 : gr (RO ++ (FZ ++ OW)) i = .blk b c te := by kernel_rfl)
    (hc : ((loadOf (cur (go P n s)).op).isSome && (rowed P (ldT (go P n s)) == some false) && (onW (go P n s) && rdOk (go P n s) i (RO ++ FZ).length)) = true := by kernel_rfl) : J P Q L s RO FZ OW := by
  simp only [Bool.and_eq_true, beq_iff_eq] at hc
  obtain ⟨⟨h4, h5⟩, h8, h9⟩ := hc
  have ho : loadOf (cur (go P n s)).op = some (ldT (go P n s), ldX (go P n s)) := by
    unfold ldT ldX
    cases hl : loadOf (cur (go P n s)).op with
    | none => rw [hl] at h4; cases h4
    | some x => rfl
  refine m_r n i u (fun w hA => ?_) k h8 h9
  rw [h3] at hA
  refine run_loadC _ _ ⟨b, p, none⟩ u ho h5 h1 ?_
  rw [cell_of_row w b p c te _ hA]
  exact hu
theorem m_stA (n i b p te : Nat) (c c' : Array Value) (v : Value) (hp : p + 1 ≤ c.size) (he : spl c p #[v] = c') (hv : v.cells = #[v] ∧ v.oneCell' = true) (k : J P Q L (nx (go P n s) undef) RO FZ (OW.set i (.blk b c' te)))
    (h1 : (go P n s).a.eval (stX (go P n s)) = .pointer (some ⟨b, p, none⟩) := by kernel_rfl) (hy : stY (go P n s) = v := by kernel_rfl) (h3 : gr OW i = .blk b c te := by kernel_rfl)
    (hc : ((storeOf (cur (go P n s)).op).isSome && (sizeT P (stT (go P n s)) == some 1) && (acts (go P n s) && onW (go P n s))) = true := by kernel_rfl) : J P Q L s RO FZ OW := by
  simp only [Bool.and_eq_true, beq_iff_eq] at hc
  obtain ⟨⟨h4, h5⟩, h8⟩ := hc
  have hi : OW[i]? = some (.blk b c te) := by rw [← h3]; exact gr_some (by rw [h3]; rfl)
  refine m_act n (fun w hw _ => ?_) (by rw [Bool.and_eq_true]; exact h8)
  have hA : w.heap[b]? = some (.cells c te (0, 0)) := hw.a (.blk b c te) (by simp only [List.mem_append]; exact .inr (.inr (List.mem_of_getElem? hi)))
  have ho : storeOf (cur (go P n s)).op = some (stT (go P n s), stX (go P n s), ((storeOf (cur (go P n s)).op).getD (0, .tmp 0, .tmp 0)).2.2) := by
    unfold stT stX
    cases hl : storeOf (cur (go P n s)).op with
    | none => rw [hl] at h4; cases h4
    | some x => rfl
  refine op_store1 _ _ _ b p v c te c' ho h1 hy hv.1 hv.2 hA h5 (Nat.ble_eq_true_of_le hp) he fun w' hb hz F => ⟨_, _, rfl, Hs.set (r' := .blk b c' te) hw hi F hb (New.refl _ _), k⟩
end
theorem RRing.get {r : RRing} {k : Nat} (h : k < 4) : r.cells[1 + k * 1]? = some (.int .u32 ((r.counts.getD k 0 : Nat) : Int)) := by
  match k, h with
  | 0, _ => rfl
  | 1, _ => rfl
  | 2, _ => rfl
  | 3, _ => rfl
theorem N4.set {l : List Nat} (h : N4 l) (k : Nat) {v : Nat} (hv : v < 4294967296) : N4 (l.set k v) := ⟨by rw [List.length_set]; exact h.1, fun x hx => by
  rcases List.mem_or_eq_of_mem_set hx with h1 | h1
  · exact h.2 x h1
  · rw [h1]; exact hv⟩
theorem RRing.put {last : Nat} {l : List Nat} {k v : Nat} (hl : l.length = 4) (h : k < 4) : spl (RRing.cells ⟨last, l⟩) (1 + k * 1) #[.int .u32 (v : Int)] = RRing.cells ⟨last, l.set k v⟩ := by
  match l, hl, k, h with
  | [_, _, _, _], _, 0, _ => rfl
  | [_, _, _, _], _, 1, _ => rfl
  | [_, _, _, _], _, 2, _ => rfl
  | [_, _, _, _], _, 3, _ => rfl
end Go.Alm

/- A tree by the machine: its map, and the document's two arrays. -/
namespace Go.Alm
open Go Go.RowKit
section
variable {P : Program} {Q : Exit → Act → World → Prop} {L : List Iv} {s : St} {RO FZ OW : List Rc}
theorem m_lookA (n i : Nat) (mb : Nat) (l : TM) (y : Int) (k e : Nat) (hT : P.underlying k = some (.int .i64)) (kk : J P Q L (nx (go P n s) (.tuple #[.agg (acctAt l y).cells, .bool (hasAt l y)])) RO FZ OW)
    (hr : gr (RO ++ (FZ ++ OW)) i = .gen (mapRe intK (fun _ => True) accV mb l) := by kernel_rfl) (h1 : (go P n s).a.eval (lkX (go P n s)) = .map (some mb) := by kernel_rfl) (h2 : (go P n s).a.eval (lkK (go P n s)) = intK y := by kernel_rfl)
    (h3 : zeroT P e = some (.agg acct0.cells) := by kernel_rfl) (h4 : mapTy P (lkT (go P n s)) = some (k, e) := by kernel_rfl) (h7 : lkC (go P n s) = true := by kernel_rfl)
    (hc : ((lookOf (cur (go P n s)).op).isSome && (onW (go P n s) && rdOk (go P n s) i (RO ++ FZ).length)) = true := by kernel_rfl) : J P Q L s RO FZ OW := by
  refine m_look n i (KT.int hT) accV mb l y trivial e (.agg acct0.cells) (fun hg => ?_) (fun b hg => ?_) hr h1 h2 h3 h4 hc
  · rw [h7]; unfold acctAt hasAt at kk; rw [hg] at kk; exact kk
  · rw [h7]; unfold acctAt hasAt at kk; rw [hg] at kk; exact kk
theorem m_lookB (n i : Nat) (mb : Nat) (l : TM) (y : Int) (k e : Nat) (hT : P.underlying k = some (.int .i64)) (kk : J P Q L (nx (go P n s) (.agg (acctAt l y).cells)) RO FZ OW)
    (hr : gr (RO ++ (FZ ++ OW)) i = .gen (mapRe intK (fun _ => True) accV mb l) := by kernel_rfl) (h1 : (go P n s).a.eval (lkX (go P n s)) = .map (some mb) := by kernel_rfl) (h2 : (go P n s).a.eval (lkK (go P n s)) = intK y := by kernel_rfl)
    (h3 : zeroT P e = some (.agg acct0.cells) := by kernel_rfl) (h4 : mapTy P (lkT (go P n s)) = some (k, e) := by kernel_rfl) (h7 : lkC (go P n s) = false := by kernel_rfl)
    (hc : ((lookOf (cur (go P n s)).op).isSome && (onW (go P n s) && rdOk (go P n s) i (RO ++ FZ).length)) = true := by kernel_rfl) : J P Q L s RO FZ OW := by
  refine m_look n i (KT.int hT) accV mb l y trivial e (.agg acct0.cells) (fun hg => ?_) (fun b hg => ?_) hr h1 h2 h3 h4 hc
  · rw [h7]; unfold acctAt at kk; rw [hg] at kk; exact kk
  · rw [h7]; unfold acctAt at kk; rw [hg] at kk; exact kk
/-- A map's list, said otherwise. -/
theorem m_tm (i mb : Nat) (M M' : TM) (e : M = M') (k : J P Q L s RO FZ (OW.set i (.gen (mapRe intK (fun _ => True) accV mb M')))) (hr : gr OW i = .gen (mapRe intK (fun _ => True) accV mb M) := by kernel_rfl) (h : Nat.blt i OW.length = true := by kernel_rfl) : J P Q L s RO FZ OW :=
  m_view i _ (.refl (by rw [hr, e])) k h
/-- Some cells of a block are read. -/
theorem m_ldX (n i b p te sz : Nat) (c vs : Array Value) (hsz : p + sz ≤ c.size) (he : ext c p sz = vs) (k : J P Q L (nx (go P n s) (.agg vs)) RO FZ OW)
    (h1 : (go P n s).a.eval (ldX (go P n s)) = .pointer (some ⟨b, p, none⟩) := by kernel_rfl) (h3 : gr (RO ++ (FZ ++ OW)) i = .blk b c te := by kernel_rfl)
    (hc : ((loadOf (cur (go P n s)).op).isSome && (rowed P (ldT (go P n s)) == some true) && (sizeT P (ldT (go P n s)) == some sz) && (onW (go P n s) && rdOk (go P n s) i (RO ++ FZ).length)) = true := by kernel_rfl) : J P Q L s RO FZ OW := by
  simp only [Bool.and_eq_true, beq_iff_eq] at hc
  obtain ⟨⟨⟨h4, h5⟩, h6⟩, h8, h9⟩ := hc
  have ho : loadOf (cur (go P n s)).op = some (ldT (go P n s), ldX (go P n s)) := by
    unfold ldT ldX
    cases hl : loadOf (cur (go P n s)).op with
    | none => rw [hl] at h4; cases h4
    | some x => rfl
  refine m_r n i (.agg vs) (fun w hA => ?_) k h8 h9
  rw [h3] at hA
  have hb : w.heap[b]? = some (.cells c te (0, 0)) := hA
  exact run_loadN _ _ _ _ sz _ _ _ _ ho h5 h6 h1 hb (Nat.ble_eq_true_of_le hsz) ((ext_eq _ _ _).trans he)
end
/-! ### the document's tree -/
def refC2 (A : Nat → Acct) (I : Nat → Bool) : Array Value := ((List.range 16).flatMap (fun i => (A i).cells.toList) ++ (List.range 16).map (fun i => Value.bool (I i))).toArray
def refM (M : TM) : Array Value := refC2 (fun i => acctAt M (i : Int)) (fun i => hasAt M (i : Int))
def updF {α : Type} (A : Nat → α) (k : Nat) (a : α) : Nat → α := fun i => if i = k then a else A i
theorem ref_size (A : Nat → Acct) (I : Nat → Bool) : (refC2 A I).size = 64 := by kernel_rfl
theorem below16 {k : Nat} (h : k < 16) : k = 0 ∨ k = 1 ∨ k = 2 ∨ k = 3 ∨ k = 4 ∨ k = 5 ∨ k = 6 ∨ k = 7 ∨ k = 8 ∨ k = 9 ∨ k = 10 ∨ k = 11 ∨ k = 12 ∨ k = 13 ∨ k = 14 ∨ k = 15 := by omega
theorem ref_ldA (A : Nat → Acct) (I : Nat → Bool) {k : Nat} (h : k < 16) : ext (refC2 A I) (0 + k * 3) 3 = (A k).cells := by
  rcases below16 h with rfl | rfl | rfl | rfl | rfl | rfl | rfl | rfl | rfl | rfl | rfl | rfl | rfl | rfl | rfl | rfl <;> kernel_rfl
theorem ref_ldI (A : Nat → Acct) (I : Nat → Bool) {k : Nat} (h : k < 16) : (refC2 A I)[48 + k * 1]? = some (.bool (I k)) := by
  rcases below16 h with rfl | rfl | rfl | rfl | rfl | rfl | rfl | rfl | rfl | rfl | rfl | rfl | rfl | rfl | rfl | rfl <;> kernel_rfl
theorem ref_stA (A : Nat → Acct) (I : Nat → Bool) {k : Nat} (h : k < 16) (a : Acct) : spl (refC2 A I) (0 + k * 3) a.cells = refC2 (updF A k a) I := by
  rcases below16 h with rfl | rfl | rfl | rfl | rfl | rfl | rfl | rfl | rfl | rfl | rfl | rfl | rfl | rfl | rfl | rfl <;> kernel_rfl
theorem ref_stI (A : Nat → Acct) (I : Nat → Bool) {k : Nat} (h : k < 16) (b : Bool) : spl (refC2 A I) (48 + k * 1) #[.bool b] = refC2 A (updF I k b) := by
  rcases below16 h with rfl | rfl | rfl | rfl | rfl | rfl | rfl | rfl | rfl | rfl | rfl | rfl | rfl | rfl | rfl | rfl <;> kernel_rfl
theorem ref_congr {A A' : Nat → Acct} {I I' : Nat → Bool} (h : ∀ i, i < 16 → A i = A' i) (k : ∀ i, i < 16 → I i = I' i) : refC2 A I = refC2 A' I' := by
  have e1 : ∀ n, n ≤ 16 → (List.range n).flatMap (fun i => (A i).cells.toList) = (List.range n).flatMap (fun i => (A' i).cells.toList) := by
    intro n
    induction n with
    | zero => intro _; rfl
    | succ n ih => intro hn; rw [List.range_succ, List.flatMap_append, List.flatMap_append, ih (by omega)]; simp [h n (by omega)]
  have e2 : (List.range 16).map (fun i => Value.bool (I i)) = (List.range 16).map (fun i => Value.bool (I' i)) := List.map_congr_left fun i hi => by rw [k i (List.mem_range.1 hi)]
  unfold refC2
  rw [e1 16 (Nat.le_refl _), e2]
theorem ref_nil : refM [] = refC2 (fun _ => acct0) (fun _ => false) := rfl
theorem ref_set {M : TM} {k : Nat} {p : Int} (hp : (k : Int) = p) (a : Acct) : refC2 (updF (fun i => acctAt M (i : Int)) k a) (updF (fun i => hasAt M (i : Int)) k true) = refM (setM M p a) := by
  subst hp
  refine ref_congr (fun i _ => ?_) (fun i _ => ?_)
  · unfold updF acctAt; rw [getM_set]
    by_cases e : i = k
    · rw [if_pos e, if_pos (by omega)]; rfl
    · rw [if_neg e, if_neg (by omega)]
  · unfold updF hasAt; rw [getM_set]
    by_cases e : i = k
    · rw [if_pos e, if_pos (by omega)]; rfl
    · rw [if_neg e, if_neg (by omega)]
theorem ref_del {M : TM} {k : Nat} {p : Int} (hp : (k : Int) = p) : refC2 (updF (fun i => acctAt M (i : Int)) k acct0) (updF (fun i => hasAt M (i : Int)) k false) = refM (delM M p) := by
  subst hp
  refine ref_congr (fun i _ => ?_) (fun i _ => ?_)
  · unfold updF acctAt; rw [getM_del]
    by_cases e : i = k
    · rw [if_pos e, if_pos (by omega)]; rfl
    · rw [if_neg e, if_neg (by omega)]
  · unfold updF hasAt; rw [getM_del]
    by_cases e : i = k
    · rw [if_pos e, if_pos (by omega)]; rfl
    · rw [if_neg e, if_neg (by omega)]
theorem ref_same {M M' : TM} (h : ∀ i : Nat, i < 16 → getM M (i : Int) = getM M' (i : Int)) : refM M = refM M' := ref_congr (fun i hi => by unfold acctAt; rw [h i hi]) (fun i hi => by unfold hasAt; rw [h i hi])
/-- What isn't there may be dropped. -/
theorem del_none {M : TM} {p : Int} (h : hasAt M p = false) : delM M p = M := by
  unfold delM
  rw [List.filter_eq_self]
  intro x hx
  have := getM_none.1 (has_no h) x hx
  simpa using this
end Go.Alm

/- Layer 15: what the walks need. -/
namespace Go.Alm
open Go Go.RowKit
theorem Acct.injI {a b : Acct} (_ : a.Ok) (_ : b.Ok) : a.cells = b.cells ↔ a = b := ⟨Acct.inj, fun h => by rw [h]⟩
structure Path4 where
  a : List Nat
  b : List Nat
  c : List Nat
  d : List Nat
structure Path4.Ok (p : Path4) : Prop where
  a : H32 p.a
  b : H32 p.b
  c : H32 p.c
  d : H32 p.d
def Path4.cells (p : Path4) : Array Value := aj (aj (aj (hv p.a) (hv p.b)) (hv p.c)) (hv p.d)
theorem Path4.wf {p : Path4} (h : p.Ok) : WfA p.cells := ((h.a.wf.app h.b.wf).app h.c.wf).app h.d.wf
theorem Path4.inj {x y : Path4} (h : x.Ok) (k : y.Ok) : x.cells = y.cells ↔ x = y := ⟨fun e => by
  unfold Path4.cells at e
  obtain ⟨e1, e2⟩ := aj_inj (by rw [aj_size, aj_size, aj_size, aj_size]; simp only [hv_size]) e
  obtain ⟨e3, e4⟩ := aj_inj (by rw [aj_size, aj_size]; simp only [hv_size]) e1
  obtain ⟨e5, e6⟩ := aj_inj (by simp only [hv_size]) e3
  have h1 := (hv_iff h.a.len k.a.len).1 e5
  have h2 := (hv_iff h.b.len k.b.len).1 e6
  have h3 := (hv_iff h.c.len k.c.len).1 e4
  have h4 := (hv_iff h.d.len k.d.len).1 e2
  obtain ⟨a, b, c, d⟩ := x
  obtain ⟨a', b', c', d'⟩ := y
  simp only at h1 h2 h3 h4
  subst h1 h2 h3 h4
  rfl, fun e => by rw [e]⟩
open Classical in
def pathP (g : Int → Option Acct) (pl : Int) : Path4 := if placeOk pl then ⟨pathL g pl.toNat 0, pathL g pl.toNat 1, pathL g pl.toNat 2, pathL g pl.toNat 3⟩ else ⟨Z32, Z32, Z32, Z32⟩
def pathE (pl : Int) : Nat := if placeOk pl then 0 else 1
theorem pathL_ok (g : Int → Option Acct) (p h : Nat) : H32 (pathL g p h) := nodeL_ok _ _ _
theorem pathP_ok (g : Int → Option Acct) (pl : Int) : (pathP g pl).Ok := by
  unfold pathP; split
  · exact ⟨pathL_ok _ _ _, pathL_ok _ _ _, pathL_ok _ _ _, pathL_ok _ _ _⟩
  · exact ⟨H32.zero, H32.zero, H32.zero, H32.zero⟩
theorem pathP_yes {g : Int → Option Acct} {pl : Int} {q : Nat} (h : pl = (q : Int)) (hq : q < 16) : pathP g pl = ⟨pathL g q 0, pathL g q 1, pathL g q 2, pathL g q 3⟩ := by
  subst h
  unfold pathP
  rw [if_pos (show placeOk (q : Int) from ⟨by omega, by omega⟩), Int.toNat_natCast]
theorem pathP_no {g : Int → Option Acct} {pl : Int} (h : ¬ placeOk pl) : pathP g pl = ⟨Z32, Z32, Z32, Z32⟩ := if_neg h
theorem placeOk_nat {n : Nat} (h : n < 16) : placeOk (n : Int) := ⟨by omega, by omega⟩
theorem pathE_yes {pl : Int} (h : placeOk pl) : pathE pl = 0 := if_pos h
theorem pathE_no {pl : Int} (h : ¬ placeOk pl) : pathE pl = 1 := if_neg h
theorem setT_yes {M : TM} {p : Int} {a : Acct} (h : placeOk p) (k : rightS a.s = true) : setT M p a = setM M p a := if_pos ⟨h, k⟩
theorem setT_no {M : TM} {p : Int} {a : Acct} (h : ¬ (placeOk p ∧ rightS a.s = true)) : setT M p a = M := if_neg h
theorem setE_yes {p : Int} {a : Acct} (h : placeOk p) (k : rightS a.s = true) : setE p a = 0 := if_pos ⟨h, k⟩
theorem setE_no {p : Int} {a : Acct} (h : ¬ (placeOk p ∧ rightS a.s = true)) : setE p a = 1 := if_neg h
theorem bare_yes {M : TM} {h q lo hi i : Nat} (e1 : q * 2 ^ h = lo) (e2 : (q + 1) * 2 ^ h = hi) (hb : ∀ k : Nat, lo ≤ k → k < i → getM M (k : Int) = none) (hi' : hi ≤ i) : Bare M h q := fun k h1 h2 => hb k (by omega) (by omega)
theorem bare_no {M : TM} {h q lo hi i : Nat} (e1 : q * 2 ^ h = lo) (e2 : (q + 1) * 2 ^ h = hi) (h1 : lo ≤ i) (h2 : i < hi) (k : hasAt M (i : Int) = true) : ¬ Bare M h q := fun hb => by
  have := hb i (by omega) (by omega)
  unfold hasAt at k; rw [this] at k; cases k
theorem nodeL_leaf {M : TM} {q : Nat} (h : ¬ Bare M 0 q) : accHa (acctAt M (q : Int)) = nodeL (getM M) 0 q := by
  show _ = leafL _
  cases hg : getM M (q : Int) with
  | some a => unfold acctAt; rw [hg]; rfl
  | none =>
    exfalso; apply h
    intro k h1 h2
    rw [show k = q by omega]; exact hg
theorem nodeL_ref {M : TM} {q : Nat} (h : hasAt M (q : Int) = true) : accHa (acctAt M (q : Int)) = nodeL (getM M) 0 q := by
  show _ = leafL _
  rw [has_yes h]; rfl
theorem nodeL_refno {M : TM} {q : Nat} (h : hasAt M (q : Int) = false) : accNone = nodeL (getM M) 0 q := by
  show _ = leafL _
  rw [has_no h]; rfl
theorem actM_0 {M : TM} {x : AAct} (h : x.do_ = 0) : actM M x = setT M x.place x.a ∧ actE x = setE x.place x.a ∧ actB M x = false := ⟨if_pos h, if_pos h, if_pos h⟩
theorem actM_1 {M : TM} {x : AAct} (h : x.do_ = 1) : actM M x = delM M x.place ∧ actE x = 0 ∧ actB M x = hasAt M x.place := by
  unfold actM actE actB
  rw [if_neg (by omega), if_pos h, if_neg (by omega), if_neg (by omega), if_pos h]
  exact ⟨rfl, rfl, rfl⟩
theorem actM_2 {M : TM} {x : AAct} (h : ¬ x.do_ = 0) (k : ¬ x.do_ = 1) : actM M x = M ∧ actE x = 0 ∧ actB M x = false := by
  unfold actM actE actB
  rw [if_neg h, if_neg k, if_neg h, if_neg h, if_neg k]
  exact ⟨rfl, rfl, rfl⟩
theorem sib_even {n : Nat} (h : n % 2 = 0) : sib n = n + 1 := if_pos h
theorem sib_odd {n : Nat} (h : ¬ n % 2 = 0) : sib n = n - 1 := if_neg h
theorem xor1 {n : Nat} (h : n < 16) : IntKind.i64.wrap (((BitVec.ofInt 64 ((n : Nat) : Int) ^^^ BitVec.ofInt 64 (1 : Int)).toNat : Nat) : Int) = ((sib n : Nat) : Int) := by
  rcases below16 h with rfl | rfl | rfl | rfl | rfl | rfl | rfl | rfl | rfl | rfl | rfl | rfl | rfl | rfl | rfl | rfl <;> kernel_rfl
theorem and1 {n : Nat} (h : n < 16) : IntKind.i64.wrap (((BitVec.ofInt 64 ((n : Nat) : Int) &&& BitVec.ofInt 64 (1 : Int)).toNat : Nat) : Int) = ((n % 2 : Nat) : Int) := by
  rcases below16 h with rfl | rfl | rfl | rfl | rfl | rfl | rfl | rfl | rfl | rfl | rfl | rfl | rfl | rfl | rfl | rfl <;> kernel_rfl
theorem sib_lt {n m : Nat} (h : n < 2 * m) : sib n < 2 * m := by unfold sib; split <;> omega
theorem hasAt_out {M : TM} (h : TrOk M) {p : Int} (e : ¬ placeOk p) : hasAt M p = false := by
  unfold hasAt placeOk at *
  rw [h.out (by omega)]; rfl
theorem path_even {g : Int → Option Acct} {q h at_ : Nat} (e : q / 2 ^ h = at_) (k : at_ % 2 = 0) : nodeL g h (at_ + 1) = pathL g q h := by rw [pathL, e, sib_even k]
theorem path_odd {g : Int → Option Acct} {q h at_ : Nat} (e : q / 2 ^ h = at_) (k : ¬ at_ % 2 = 0) : nodeL g h (at_ - 1) = pathL g q h := by rw [pathL, e, sib_odd k]
end Go.Alm

/- Layer 12's plain law: an order of keys, and the first greatest one. -/
namespace Go.Alm
open Go Go.RowKit

def cmpN (x y : Nat) : Int := if x < y then -1 else if y < x then 1 else 0
def cmpL : List Nat → List Nat → Int
  | x :: a, y :: b => if x < y then -1 else if y < x then 1 else cmpL a b
  | _, _ => 0
structure OKey where
  len : Nat
  draw : List Nat
  hash : List Nat
  deriving Inhabited
def cmpK (a b : OKey) : Int := if a.len < b.len then -1 else if b.len < a.len then 1 else if cmpL a.draw b.draw ≠ 0 then cmpL a.draw b.draw else cmpL a.hash b.hash

theorem cmpL_rng : ∀ a b : List Nat, cmpL a b = -1 ∨ cmpL a b = 0 ∨ cmpL a b = 1
  | [], _ => .inr (.inl rfl)
  | _ :: _, [] => .inr (.inl rfl)
  | x :: a, y :: b => by
    unfold cmpL
    have := cmpL_rng a b
    split <;> (try split) <;> omega
theorem cmpL_anti : ∀ a b : List Nat, cmpL a b = - cmpL b a
  | [], [] => rfl
  | [], _ :: _ => rfl
  | _ :: _, [] => rfl
  | x :: a, y :: b => by
    unfold cmpL
    have := cmpL_anti a b
    by_cases h1 : x < y
    · rw [if_pos h1, if_neg (by omega), if_pos h1]
    · by_cases h2 : y < x
      · rw [if_neg h1, if_pos h2, if_pos h2]; rfl
      · rw [if_neg h1, if_neg h2, if_neg h2, if_neg h1]; exact this
theorem cmpL_self : ∀ a : List Nat, cmpL a a = 0
  | [] => rfl
  | x :: a => by unfold cmpL; rw [if_neg (by omega), if_neg (by omega)]; exact cmpL_self a
theorem cmpL_eq : ∀ {a b : List Nat}, a.length = b.length → cmpL a b = 0 → a = b
  | [], [], _, _ => rfl
  | [], _ :: _, h, _ => by simp at h
  | _ :: _, [], h, _ => by simp at h
  | x :: a, y :: b, h, e => by
    unfold cmpL at e
    split at e
    · cases e
    · split at e
      · cases e
      · have : x = y := by omega
        rw [this, cmpL_eq (by simpa using h) e]
theorem cmpL_trans : ∀ {a b c : List Nat}, a.length = b.length → b.length = c.length → 0 ≤ cmpL a b → 0 ≤ cmpL b c → cmpL a b ≤ cmpL a c ∧ cmpL b c ≤ cmpL a c
  | [], [], [], _, _, _, _ => by simp [cmpL]
  | [], _ :: _, _, h, _, _, _ => by simp at h
  | _ :: _, [], _, h, _, _, _ => by simp at h
  | _, [], _ :: _, _, h, _, _ => by simp at h
  | _, _ :: _, [], _, h, _, _ => by simp at h
  | x :: a, y :: b, z :: c, h1, h2, h3, h4 => by
    have ih := cmpL_trans (a := a) (b := b) (c := c) (by simpa using h1) (by simpa using h2)
    have r1 := cmpL_rng a b
    have r2 := cmpL_rng b c
    have r3 := cmpL_rng a c
    unfold cmpL at h3 h4 ⊢
    by_cases p1 : x < y
    · rw [if_pos p1] at h3; omega
    · rw [if_neg p1] at h3 ⊢
      by_cases p2 : y < z
      · rw [if_pos p2] at h4; omega
      · rw [if_neg p2] at h4 ⊢
        by_cases q1 : y < x
        · rw [if_pos q1] at h3 ⊢
          rw [if_neg (by omega : ¬ x < z), if_pos (by omega : z < x)]
          by_cases q2 : z < y
          · rw [if_pos q2]; omega
          · rw [if_neg q2]; omega
        · rw [if_neg q1] at h3 ⊢
          by_cases q2 : z < y
          · rw [if_pos q2] at h4 ⊢
            rw [if_neg (by omega : ¬ x < z), if_pos (by omega : z < x)]
            omega
          · rw [if_neg q2] at h4 ⊢
            rw [if_neg (by omega : ¬ x < z), if_neg (by omega : ¬ z < x)]
            exact ih h3 h4

theorem cmpK_rng (a b : OKey) : cmpK a b = -1 ∨ cmpK a b = 0 ∨ cmpK a b = 1 := by
  unfold cmpK
  have := cmpL_rng a.draw b.draw
  have := cmpL_rng a.hash b.hash
  split <;> (try split) <;> (try split) <;> omega
theorem cmpK_anti (a b : OKey) : cmpK a b = - cmpK b a := by
  unfold cmpK
  have h1 := cmpL_anti a.draw b.draw
  have h2 := cmpL_anti a.hash b.hash
  by_cases p : a.len < b.len
  · rw [if_pos p, if_neg (by omega), if_pos p]
  · by_cases q : b.len < a.len
    · rw [if_neg p, if_pos q, if_pos q]; rfl
    · rw [if_neg p, if_neg q, if_neg q, if_neg p]
      split <;> split <;> omega
theorem cmpK_self (a : OKey) : cmpK a a = 0 := by
  unfold cmpK
  rw [if_neg (by omega), if_neg (by omega), cmpL_self, if_neg (by omega), cmpL_self]
structure OKey.Ok (a : OKey) : Prop where
  len : a.len < 4294967296
  draw : H32 a.draw
  hash : H32 a.hash
theorem cmpK_eq {a b : OKey} (ha : a.Ok) (hb : b.Ok) (e : cmpK a b = 0) : a = b := by
  obtain ⟨al, ad, ah⟩ := a
  obtain ⟨bl, bd, bh⟩ := b
  have l1 : ad.length = bd.length := ha.draw.len.trans hb.draw.len.symm
  have l2 : ah.length = bh.length := ha.hash.len.trans hb.hash.len.symm
  unfold cmpK at e
  simp only at e
  split at e
  · cases e
  · split at e
    · cases e
    · split at e
      · rename_i h; exact absurd e h
      · rename_i p q h
        have h := Classical.byContradiction fun h' => h h'
        have e1 := cmpL_eq l1 (by omega)
        have e2 := cmpL_eq l2 e
        have e3 : al = bl := by omega
        rw [e1, e2, e3]
theorem cmpK_iff {a b : OKey} (ha : a.Ok) (hb : b.Ok) : cmpK a b = 0 ↔ a = b := ⟨cmpK_eq ha hb, fun e => e ▸ cmpK_self a⟩
theorem cmpK_trans {a b c : OKey} (ha : a.Ok) (hb : b.Ok) (hc : c.Ok) (h3 : 0 ≤ cmpK a b) (h4 : 0 ≤ cmpK b c) : cmpK a b ≤ cmpK a c ∧ cmpK b c ≤ cmpK a c := by
  have t1 := cmpL_trans (a := a.draw) (b := b.draw) (c := c.draw) (ha.draw.len.trans hb.draw.len.symm) (hb.draw.len.trans hc.draw.len.symm)
  have t2 := cmpL_trans (a := a.hash) (b := b.hash) (c := c.hash) (ha.hash.len.trans hb.hash.len.symm) (hb.hash.len.trans hc.hash.len.symm)
  have r1 := cmpL_rng a.draw b.draw
  have r2 := cmpL_rng b.draw c.draw
  have r3 := cmpL_rng a.draw c.draw
  have r4 := cmpL_rng a.hash b.hash
  have r5 := cmpL_rng b.hash c.hash
  have r6 := cmpL_rng a.hash c.hash
  unfold cmpK at h3 h4 ⊢
  by_cases p1 : a.len < b.len
  · rw [if_pos p1] at h3; omega
  rw [if_neg p1] at h3 ⊢
  by_cases p2 : b.len < c.len
  · rw [if_pos p2] at h4; omega
  rw [if_neg p2] at h4 ⊢
  by_cases q1 : b.len < a.len
  · rw [if_pos q1] at h3 ⊢
    rw [if_neg (by omega : ¬ a.len < c.len), if_pos (by omega : c.len < a.len)]
    by_cases q2 : c.len < b.len
    · rw [if_pos q2]; omega
    · rw [if_neg q2]; split <;> omega
  rw [if_neg q1] at h3 ⊢
  by_cases q2 : c.len < b.len
  · rw [if_pos q2] at h4 ⊢
    rw [if_neg (by omega : ¬ a.len < c.len), if_pos (by omega : c.len < a.len)]
    split <;> omega
  rw [if_neg q2] at h4 ⊢
  rw [if_neg (by omega : ¬ a.len < c.len), if_neg (by omega : ¬ c.len < a.len)]
  by_cases d1 : cmpL a.draw b.draw = 0 <;> by_cases d2 : cmpL b.draw c.draw = 0
  · have e1 := cmpL_eq (ha.draw.len.trans hb.draw.len.symm) d1
    have d3 : cmpL a.draw c.draw = 0 := by rw [e1]; exact d2
    simp only [d1, d2, d3, ne_eq, not_true_eq_false, if_false] at h3 h4 ⊢
    exact t2 h3 h4
  · have e1 := cmpL_eq (ha.draw.len.trans hb.draw.len.symm) d1
    have d3 : cmpL a.draw c.draw = cmpL b.draw c.draw := by rw [e1]
    simp only [d1, d2, d3, ne_eq, not_true_eq_false, not_false_eq_true, if_false, if_true] at h3 h4 ⊢
    omega
  · have e2 := cmpL_eq (hb.draw.len.trans hc.draw.len.symm) d2
    have d3 : cmpL a.draw c.draw = cmpL a.draw b.draw := by rw [e2]
    simp only [d1, d2, d3, ne_eq, not_true_eq_false, not_false_eq_true, if_false, if_true] at h3 h4 ⊢
    omega
  · simp only [d1, d2, ne_eq, not_false_eq_true, if_true] at h3 h4 ⊢
    have := t1 h3 h4
    have d3 : ¬ cmpL a.draw c.draw = 0 := by omega
    simp only [d3, not_false_eq_true, if_true]
    exact this

/-! ### the first greatest one -/
def grtN (l : List OKey) : Nat → Int
  | 0 => -1
  | i + 1 => if grtN l i < 0 ∨ 0 < cmpK (l.getD i default) (l.getD (grtN l i).toNat default) then (i : Int) else grtN l i
def AllOk (l : List OKey) : Prop := ∀ x ∈ l, x.Ok
theorem AllOk.get {l : List OKey} (h : AllOk l) {i : Nat} (hi : i < l.length) : (l.getD i default).Ok := by
  rw [List.getD_eq_getElem?_getD, List.getElem?_eq_getElem hi]
  exact h _ (List.getElem_mem hi)
structure IsG (l : List OKey) (n at_ : Nat) : Prop where
  lt : at_ < n
  all : ∀ j, j < n → cmpK (l.getD j default) (l.getD at_ default) ≤ 0
  fst : ∀ j, j < at_ → cmpK (l.getD j default) (l.getD at_ default) < 0
theorem grtN_spec {l : List OKey} (h : AllOk l) : ∀ {n : Nat}, n ≤ l.length → 0 < n → ∃ m : Nat, grtN l n = (m : Int) ∧ IsG l n m
  | 0, _, hn => by omega
  | 1, hl, _ => ⟨0, by simp [grtN], by omega, fun j hj => by
      have : j = 0 := by omega
      subst this; rw [cmpK_self]; omega, fun j hj => by omega⟩
  | n + 2, hl, _ => by
    obtain ⟨m, hm, hg⟩ := grtN_spec h (n := n + 1) (by omega) (by omega)
    unfold grtN
    rw [hm]
    have ok := fun (i : Nat) (hi : i < n + 2) => h.get (i := i) (by omega)
    by_cases hc : (m : Int) < 0 ∨ 0 < cmpK (l.getD (n + 1) default) (l.getD (m : Int).toNat default)
    · rw [if_pos hc]
      have hc : 0 < cmpK (l.getD (n + 1) default) (l.getD m default) := by
        rcases hc with hc | hc
        · omega
        · simpa using hc
      refine ⟨n + 1, rfl, by omega, fun j hj => ?_, fun j hj => ?_⟩
      · rcases Nat.lt_or_ge j (n + 1) with hj' | hj'
        · have h1 := hg.all j hj'
          have h2 := cmpK_anti (l.getD j default) (l.getD m default)
          have := cmpK_trans (ok (n + 1) (by omega)) (ok m (by have := hg.lt; omega)) (ok j (by omega)) (by omega) (by omega)
          have := cmpK_anti (l.getD j default) (l.getD (n + 1) default)
          omega
        · have : j = n + 1 := by omega
          subst this; rw [cmpK_self]; omega
      · have h1 := hg.all j hj
        have h2 := cmpK_anti (l.getD j default) (l.getD m default)
        have := cmpK_trans (ok (n + 1) (by omega)) (ok m (by have := hg.lt; omega)) (ok j (by omega)) (by omega) (by omega)
        have := cmpK_anti (l.getD j default) (l.getD (n + 1) default)
        omega
    · rw [if_neg hc]
      refine ⟨m, rfl, by have := hg.lt; omega, fun j hj => ?_, hg.fst⟩
      rcases Nat.lt_or_ge j (n + 1) with hj' | hj'
      · exact hg.all j hj'
      · have : j = n + 1 := by omega
        subst this
        have : ¬ 0 < cmpK (l.getD (n + 1) default) (l.getD m default) := fun h => hc (.inr (by simpa using h))
        omega
theorem grtN_neg {l : List OKey} (h : AllOk l) {n : Nat} (hn : n ≤ l.length) : grtN l n < 0 ↔ n = 0 := by
  rcases Nat.eq_zero_or_pos n with rfl | hp
  · simp [grtN]
  · obtain ⟨m, hm, _⟩ := grtN_spec h hn hp
    constructor <;> intro <;> omega
/-- The reference's: the first one that none is greater than. -/
theorem IsG.eq {l : List OKey} (h : AllOk l) {i : Nat} (hi : i < l.length) (hall : ∀ k, k < l.length → cmpK (l.getD k default) (l.getD i default) ≤ 0) (hno : ∀ j, j < i → ∃ k, k < l.length ∧ 0 < cmpK (l.getD k default) (l.getD j default)) : grtN l l.length = (i : Int) := by
  obtain ⟨m, hm, hg⟩ := grtN_spec h (Nat.le_refl _) (by omega)
  rw [hm]
  rcases Nat.lt_trichotomy m i with hl | he | hl
  · obtain ⟨k, hk, hgt⟩ := hno m hl
    have := hg.all k hk
    omega
  · rw [he]
  · have h1 := hg.fst i hl
    have h2 := hall m hg.lt
    have := cmpK_anti (l.getD i default) (l.getD m default)
    omega
theorem grtN_none {l : List OKey} (h : AllOk l) (hno : ∀ j, j < l.length → ∃ k, k < l.length ∧ 0 < cmpK (l.getD k default) (l.getD j default)) : grtN l l.length = -1 := by
  rcases Nat.eq_zero_or_pos l.length with h0 | hp
  · rw [h0]; rfl
  · obtain ⟨m, _, hg⟩ := grtN_spec h (Nat.le_refl _) hp
    obtain ⟨k, hk, hgt⟩ := hno m hg.lt
    have := hg.all k hk
    omega
end Go.Alm

/- Rows of records: what is appended, and what is read. -/
namespace Go.Alm
open Go Go.RowKit
section
variable {X : Type}
def RL (f : X → Array Value) : List X → List Value
  | [] => []
  | x :: l => (f x).toList ++ RL f l
theorem RL_length {f : X → Array Value} {sz : Nat} (hs : ∀ x, (f x).size = sz) : ∀ l : List X, (RL f l).length = l.length * sz
  | [] => by simp [RL]
  | x :: l => by rw [RL, List.length_append, RL_length hs l, Array.length_toList, hs, List.length_cons, Nat.succ_mul, Nat.add_comm]
theorem RL_append (f : X → Array Value) : ∀ l m : List X, RL f (l ++ m) = RL f l ++ RL f m
  | [], _ => rfl
  | x :: l, m => by rw [List.cons_append, RL, RL, RL_append f l m, List.append_assoc]
theorem RL_snoc (f : X → Array Value) (l : List X) (x : X) : RL f l ++ (f x).toList = RL f (l ++ [x]) := by
  rw [RL_append, RL, RL, List.append_nil]
theorem RL_drop {f : X → Array Value} {sz : Nat} (hs : ∀ x, (f x).size = sz) : ∀ (l : List X) (k : Nat), (RL f l).drop (k * sz) = RL f (l.drop k)
  | l, 0 => by simp
  | [], k + 1 => by simp [RL]
  | x :: l, k + 1 => by
    have : (k + 1) * sz = (f x).toList.length + k * sz := by rw [Array.length_toList, hs, Nat.succ_mul, Nat.add_comm]
    rw [RL, this, List.drop_length_add_append, RL_drop hs l k, List.drop_succ_cons]
/-- A part of an element. -/
theorem RL_sub {f : X → Array Value} {sz : Nat} (hs : ∀ x, (f x).size = sz) (d : X) {l : List X} {k off m : Nat} (hk : k < l.length) (hm : off + m ≤ sz) : ((RL f l).drop (k * sz + off)).take m = ((f (l.getD k d)).toList.drop off).take m := by
  have e : l.drop k = l.getD k d :: l.drop (k + 1) := by
    rw [List.drop_eq_getElem_cons hk, List.getD_eq_getElem?_getD, List.getElem?_eq_getElem hk, Option.getD_some]
  rw [← List.drop_drop, RL_drop hs, e, RL]
  rw [List.drop_append_of_le_length (by rw [Array.length_toList, hs]; omega), List.take_append_of_le_length (by rw [List.length_drop, Array.length_toList, hs]; omega)]
theorem RL_whole {f : X → Array Value} {sz : Nat} (hs : ∀ x, (f x).size = sz) (d : X) {l : List X} {k : Nat} (hk : k < l.length) : ((RL f l).drop (k * sz)).take sz = (f (l.getD k d)).toList := by
  have h := RL_sub hs d (l := l) (k := k) (off := 0) (m := sz) hk (by omega)
  rw [Nat.add_zero, List.drop_zero] at h
  rw [h, List.take_of_length_le (by simp [hs])]
theorem RL_get {f : X → Array Value} {sz : Nat} (hs : ∀ x, (f x).size = sz) (d : X) {l : List X} {k off : Nat} (hk : k < l.length) (hm : off < sz) : (RL f l)[k * sz + off]? = (f (l.getD k d)).toList[off]? := by
  have h := congrArg (·[0]?) (RL_sub (m := 1) hs d hk (show off + 1 ≤ sz from hm))
  simpa [List.getElem?_take, List.getElem?_drop] using h
end
section
variable {P : Program} {Q : Exit → Act → World → Prop} {L : List Iv} {s : St} {RO FZ OW : List Rc} {X : Type}
/-- One record is appended. -/
theorem m_appR (n i e sz bytes : Nat) (f : X → Array Value) (l : List X) (x : X) (src : SrcW P sz (appTx (go P n s)) (RO ++ (FZ ++ OW.eraseIdx i)) (appX (go P n s)) 1 (f x).toList) (hb : l.length + 1 ≤ maxLen ∧ (l.length + 1) * bytes ≤ 140737488355328)
    (k : ∀ ao cap, J P Q L (nx (go P n s) (.slice ao (l ++ [x]).length cap)) RO FZ (OW.set i (.row e sz ao (l ++ [x]).length cap (RL f (l ++ [x])))))
    (hr : gr OW i = .row e sz (gr OW i).ao l.length (gr OW i).cap (RL f l) := by kernel_rfl) (hv : appS (go P n s) = .slice (gr OW i).ao l.length (gr OW i).cap := by kernel_rfl)
    (hc : (appOk P (go P n s) e sz bytes && (acts (go P n s) && onW (go P n s))) = true := by kernel_rfl) : J P Q L s RO FZ OW := by
  refine m_app n i e sz bytes l.length 1 (RL f l) (f x).toList (RL f (l ++ [x])) src hb (RL_snoc f l x) (fun ao cap => ?_) hr hv hc
  have h := k ao cap
  rw [List.length_append] at h
  exact h
theorem m_lxF (n i p off : Nat) (xs : List Value) (u : Value) (hu : xs[p + off]? = some u) (k : J P Q L (nx (go P n s) u) RO FZ OW)
    (h1 : (go P n s).a.eval (ldX (go P n s)) = .pointer (some (((oad (gr (RO ++ (FZ ++ OW)) i).ao).add p).add off)) := by kernel_rfl) (h3 : (gr (RO ++ (FZ ++ OW)) i).xs = xs := by kernel_rfl)
    (hc : ((loadOf (cur (go P n s)).op).isSome && (rowed P (ldT (go P n s)) == some false) && (gr (RO ++ (FZ ++ OW)) i).isRd && (onW (go P n s) && rdOk (go P n s) i (RO ++ FZ).length)) = true := by kernel_rfl) : J P Q L s RO FZ OW :=
  m_lx n i (p + off) xs u hu k (by rw [h1, add_add]) h3 hc
theorem m_lxNF (n i p off sz : Nat) (xs : List Value) (vs : Array Value) (hu : (xs.drop (p + off)).take sz = vs.toList) (hs : vs.size = sz) (k : J P Q L (nx (go P n s) (.agg vs)) RO FZ OW)
    (h1 : (go P n s).a.eval (ldX (go P n s)) = .pointer (some (((oad (gr (RO ++ (FZ ++ OW)) i).ao).add p).add off)) := by kernel_rfl) (h3 : (gr (RO ++ (FZ ++ OW)) i).xs = xs := by kernel_rfl)
    (hc : ((loadOf (cur (go P n s)).op).isSome && (rowed P (ldT (go P n s)) == some true) && (sizeT P (ldT (go P n s)) == some sz) && Nat.blt 0 sz && (gr (RO ++ (FZ ++ OW)) i).isRd && (onW (go P n s) && rdOk (go P n s) i (RO ++ FZ).length)) = true := by kernel_rfl) : J P Q L s RO FZ OW :=
  m_lxN n i (p + off) sz xs vs hu hs k (by rw [h1, add_add]) h3 hc
/-- A block's cells, said otherwise. -/
theorem m_cells (i b te : Nat) (c c' : Array Value) (e : c = c') (k : J P Q L s RO FZ (OW.set i (.blk b c' te))) (hr : gr OW i = .blk b c te := by kernel_rfl) (h : Nat.blt i OW.length = true := by kernel_rfl) : J P Q L s RO FZ OW :=
  m_view i (.blk b c' te) (by rw [hr, e]; exact .refl) k h
/-- A row's elements, said otherwise. -/
theorem m_elems (i e sz : Nat) (ao : Option Addr) (n n' cap : Nat) (xs xs' : List Value) (he : n = n' ∧ xs = xs') (k : J P Q L s RO FZ (OW.set i (.row e sz ao n' cap xs'))) (hr : gr OW i = .row e sz ao n cap xs := by kernel_rfl) (h : Nat.blt i OW.length = true := by kernel_rfl) : J P Q L s RO FZ OW :=
  m_view i (.row e sz ao n' cap xs') (by rw [hr, he.1, he.2]; exact .refl) k h
end
end Go.Alm

/- Layer 12's keys by their cells; comparing, step by step. -/
namespace Go.Alm
open Go Go.RowKit
def OKey.cells (k : OKey) : Array Value := aj (aj #[.int .u32 (k.len : Int)] (hv k.draw)) (hv k.hash)
theorem OKey.size (k : OKey) : k.cells.size = 65 := by rw [OKey.cells, aj_size, aj_size, hv_size, hv_size]; rfl
theorem OKey.wf {k : OKey} (h : k.Ok) : WfA k.cells := ((WfA.lit (l := [.int .u32 (k.len : Int)]) ⟨wf_n32 h.len, trivial⟩).app h.draw.wf).app h.hash.wf
theorem OKey.inj {x y : OKey} (h : x.Ok) (k : y.Ok) : x.cells = y.cells ↔ x = y := ⟨fun e => by
  unfold OKey.cells at e
  obtain ⟨e, e3⟩ := aj_inj (by simp [aj_size, hv_size]) e
  obtain ⟨e1, e2⟩ := aj_inj (by simp) e
  have e1 := lit1_inj e1
  have e2 := (hv_iff h.draw.len k.draw.len).1 e2
  have e3 := (hv_iff h.hash.len k.hash.len).1 e3
  cases x; cases y
  simp_all, fun e => by rw [e]⟩
theorem h32lit {l : List Nat} (h : (Nat.beq l.length 32 && l.all (fun x => Nat.blt x 256)) = true) : H32 l := by
  rw [Bool.and_eq_true] at h
  exact ⟨Nat.eq_of_beq_eq_true h.1, fun x hx => by simpa using List.all_eq_true.1 h.2 x hx⟩
theorem hv_get (l : List Nat) {i : Nat} (h : i < 32) : (hv l)[0 + i * 1]? = some (.int .u8 ((l.getD i 0 : Nat) : Int)) := by
  simp [hv, h]
theorem drop_cons {l : List Nat} {i : Nat} (h : i < l.length) : l.drop i = l.getD i 0 :: l.drop (i + 1) := by
  rw [List.drop_eq_getElem_cons h, List.getD_eq_getElem?_getD, List.getElem?_eq_getElem h]; rfl
theorem cmpL_drop {a b : List Nat} {i : Nat} (ha : i < a.length) (hb : i < b.length) : cmpL (a.drop i) (b.drop i) = if a.getD i 0 < b.getD i 0 then -1 else if b.getD i 0 < a.getD i 0 then 1 else cmpL (a.drop (i + 1)) (b.drop (i + 1)) := by
  rw [drop_cons ha, drop_cons hb, cmpL]
theorem cmpL_end {a b : List Nat} {i : Nat} (ha : a.length ≤ i) : cmpL (a.drop i) (b.drop i) = 0 := by
  rw [List.drop_eq_nil_of_le ha]; rfl
theorem cmpN_lt {x y : Nat} (h : x < y) : cmpN x y = -1 := if_pos h
theorem cmpN_gt {x y : Nat} (h : y < x) : cmpN x y = 1 := by unfold cmpN; rw [if_neg (by omega), if_pos h]
theorem cmpN_eq {x y : Nat} (h : x = y) : cmpN x y = 0 := by unfold cmpN; rw [if_neg (by omega), if_neg (by omega)]
theorem cmpN_0 {x y : Nat} (h : cmpN x y = 0) : x = y := by
  unfold cmpN at h
  split at h
  · cases h
  · split at h
    · cases h
    · omega
theorem cmpL_hit {a b : List Nat} {i : Nat} (ha : i < a.length) (hb : i < b.length) (hx : cmpL a b = cmpL (a.drop i) (b.drop i)) (h : ¬ cmpN (a.getD i 0) (b.getD i 0) = 0) : cmpN (a.getD i 0) (b.getD i 0) = cmpL a b := by
  rw [hx, cmpL_drop ha hb]
  unfold cmpN at h ⊢
  split
  · rfl
  · split
    · rfl
    · rename_i h1 h2; rw [if_neg h1, if_neg h2] at h; exact absurd rfl h
theorem cmpL_miss {a b : List Nat} {i : Nat} (ha : i < a.length) (hb : i < b.length) (hx : cmpL a b = cmpL (a.drop i) (b.drop i)) (h : cmpN (a.getD i 0) (b.getD i 0) = 0) : cmpL a b = cmpL (a.drop (i + 1)) (b.drop (i + 1)) := by
  have := cmpN_0 h
  rw [hx, cmpL_drop ha hb, if_neg (by omega), if_neg (by omega)]
theorem cmpK_lt {a b : OKey} (h : a.len < b.len) : cmpK a b = -1 := if_pos h
theorem cmpK_gt {a b : OKey} (h : b.len < a.len) : cmpK a b = 1 := by unfold cmpK; rw [if_neg (by omega), if_pos h]
theorem cmpK_d {a b : OKey} (h : a.len = b.len) (hd : ¬ cmpL a.draw b.draw = 0) : cmpK a b = cmpL a.draw b.draw := by unfold cmpK; rw [if_neg (by omega), if_neg (by omega), if_pos hd]
theorem cmpK_h {a b : OKey} (h : a.len = b.len) (hd : cmpL a.draw b.draw = 0) : cmpK a b = cmpL a.hash b.hash := by unfold cmpK; rw [if_neg (by omega), if_neg (by omega), if_neg (by rw [hd]; decide)]
theorem cmpK_n1 {a b : OKey} (h : ¬ cmpN a.len b.len = 0) : cmpN a.len b.len = cmpK a b := by
  rcases Nat.lt_trichotomy a.len b.len with h1 | h1 | h1
  · rw [cmpN_lt h1, cmpK_lt h1]
  · exact absurd (cmpN_eq h1) h
  · rw [cmpN_gt h1, cmpK_gt h1]
theorem take_snocD {α : Type} [Inhabited α] {l : List α} {i : Nat} (h : i < l.length) : l.take (i + 1) = l.take i ++ [l.getD i default] := by
  rw [List.take_add_one, List.getElem?_eq_getElem h, List.getD_eq_getElem?_getD, List.getElem?_eq_getElem h]; rfl
theorem AllOk.take {l : List OKey} (h : AllOk l) (n : Nat) : AllOk (l.take n) := fun x hx => h x (List.mem_of_mem_take hx)
theorem grtN_take (l : List OKey) : ∀ {n : Nat}, n ≤ l.length → grtN (l.take n) n = grtN l n := by
  have key : ∀ (m n : Nat), n ≤ m → m ≤ l.length → grtN (l.take m) n = grtN l n := by
    intro m n
    induction n with
    | zero => intros; rfl
    | succ i ih =>
      intro h1 h2
      have g : ∀ j, j < m → (l.take m).getD j default = l.getD j default := fun j hj => by
        rw [List.getD_eq_getElem?_getD, List.getD_eq_getElem?_getD, List.getElem?_take, if_pos hj]
      unfold grtN
      rw [ih (by omega) h2, g i (by omega)]
      by_cases hn : grtN l i < 0
      · rw [if_pos (.inl hn), if_pos (.inl hn)]
      · have : ∀ k, grtN l k < (k : Int) ∨ k = 0 := by
          intro k
          induction k with
          | zero => exact .inr rfl
          | succ k ih =>
            left; unfold grtN; split
            · omega
            · rcases ih with h | h
              · omega
              · subst h; simp [grtN]
        rw [g (grtN l i).toNat (by rcases this i with h | h; omega; subst h; simp [grtN] at hn)]
  exact fun {_} hn => key _ _ (Nat.le_refl _) hn
theorem rng_i64 {x : Int} (h : x = -1 ∨ x = 0 ∨ x = 1) : IntKind.i64.wrap (-x) = -x := wrapN_i64 (by omega) (by omega)
end Go.Alm

/- Layer 15: what is asked first; trees that are set anew. -/
namespace Go.Alm
open Go Go.RowKit
def awA : Acct := ⟨⟨#[97]⟩, 0, 0⟩
def awM : TM := setM [] 5 awA
theorem awA_ok : awA.Ok := ⟨by decide, by decide, by decide⟩
theorem awA_r : rightS awA.s = true := by kernel_rfl
theorem awA_e : accE awA.s = 0 := accE_yes awA_r
theorem p5 : placeOk 5 := by decide
theorem p16 : ¬ placeOk 16 := by decide
theorem p4 : placeOk 4 := by decide
theorem awSet : setT [] 5 awA = awM := setT_yes p5 awA_r
theorem awSetE : setE 5 awA = 0 := setE_yes p5 awA_r
theorem awM_ok : TrOk awM := TrOk.nil.set p5 awA_ok awA_r
theorem awGet1 : acctAt awM 5 = awA := rfl
theorem awGet2 : hasAt awM 5 = true := rfl
theorem awRoot0 : nodeL (getM ([] : TM)) 4 0 = bareL 4 := nodeL_bare (M := []) fun _ _ _ => rfl
theorem awRoot1 : nodeL (getM awM) 4 0 ≠ bareL 4 := of_decide_eq_false (by kernel_rfl)
theorem awLen : awM.length = 1 := rfl
theorem awDel : delM awM 5 = [] := rfl
theorem awHas0 : hasAt ([] : TM) 5 = false := rfl
theorem awDel0 : delM ([] : TM) 5 = [] := rfl
theorem awSet16 : setT ([] : TM) 16 awA = [] := setT_no fun h => p16 h.1
theorem awSetE16 : setE 16 awA = 1 := setE_no fun h => p16 h.1
theorem awPE : pathE 4 = 0 := pathE_yes p4
theorem awP : pathP (getM awM) 4 = ⟨accHa awA, pathL (getM awM) 4 1, pathL (getM awM) 4 2, pathL (getM awM) 4 3⟩ := by
  rw [pathP_yes (pl := 4) (q := 4) rfl (by decide)]; rfl
/-! ### a tree that is set anew -/
theorem len_setM {M : TM} {p : Int} {a : Acct} (h : hasAt M p = false) : (setM M p a).length = M.length + 1 := by
  unfold setM
  unfold hasAt at h
  rw [if_neg (by rw [h]; decide), List.length_append]; rfl
theorem cnt_same {M N : TM} : ∀ n : Nat, (∀ k : Nat, k < n → getM M (k : Int) = getM N (k : Int)) → cntM M n = cntM N n
  | 0, _ => rfl
  | n + 1, h => by
    unfold cntM hasAt
    rw [cnt_same n (fun k hk => h k (by omega)), h n (by omega)]
theorem len_same {M N : TM} (hM : TrOk M) (hN : TrOk N) (h : ∀ k : Nat, k < 16 → getM M (k : Int) = getM N (k : Int)) : M.length = N.length := by
  rw [cnt_len hM, cnt_len hN, cnt_same 16 h]
/-- What stands from place `n` on. -/
def From (M U : TM) (n : Nat) : Prop := ∀ k : Nat, k < 16 → getM U (k : Int) = if n ≤ k then getM M (k : Int) else none
theorem From.start (M : TM) : From M [] 16 := fun k hk => by rw [if_neg (by omega)]; rfl
theorem From.has {M U : TM} {n : Nat} (h : From M U (n + 1)) (hn : n < 16) : hasAt U (n : Int) = false := by
  unfold hasAt; rw [h n hn, if_neg (by omega)]; rfl
theorem From.yes {M U : TM} {n : Nat} (h : From M U (n + 1)) (_ : n < 16) (hh : hasAt M (n : Int) = true) : From M (setM U (n : Int) (acctAt M (n : Int))) n := fun k hk => by
  rw [getM_set]
  by_cases e : (n : Int) = (k : Int)
  · have : n = k := by omega
    subst this
    rw [if_pos e, if_pos (Nat.le_refl _), has_yes hh]
  · rw [if_neg e, h k hk]
    by_cases e2 : n ≤ k
    · rw [if_pos e2, if_pos (by omega)]
    · rw [if_neg e2, if_neg (by omega)]
theorem From.no {M U : TM} {n : Nat} (h : From M U (n + 1)) (hh : hasAt M (n : Int) = false) : From M U n := fun k hk => by
  rw [h k hk]
  by_cases e : n = k
  · subst e; rw [if_neg (by omega), if_pos (Nat.le_refl _), has_no hh]
  · by_cases e2 : n + 1 ≤ k
    · rw [if_pos e2, if_pos (by omega)]
    · rw [if_neg e2, if_neg (by omega)]
theorem From.end {M U : TM} (h : From M U 0) : ∀ k : Nat, k < 16 → getM U (k : Int) = getM M (k : Int) := fun k hk => by rw [h k hk, if_pos (Nat.zero_le _)]
theorem acctAt_set {M : TM} (h : TrOk M) {p : Int} (hh : hasAt M p = true) : setE p (acctAt M p) = 0 ∧ ∀ U : TM, setT U p (acctAt M p) = setM U p (acctAt M p) := by
  have hg := has_yes hh
  obtain ⟨h1, h2, _, h4⟩ := h.get hg
  exact ⟨setE_yes ⟨h1, h2⟩ h4, fun U => setT_yes ⟨h1, h2⟩ h4⟩
theorem accE_at {M : TM} (h : TrOk M) {p : Int} (hh : hasAt M p = true) : accE (acctAt M p).s = 0 := accE_yes (h.get (has_yes hh)).2.2.2
theorem from_cast {i : Nat} (h : i < 16) : ((15 - i : Nat) : Int) = ((15 - i : Nat) : Int) ∧ 16 - i = (15 - i) + 1 ∧ 16 - (i + 1) = 15 - i := ⟨rfl, by omega, by omega⟩
theorem from_no {M U : TM} {i : Nat} (h : From M U (16 - i)) (hi : i < 16) (hh : hasAt M ((15 - i : Nat) : Int) = false) : From M U (16 - (i + 1)) := by
  rw [show 16 - (i + 1) = 15 - i by omega]
  rw [show 16 - i = (15 - i) + 1 by omega] at h
  exact h.no hh
theorem from_yes {M U : TM} {i : Nat} (hM : TrOk M) (h : From M U (16 - i)) (hi : i < 16) (hh : hasAt M ((15 - i : Nat) : Int) = true) : From M (setT U ((15 - i : Nat) : Int) (acctAt M ((15 - i : Nat) : Int))) (16 - (i + 1)) := by
  rw [show 16 - (i + 1) = 15 - i by omega, (acctAt_set hM hh).2]
  rw [show 16 - i = (15 - i) + 1 by omega] at h
  exact h.yes (by omega) hh
theorem from_len {M U : TM} {i n : Nat} (hM : TrOk M) (h : From M U (16 - i)) (hn : n = U.length) (hi : i < 16) (hh : hasAt M ((15 - i : Nat) : Int) = true) : n + 1 = (setT U ((15 - i : Nat) : Int) (acctAt M ((15 - i : Nat) : Int))).length := by
  rw [(acctAt_set hM hh).2]
  rw [show 16 - i = (15 - i) + 1 by omega] at h
  rw [len_setM (h.has (by omega)), hn]
theorem path_still {M : TM} {x : AAct} : pathP (getM (actM M x)) x.place = pathP (getM M) x.place := by
  unfold pathP
  by_cases h : placeOk x.place
  · rw [if_pos h, if_pos h]
    have e : ∀ k : Nat, k ≠ x.place.toNat → getM (actM M x) (k : Int) = getM M (k : Int) := fun k hk => getM_act (by obtain ⟨h1, h2⟩ := h; omega)
    rw [path_own e 0, path_own e 1, path_own e 2, path_own e 3]
  · rw [if_neg h, if_neg h]
theorem join_l {g : Int → Option Acct} {q h n n2 : Nat} {a : List Nat} (ha : a = nodeL g h n) (hn : q / 2 ^ h = n) (h2 : n2 = n / 2) (e : n % 2 = 0) : joinL (h + 1) a (pathL g q h) = nodeL g (h + 1) n2 := by
  rw [ha, pathL, hn, h2]; exact step_l e
theorem join_r {g : Int → Option Acct} {q h n n2 : Nat} {a : List Nat} (ha : a = nodeL g h n) (hn : q / 2 ^ h = n) (h2 : n2 = n / 2) (e : ¬ n % 2 = 0) : joinL (h + 1) (pathL g q h) a = nodeL g (h + 1) n2 := by
  rw [ha, pathL, hn, h2]; exact step_r e
end Go.Alm

/- Layer 16, plainly: to where a path leads; a path's bytes. -/
namespace Go.Alm
open Go Go.RowKit
def upL (q h : Nat) (x b : List Nat) : List Nat := if q / 2 ^ h % 2 = 0 then x else b
def upR (q h : Nat) (x b : List Nat) : List Nat := if q / 2 ^ h % 2 = 0 then b else x
def up (q h : Nat) (x b : List Nat) : List Nat := joinL (h + 1) (upL q h x b) (upR q h x b)
theorem up_0 {q h : Nat} {x b : List Nat} (e : q / 2 ^ h % 2 = 0) : up q h x b = joinL (h + 1) x b := by rw [up, upL, upR, if_pos e, if_pos e]
theorem up_1 {q h : Nat} {x b : List Nat} (e : ¬ q / 2 ^ h % 2 = 0) : up q h x b = joinL (h + 1) b x := by rw [up, upL, upR, if_neg e, if_neg e]
theorem up_ok (q h : Nat) (x b : List Nat) : H32 (up q h x b) := joinL_ok _ _ _
theorem upL_ok {q h : Nat} {x b : List Nat} (hx : H32 x) (hb : H32 b) : H32 (upL q h x b) := by unfold upL; split <;> assumption
theorem upR_ok {q h : Nat} {x b : List Nat} (hx : H32 x) (hb : H32 b) : H32 (upR q h x b) := by unfold upR; split <;> assumption
theorem side_0 {q h : Nat} {x b : List Nat} (e : q / 2 ^ h % 2 = 0) : upL q h x b = x ∧ upR q h x b = b := ⟨if_pos e, if_pos e⟩
theorem side_1 {q h : Nat} {x b : List Nat} (e : ¬ q / 2 ^ h % 2 = 0) : upL q h x b = b ∧ upR q h x b = x := ⟨if_neg e, if_neg e⟩
def leadN (q : Nat) (leaf : List Nat) (p : Path4) : List Nat := up q 3 (up q 2 (up q 1 (up q 0 leaf p.a) p.b) p.c) p.d
def leadL (pl : Int) (leaf : List Nat) (p : Path4) : List Nat := if placeOk pl then leadN pl.toNat leaf p else Z32
theorem leadL_ok (pl : Int) (leaf : List Nat) (p : Path4) : H32 (leadL pl leaf p) := by
  unfold leadL; split
  · exact up_ok _ _ _ _
  · exact H32.zero
theorem leadL_yes {pl : Int} {q : Nat} {leaf : List Nat} {p : Path4} (h : pl = (q : Int)) (hq : q < 16) : leadL pl leaf p = leadN q leaf p := by
  subst h
  unfold leadL
  rw [if_pos (placeOk_nat hq), Int.toNat_natCast]
theorem leadL_no {pl : Int} {leaf : List Nat} {p : Path4} (h : ¬ placeOk pl) : leadL pl leaf p = Z32 := if_neg h
open Classical in
/-- Why an account doesn't stand there. -/
noncomputable def chkE (root : List Nat) (pl : Int) (a : Acct) (p : Path4) : Nat := if accE a.s = 0 then (if placeOk pl then (if leadL pl (accHa a) p = root then 0 else 13) else 1) else accE a.s
theorem chk_acc {root : List Nat} {pl : Int} {a : Acct} {p : Path4} (h : ¬ accE a.s = 0) : chkE root pl a p = accE a.s := if_neg h
theorem chk_pl {root : List Nat} {pl : Int} {a : Acct} {p : Path4} (h : accE a.s = 0) (k : ¬ placeOk pl) : chkE root pl a p = 1 := by rw [chkE, if_pos h, if_neg k]
theorem chk_no {root : List Nat} {pl : Int} {a : Acct} {p : Path4} (h : accE a.s = 0) (k : placeOk pl) (e : ¬ leadL pl (accHa a) p = root) : chkE root pl a p = 13 := by rw [chkE, if_pos h, if_pos k, if_neg e]
theorem chk_yes {root : List Nat} {pl : Int} {a : Acct} {p : Path4} (h : accE a.s = 0) (k : placeOk pl) (e : leadL pl (accHa a) p = root) : chkE root pl a p = 0 := by rw [chkE, if_pos h, if_pos k, if_pos e]
theorem accE_le (s : ByteArray) : accE s ≤ 1 := by unfold accE; split <;> omega
theorem pathE_le (pl : Int) : pathE pl ≤ 1 := by unfold pathE; split <;> omega
theorem pathE_0 {pl : Int} (h : pathE pl = 0) : placeOk pl := by
  unfold pathE at h; split at h
  · assumption
  · cases h
theorem pathE_1 {pl : Int} (h : ¬ pathE pl = 0) : ¬ placeOk pl := fun k => h (pathE_yes k)
theorem up_path (g : Int → Option Acct) (q h : Nat) : up q h (nodeL g h (q / 2 ^ h)) (pathL g q h) = nodeL g (h + 1) (q / 2 ^ (h + 1)) := by
  have e2 : q / 2 ^ (h + 1) = q / 2 ^ h / 2 := by rw [Nat.pow_succ, Nat.div_div_eq_div_mul]
  by_cases e : q / 2 ^ h % 2 = 0
  · rw [up_0 e, e2]; exact step_l e
  · rw [up_1 e, e2]; exact step_r e
/-- A tree's path leads to its root. -/
theorem lead_path {g : Int → Option Acct} {q : Nat} (hq : q < 16) : leadN q (nodeL g 0 q) ⟨pathL g q 0, pathL g q 1, pathL g q 2, pathL g q 3⟩ = nodeL g 4 0 := by
  have h0 := up_path g q 0
  rw [show q / 2 ^ 0 = q by simp] at h0
  have h1 := up_path g q 1
  have h2 := up_path g q 2
  have h3 := up_path g q 3
  unfold leadN
  rw [h0, h1, h2, h3, show q / 2 ^ (3 + 1) = 0 by omega]
/-! ### bytes -/
def pbL (p : Path4) : List Nat := p.a ++ p.b ++ p.c ++ p.d
theorem pbL_len {p : Path4} (h : p.Ok) : (pbL p).length = 128 := by unfold pbL; simp only [List.length_append, h.a.len, h.b.len, h.c.len, h.d.len]
theorem pbL_byt {p : Path4} (h : p.Ok) : Byt (pbL p) := ((h.a.byt.cat h.b.byt).cat h.c.byt).cat h.d.byt
def rdE (l : List Nat) : Nat := if l.length < 128 then 3 else if 128 < l.length then 4 else 0
def rdP (l : List Nat) : Path4 := if rdE l = 0 then ⟨l.take 32, (l.drop 32).take 32, ((l.drop 32).drop 32).take 32, (((l.drop 32).drop 32).drop 32).take 32⟩ else ⟨Z32, Z32, Z32, Z32⟩
theorem rdE_0 {l : List Nat} (h : ¬ l.length < 128) (k : ¬ 128 < l.length) : rdE l = 0 := by rw [rdE, if_neg h, if_neg k]
theorem rdE_3 {l : List Nat} (h : l.length < 128) : rdE l = 3 := if_pos h
theorem rdE_4 {l : List Nat} (k : 128 < l.length) : rdE l = 4 := by rw [rdE, if_neg (by omega), if_pos k]
theorem rdE_len {l : List Nat} (h : rdE l = 0) : l.length = 128 := by
  unfold rdE at h
  split at h
  · cases h
  · split at h
    · cases h
    · omega
theorem rdP_0 {l : List Nat} (h : rdE l = 0) : rdP l = ⟨l.take 32, (l.drop 32).take 32, ((l.drop 32).drop 32).take 32, (((l.drop 32).drop 32).drop 32).take 32⟩ := if_pos h
theorem rdP_n {l : List Nat} (h : ¬ rdE l = 0) : rdP l = ⟨Z32, Z32, Z32, Z32⟩ := if_neg h
theorem byt_take {l : List Nat} (h : Byt l) (n : Nat) : Byt (l.take n) := fun x hx => h x (List.mem_of_mem_take hx)
theorem byt_drop {l : List Nat} (h : Byt l) (n : Nat) : Byt (l.drop n) := fun x hx => h x (List.mem_of_mem_drop hx)
theorem h32_take {l : List Nat} (h : Byt l) (k : 32 ≤ l.length) : H32 (l.take 32) := ⟨by rw [List.length_take]; omega, byt_take h 32⟩
theorem rdP_ok {l : List Nat} (h : Byt l) : (rdP l).Ok := by
  unfold rdP; split
  · rename_i e
    have := rdE_len e
    exact ⟨h32_take h (by omega), h32_take (byt_drop h 32) (by rw [List.length_drop]; omega), h32_take (byt_drop (byt_drop h 32) 32) (by rw [List.length_drop, List.length_drop]; omega), h32_take (byt_drop (byt_drop (byt_drop h 32) 32) 32) (by rw [List.length_drop, List.length_drop, List.length_drop]; omega)⟩
  · exact ⟨H32.zero, H32.zero, H32.zero, H32.zero⟩
/-- A path comes back from its bytes. -/
theorem rd_bytes {p : Path4} (h : p.Ok) : rdE (pbL p) = 0 ∧ rdP (pbL p) = p := by
  have hl := pbL_len h
  have e : rdE (pbL p) = 0 := rdE_0 (by omega) (by omega)
  refine ⟨e, ?_⟩
  rw [rdP_0 e]
  obtain ⟨a, b, c, d⟩ := p
  obtain ⟨ha, hb, hc, hd⟩ := h
  have e1 : pbL ⟨a, b, c, d⟩ = a ++ (b ++ (c ++ d)) := by simp [pbL]
  have t : ∀ x y : List Nat, x.length = 32 → (x ++ y).take 32 = x ∧ (x ++ y).drop 32 = y := fun x y hx => ⟨by rw [← hx, List.take_left], by rw [← hx, List.drop_left]⟩
  have td : d.take 32 = d := List.take_of_length_le (by rw [hd.len]; exact Nat.le_refl _)
  rw [e1, (t a _ ha.len).1, (t a _ ha.len).2, (t b _ hb.len).1, (t b _ hb.len).2, (t c _ hc.len).1, (t c _ hc.len).2, td]
def rootL (a : Acct) (pl : Int) (p : Path4) : List Nat := if accE a.s = 0 then leadL pl (accHa a) p else Z32
def rootE (a : Acct) (pl : Int) : Nat := if accE a.s = 0 then pathE pl else accE a.s
theorem rootL_ok (a : Acct) (pl : Int) (p : Path4) : H32 (rootL a pl p) := by
  unfold rootL; split
  · exact leadL_ok _ _ _
  · exact H32.zero
theorem root_0 {a : Acct} {pl : Int} {p : Path4} (h : accE a.s = 0) : rootL a pl p = leadL pl (accHa a) p ∧ rootE a pl = pathE pl := ⟨if_pos h, if_pos h⟩
theorem root_n {a : Acct} {pl : Int} {p : Path4} (h : ¬ accE a.s = 0) : rootL a pl p = Z32 ∧ rootE a pl = accE a.s := ⟨if_neg h, if_neg h⟩
theorem rootE_le (a : Acct) (pl : Int) : rootE a pl ≤ 1 := by
  have h1 := accE_le a.s; have h2 := pathE_le pl
  unfold rootE; split <;> omega
end Go.Alm

/- Slices of slices; rows of records that are appended. -/
namespace Go.Alm
open Go Go.RowKit
section
variable {P : Program} {Q : Exit → Act → World → Prop} {L : List Iv} {s : St} {RO FZ OW : List Rc} {X : Type}
def slOp (s : St) : Nat × Operand × Option Operand × Option Operand × Option Operand := (sliceOf (cur s).op).getD (0, .tmp 0, none, none, none)
def slB (s : St) (x : Option Operand) : Option Value := x.map s.a.eval
theorem m_slc (n sz N c l h m N' C' : Nat) (ao : Option Addr) (hb : l ≤ h ∧ h ≤ m ∧ m ≤ c) (hN : h - l = N') (hC : m - l = C') (k : J P Q L (nx (go P n s) (.slice (cutA ao l m sz) N' C')) RO FZ OW)
    (h1 : (go P n s).a.eval (slOp (go P n s)).2.1 = .slice ao N c := by kernel_rfl) (hlo : boundOf (slB (go P n s) (slOp (go P n s)).2.2.1) 0 = some (l : Int) := by kernel_rfl)
    (hhi : boundOf (slB (go P n s) (slOp (go P n s)).2.2.2.1) N = some (h : Int) := by kernel_rfl) (hmx : boundOf (slB (go P n s) (slOp (go P n s)).2.2.2.2) c = some (m : Int) := by kernel_rfl)
    (hc : ((sliceOf (cur (go P n s)).op).isSome && isSl P (slOp (go P n s)).1 && (elemSz P (slOp (go P n s)).1 == some sz) && !(hasB (slB (go P n s) (slOp (go P n s)).2.2.2.2) && !hasB (slB (go P n s) (slOp (go P n s)).2.2.2.1)) && onW (go P n s)) = true := by kernel_rfl) : J P Q L s RO FZ OW := by
  simp only [Bool.and_eq_true, beq_iff_eq, Bool.not_eq_true'] at hc
  obtain ⟨⟨⟨⟨h4, h5⟩, h6⟩, h7⟩, h8⟩ := hc
  subst hN hC
  refine m_p n _ (fun w => ?_) k h8
  have ho : sliceOf (cur (go P n s)).op = some ((slOp (go P n s)).1, (slOp (go P n s)).2.1, (slOp (go P n s)).2.2.1, (slOp (go P n s)).2.2.2.1, (slOp (go P n s)).2.2.2.2) := by
    unfold slOp
    cases hl : sliceOf (cur (go P n s)).op with
    | none => rw [hl] at h4; cases h4
    | some x => rfl
  exact run_cut _ _ _ _ _ sz ao N c l h m ho h5 h6 h1 hlo hhi hmx h7 hb.1 hb.2.1 hb.2.2
theorem View.cutX {a : Rc} {ao : Option Addr} (l k m sz : Nat) (xs ys : List Value) (hk : m = l → k = 0) (hy : (xs.drop (l * sz)).take (k * sz) = ys) (h : a.isRd = true := by kernel_rfl) (hx : a.xs = xs := by kernel_rfl) (ha : a.ao = ao := by kernel_rfl) : View a (.rd (cutA ao l m sz) ys) := by
  subst hy hx ha
  refine ⟨fun w hA => ⟨Rd.cut (Rc.rd_of h hA) l k m sz hk, fun i hi => Rc.sub_ar h hA i (Sub.cut (fun hn he => hn ?_) i hi)⟩⟩
  rw [he]; simp
theorem B_cut (b : List Nat) (l k : Nat) : ((B b).drop (l * 1)).take (k * 1) = B ((b.drop l).take k) := by
  rw [Nat.mul_one, Nat.mul_one]; simp [B, List.map_drop, List.map_take]
theorem RL_cut {f : X → Array Value} {sz : Nat} (hs : ∀ x, (f x).size = sz) (x : List X) (l k : Nat) : ((RL f x).drop (l * sz)).take (k * sz) = RL f ((x.drop l).take k) := by
  rw [RL_drop hs]
  generalize x.drop l = y
  induction y generalizing k with
  | nil => simp [RL]
  | cons z y ih =>
    cases k with
    | zero => simp [RL]
    | succ k =>
      rw [List.take_succ_cons, RL, RL, Nat.succ_mul, Nat.add_comm (k * sz) sz, ← ih k]
      have : (f z).toList.length = sz := by simp [hs]
      rw [← this, List.take_length_add_append]
theorem SrcW.cutX {sz tx : Nat} {H : List Rc} {xv : Value} {ao : Option Addr} (i l k m c N : Nat) (xs ys : List Value) (hk : m = l → k = 0) (hy : (xs.drop (l * sz)).take (k * sz) = ys) (hN : ys.length = N * sz) (h1 : ∀ u ∈ ys, u.oneCell' = true) (hs : 0 < sz := by decide) (ht : isSl P tx = true := by kernel_rfl)
    (h : (gr H i).isRd = true := by kernel_rfl) (hx : (gr H i).xs = xs := by kernel_rfl) (ha : (gr H i).ao = ao := by kernel_rfl) (hv : xv = .slice (cutA ao l m sz) N c := by kernel_rfl) : SrcW P sz tx H xv N ys := fun w hA => by
  subst hv
  obtain ⟨e, ht⟩ := isSl_spec ht
  exact Rd.src ht ((View.cutX l k m sz xs ys hk hy h hx ha).A w (gr_A hA i)).1 hN hs h1
theorem RL_one {f : X → Array Value} (h : ∀ x, ∀ u ∈ (f x).toList, u.oneCell' = true) : ∀ l : List X, ∀ u ∈ RL f l, u.oneCell' = true
  | [], _, hu => by cases hu
  | x :: l, u, hu => by
    rcases List.mem_append.1 hu with hu | hu
    · exact h x u hu
    · exact RL_one h l u hu
/-- Records are appended. -/
theorem m_appRs (n i e sz bytes : Nat) (f : X → Array Value) (l l2 : List X) (src : SrcW P sz (appTx (go P n s)) (RO ++ (FZ ++ OW.eraseIdx i)) (appX (go P n s)) l2.length (RL f l2)) (hb : l.length + l2.length ≤ maxLen ∧ (l.length + l2.length) * bytes ≤ 140737488355328)
    (k : ∀ ao cap, J P Q L (nx (go P n s) (.slice ao (l ++ l2).length cap)) RO FZ (OW.set i (.row e sz ao (l ++ l2).length cap (RL f (l ++ l2)))))
    (hr : gr OW i = .row e sz (gr OW i).ao l.length (gr OW i).cap (RL f l) := by kernel_rfl) (hv : appS (go P n s) = .slice (gr OW i).ao l.length (gr OW i).cap := by kernel_rfl)
    (hc : (appOk P (go P n s) e sz bytes && (acts (go P n s) && onW (go P n s))) = true := by kernel_rfl) : J P Q L s RO FZ OW := by
  refine m_app n i e sz bytes l.length l2.length (RL f l) (RL f l2) (RL f (l ++ l2)) src hb (RL_append f l l2).symm (fun ao cap => ?_) hr hv hc
  have h := k ao cap
  rw [List.length_append] at h
  exact h
end
theorem dropR_cut {X : Type} {f : X → Array Value} {sz : Nat} (hs : ∀ x, (f x).size = sz) (l : List X) (n : Nat) : ((RL f l).drop (n * sz)).take ((l.length - n) * sz) = RL f (l.drop n) := by
  rw [RL_cut hs, List.take_of_length_le (by rw [List.length_drop]; exact Nat.le_refl _)]
theorem takeR_cut {X : Type} {f : X → Array Value} {sz : Nat} (hs : ∀ x, (f x).size = sz) (l : List X) (n : Nat) : ((RL f l).drop (0 * sz)).take (n * sz) = RL f (l.take n) := by
  rw [RL_cut hs, List.drop_zero]
theorem RL_get0 {X : Type} {f : X → Array Value} {sz : Nat} (hs : ∀ x, (f x).size = sz) (d : X) {l : List X} {k : Nat} (hk : k < l.length) (hm : 0 < sz) {v : Value} (h : (f (l.getD k d)).toList[0]? = some v) : (RL f l)[k * sz]? = some v := by
  have := RL_get (off := 0) hs d hk hm
  rw [Nat.add_zero] at this
  rw [this, h]
end Go.Alm
