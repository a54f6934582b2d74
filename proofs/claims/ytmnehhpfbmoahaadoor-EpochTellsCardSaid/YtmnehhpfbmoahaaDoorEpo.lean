/- Layer 8, plainly: what is told of an epoch, and what a block makes of it. -/
import Derived.Test.YtmnehhpfbmoahaaDoorNum
namespace Go.Alm
open Go Go.RowKit
abbrev Z32 : List Nat := List.replicate 32 0
structure EData where
  led : List Nat
  seed : List Nat
  start : List Nat
  lock : List Nat
  len : Nat
structure EData.Ok (d : EData) : Prop where
  led : H32 d.led
  seed : H32 d.seed
  start : H32 d.start
  lock : H32 d.lock
  len : d.len < 4294967296
def EData.cells (d : EData) : Array Value := aj (aj (aj (aj (hv d.led) (hv d.seed)) (hv d.start)) (hv d.lock)) #[.int .u32 (d.len : Int)]
structure EPair where
  now : EData
  next : EData
structure EPair.Ok (p : EPair) : Prop where
  now : p.now.Ok
  next : p.next.Ok
def EPair.cells (p : EPair) : Array Value := aj p.now.cells p.next.cells
structure EBlk where
  frm : Nat
  till : Nat
  prev : List Nat
  led : List Nat
  draw : List Nat
structure EBlk.Ok (b : EBlk) : Prop where
  frm : b.frm < 4294967296
  till : b.till < 4294967296
  prev : H32 b.prev
  led : H32 b.led
  draw : H32 b.draw
def EBlk.cells (b : EBlk) : Array Value := aj (aj (aj #[.int .u32 (b.frm : Int), .int .u32 (b.till : Int)] (hv b.prev)) (hv b.led)) (hv b.draw)
theorem EData.wf {d : EData} (h : d.Ok) : WfA d.cells := (((h.led.wf.app h.seed.wf).app h.start.wf).app h.lock.wf).app (WfA.lit (l := [.int .u32 (d.len : Int)]) ⟨wf_n32 h.len, trivial⟩)
theorem EPair.wf {p : EPair} (h : p.Ok) : WfA p.cells := (EData.wf h.now).app (EData.wf h.next)
def data0 : EData := ⟨Z32, Z32, Z32, Z32, 0⟩
def pair0 : EPair := ⟨data0, data0⟩
def dataF (led : List Nat) : EData := ⟨led, Z32, Z32, Z32, 1⟩
def pairF (led : List Nat) : EPair := ⟨dataF led, dataF led⟩
theorem data0_ok : data0.Ok := ⟨H32.zero, H32.zero, H32.zero, H32.zero, by decide⟩
theorem pair0_ok : pair0.Ok := ⟨data0_ok, data0_ok⟩
theorem dataF_ok {led : List Nat} (h : H32 led) : (dataF led).Ok := ⟨h, H32.zero, H32.zero, H32.zero, by show 1 < 4294967296; decide⟩
theorem pairF_ok {led : List Nat} (h : H32 led) : (pairF led).Ok := ⟨dataF_ok h, dataF_ok h⟩
def seedS : ByteArray := ⟨#[115, 101, 101, 100]⟩
def seedL (seed draw : List Nat) : List Nat := tag2 (sB seedS) seed draw
theorem seedL_length (seed draw : List Nat) : (seedL seed draw).length = 32 := tag2_length _ _ _
theorem seedL_byt (seed draw : List Nat) : Byt (seedL seed draw) := tag2_byt _ _ _
theorem seedL_ok (seed draw : List Nat) : H32 (seedL seed draw) := ⟨seedL_length _ _, seedL_byt _ _⟩
def lockD (d : EData) (b : EBlk) : EData := if b.till % 24 < 16 then ⟨d.led, seedL d.seed b.draw, d.start, b.prev, d.len⟩ else d
def nextD (p : EPair) (b : EBlk) : EData := if b.frm / 24 < b.till / 24 then ⟨b.led, p.next.seed, b.prev, Z32, 1⟩ else ⟨p.next.led, p.next.seed, p.next.start, p.next.lock, p.next.len + 1⟩
def nowD (p : EPair) (b : EBlk) : EData := if b.frm / 24 < b.till / 24 then p.next else p.now
def folE (p : EPair) (b : EBlk) : Nat := if b.till ≤ b.frm then 6 else if b.frm / 24 < b.till / 24 then 0 else if p.next.len + 1 < 4294967296 then 0 else 5
def folP (p : EPair) (b : EBlk) : EPair := if folE p b = 0 then ⟨nowD p b, lockD (nextD p b) b⟩ else pair0
/-! The cases. -/
theorem fol_slot {p : EPair} {b : EBlk} (h : b.till ≤ b.frm) : folE p b = 6 ∧ folP p b = pair0 := by
  have : folE p b = 6 := by unfold folE; rw [if_pos h]
  exact ⟨this, by unfold folP; rw [if_neg (by rw [this]; decide)]⟩
theorem fol_turn {p : EPair} {b : EBlk} (h : ¬ b.till ≤ b.frm) (ht : b.frm / 24 < b.till / 24) : folE p b = 0 ∧ folP p b = ⟨p.next, lockD ⟨b.led, p.next.seed, b.prev, Z32, 1⟩ b⟩ := by
  have : folE p b = 0 := by unfold folE; rw [if_neg h, if_pos ht]
  refine ⟨this, ?_⟩
  unfold folP nowD nextD
  rw [if_pos this, if_pos ht, if_pos ht]
theorem fol_stay {p : EPair} {b : EBlk} (h : ¬ b.till ≤ b.frm) (ht : ¬ b.frm / 24 < b.till / 24) (hl : p.next.len + 1 < 4294967296) : folE p b = 0 ∧ folP p b = ⟨p.now, lockD ⟨p.next.led, p.next.seed, p.next.start, p.next.lock, p.next.len + 1⟩ b⟩ := by
  have : folE p b = 0 := by unfold folE; rw [if_neg h, if_neg ht, if_pos hl]
  refine ⟨this, ?_⟩
  unfold folP nowD nextD
  rw [if_pos this, if_neg ht, if_neg ht]
theorem fol_over {p : EPair} {b : EBlk} (h : ¬ b.till ≤ b.frm) (ht : ¬ b.frm / 24 < b.till / 24) (hl : ¬ p.next.len + 1 < 4294967296) : folE p b = 5 ∧ folP p b = pair0 := by
  have : folE p b = 5 := by unfold folE; rw [if_neg h, if_neg ht, if_neg hl]
  exact ⟨this, by unfold folP; rw [if_neg (by rw [this]; decide)]⟩
theorem lockD_yes {d : EData} {b : EBlk} (h : b.till % 24 < 16) : lockD d b = ⟨d.led, seedL d.seed b.draw, d.start, b.prev, d.len⟩ := if_pos h
theorem lockD_no {d : EData} {b : EBlk} (h : ¬ b.till % 24 < 16) : lockD d b = d := if_neg h
theorem lockD_ok {d : EData} {b : EBlk} (hd : d.Ok) (hb : b.Ok) : (lockD d b).Ok := by
  unfold lockD
  split
  · exact ⟨hd.led, seedL_ok _ _, hd.start, hb.prev, hd.len⟩
  · exact hd
theorem folP_ok {p : EPair} {b : EBlk} (hp : p.Ok) (hb : b.Ok) : (folP p b).Ok := by
  by_cases h : b.till ≤ b.frm
  · rw [(fol_slot h).2]; exact pair0_ok
  · by_cases ht : b.frm / 24 < b.till / 24
    · rw [(fol_turn h ht).2]
      exact ⟨hp.next, lockD_ok ⟨hb.led, hp.next.seed, hb.prev, H32.zero, (by show 1 < 4294967296; decide)⟩ hb⟩
    · by_cases hl : p.next.len + 1 < 4294967296
      · rw [(fol_stay h ht hl).2]
        exact ⟨hp.now, lockD_ok ⟨hp.next.led, hp.next.seed, hp.next.start, hp.next.lock, hl⟩ hb⟩
      · rw [(fol_over h ht hl).2]; exact pair0_ok
end Go.Alm
