/- Layer 8's records: told by their cells. -/
import Derived.Test.YtmnehhpfbmoahaaDoorEpo
import Derived.Test.YtmnehhpfbmoahaaDoorEqj
namespace Go.Alm
open Go Go.RowKit
theorem aj_size (a b : Array Value) : (aj a b).size = a.size + b.size := Array.size_append
theorem EData.size (x : EData) : x.cells.size = 129 := by simp [EData.cells, hv_size]
theorem EData.inj {x y : EData} (h : x.Ok) (k : y.Ok) : x.cells = y.cells ↔ x = y := ⟨fun e => by
  unfold EData.cells at e
  obtain ⟨e, e5⟩ := aj_inj (by simp [hv_size]) e
  obtain ⟨e, e4⟩ := aj_inj (by simp [hv_size]) e
  obtain ⟨e, e3⟩ := aj_inj (by simp [hv_size]) e
  obtain ⟨e1, e2⟩ := aj_inj (by simp [hv_size]) e
  have e1 := (hv_iff h.led.len k.led.len).1 e1
  have e2 := (hv_iff h.seed.len k.seed.len).1 e2
  have e3 := (hv_iff h.start.len k.start.len).1 e3
  have e4 := (hv_iff h.lock.len k.lock.len).1 e4
  have e5 := lit1_inj e5
  cases x; cases y
  simp_all, fun e => by rw [e]⟩
theorem EPair.inj {x y : EPair} (h : x.Ok) (k : y.Ok) : x.cells = y.cells ↔ x = y := ⟨fun e => by
  unfold EPair.cells at e
  obtain ⟨e1, e2⟩ := aj_inj (by rw [EData.size, EData.size]) e
  have e1 := (EData.inj h.now k.now).1 e1
  have e2 := (EData.inj h.next k.next).1 e2
  cases x; cases y
  simp_all, fun e => by rw [e]⟩
end Go.Alm
