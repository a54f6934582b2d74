/- The machine's steps: views of more, rows of rows, what is compared; contracts of the older kind. -/
import Derived.Test.YtmnehhpfbmoahaaDoorJap
import Derived.Test.YtmnehhpfbmoahaaDoorTag
import Derived.Test.YtmnehhpfbmoahaaDoorDeq
namespace Go.Alm
open Go Go.RowKit
section
variable {P : Program} {Q : Exit → Act → World → Prop} {L : List Iv} {s : St} {RO FZ OW : List Rc}

/-! ### contracts of the older kind -/
theorem Does.of_calls {f : Nat} {args : Array Value} {ro : List Rc} {v : Value} (h : ∀ w, (∀ r ∈ ro, r.A w) → Calls P f args w fun e w' => e = .returned v ∧ Fr w w' N0) : Does P f args ro [] (fun v' H => v' = v ∧ H = []) := fun F w hw =>
  (h w fun r hr => hw.a r (by simp [hr])).mono fun _ _ ⟨he, hF⟩ => ⟨v, [], ⟨rfl, rfl⟩, he, (hw.keep hF).ro (by simp)⟩

/-! ### read-only views beside -/
theorem m_also (i : Nat) (r : Rc) (v : View (gr RO i) r) (k : J P Q L s (RO ++ [r]) FZ OW) (h : (Nat.blt i RO.length && noPl s) = true := by kernel_rfl) : J P Q L s RO FZ OW := by
  rw [Bool.and_eq_true] at h
  have hlt : i < RO.length := by simpa using h.1
  have hm : gr RO i ∈ RO := by simp [gr, hlt]
  refine ⟨fun w hw => ?_⟩
  have hv := v.A w (hw.a _ (List.mem_append_left _ hm))
  refine den_S (S' := fun w => ∀ x ∈ (RO ++ [r]) ++ FZ, x.A w) h.2 (k.out w ⟨fun x hx => ?_, fun x hx o ho => ?_, hw.p⟩)
  · simp only [List.mem_append, List.mem_singleton] at hx
    rcases hx with (hx | rfl) | hx
    · exact hw.a x (List.mem_append_left _ hx)
    · exact hv.1
    · exact hw.a x (by simp only [List.mem_append]; exact .inr hx)
  · simp only [List.mem_append, List.mem_singleton] at hx
    rcases hx with hx | rfl
    · exact hw.d x hx o ho
    · exact Sub.dis hv.2 (hw.d _ hm o ho)
theorem m_unro (r : Rc) (k : J P Q L s RO FZ OW) (h : noPl s = true := by kernel_rfl) : J P Q L s (RO ++ [r]) FZ OW := ⟨fun w hw => by
  exact den_S (S' := fun w => ∀ x ∈ RO ++ FZ, x.A w) h (k.out w (hw.ro (by simp +contextual)))⟩

/-! ### views of more than one -/
def RowsAt.re (fp : Nat → Prop) (ao : Option Addr) (ls : List BSl) : Re := ⟨fp, fun w => RowsAt fp w ao ls, fun _ h => h.in, fun _ _ _ h F d => h.keep F d⟩
abbrev rowsR (fp : Nat → Prop) (ao : Option Addr) (ls : List BSl) : Rc := .gen (RowsAt.re fp ao ls)
inductive AllV (H : List Rc) : List Value → List BSl → Prop
  | nil : AllV H [] []
  | cons {cs : List Value} {ls : List BSl} {ao : Option Addr} {l : List Nat} (j n cap : Nat) (v : View (gr H j) (.rd ao (B l))) (hn : l.length = n) (hB : Byt l) (hc : n ≤ cap ∧ cap ≤ maxLen) (t : AllV H cs ls) : AllV H (.slice ao n cap :: cs) (⟨ao, cap, l⟩ :: ls)
theorem AllV.cells {H : List Rc} {cs : List Value} {ls : List BSl} (h : AllV H cs ls) : cs = cellsR ls := by
  induction h with
  | nil => rfl
  | cons j n cap v hn hB hc t ih => rw [ih, ← hn]; rfl
theorem AllV.ok {H : List Rc} {cs : List Value} {ls : List BSl} (h : AllV H cs ls) : ∀ x ∈ ls, x.Ok := by
  induction h with
  | nil => simp
  | cons j n cap v hn hB hc t ih =>
    intro x hx
    rcases List.mem_cons.1 hx with rfl | hx
    · exact ⟨hB, by rw [hn]; exact hc.1, hc.2⟩
    · exact ih x hx
theorem AllV.rd {H : List Rc} {w : World} (hA : ∀ x ∈ H, x.A w) {cs : List Value} {ls : List BSl} (h : AllV H cs ls) : ∀ x ∈ ls, Rd w x.ao (B x.b) ∧ ∀ k, Ar x.ao (B x.b) k → ∃ r ∈ H, r.S k := by
  induction h with
  | nil => simp
  | cons j n cap v hn hB hc t ih =>
    intro x hx
    rcases List.mem_cons.1 hx with rfl | hx
    · obtain ⟨h1, h2⟩ := v.A w (gr_A hA j)
      exact ⟨h1, fun k hk => gr_S (h2 k hk)⟩
    · exact ih x hx
theorem HView.rows {H : List Rc} {cs : List Value} {ls : List BSl} {b : Nat} (i : Nat) (t : AllV H cs ls) (h : (gr H i).isBlk = true := by kernel_rfl) (hb : (gr H i).b = b := by kernel_rfl) (hc : (gr H i).c.toList = cs := by kernel_rfl) : HView H (rowsR (star H).S (some ⟨b, 0, none⟩) ls) := fun w hA => by
  subst hb
  have h1 := gr_A hA i
  rw [Rc.blk_eq h] at h1
  have h1 : w.heap[(gr H i).b]? = some (.cells (gr H i).c (gr H i).te (0, 0)) := h1
  refine ⟨⟨?_, fun x hx => (t.rd hA x hx).1, ?_, fun x hx k hk => (t.rd hA x hx).2 k hk, t.ok, ?_⟩, fun k hk => hk⟩
  · rw [← t.cells, ← hc]; exact Rd.of_blk h1
  · rintro k ⟨_, ad, he, rfl⟩
    cases he
    exact gr_S (i := i) (by rw [Rc.blk_eq h]; rfl)
  · rintro k ⟨r, hr, hk⟩
    exact r.inn (hA r hr) k hk
theorem HView.none {H : List Rc} : HView H (rowsR N0 none []) := fun w _ => ⟨RowsAt.none w, fun _ h => h.elim⟩
end
end Go.Alm

namespace Go.Alm
open Go Go.RowKit
theorem View.rows {a : Rc} {fp : Nat → Prop} {ao : Option Addr} {ls : List BSl} (h : a = rowsR fp ao ls := by kernel_rfl) : View a (.rd ao (cellsR ls)) := by subst h; exact ⟨fun w h => ⟨h.rd, h.in1⟩⟩
theorem View.rowsB {a : Rc} {fp : Nat → Prop} {ao : Option Addr} {ls : List BSl} (x : BSl) (hx : x ∈ ls) (h : a = rowsR fp ao ls := by kernel_rfl) : View a (.rd x.ao (B x.b)) := by subst h; exact ⟨fun w h => ⟨h.rdb x hx, h.in2 x hx⟩⟩
section
variable {P : Program} {Q : Exit → Act → World → Prop} {L : List Iv} {s : St} {RO FZ OW : List Rc}
theorem m_rowsok (i : Nat) (fp : Nat → Prop) (ao : Option Addr) (ls : List BSl) (k : (∀ x ∈ ls, x.Ok) → J P Q L s RO FZ OW) (h : gr (RO ++ (FZ ++ OW)) i = rowsR fp ao ls := by kernel_rfl) : J P Q L s RO FZ OW :=
  m_fact i _ (fun w hA => by rw [h] at hA; exact RowsAt.ok hA) k
end
end Go.Alm

namespace Go.Alm
open Go Go.RowKit
theorem parts1 {x : BSl} (hx : x.b.length ≤ 200000) : (partsL [x]).length ≤ 800000 := by simp [partsL, partL_length]; omega
theorem parts2 {x y : BSl} (hx : x.b.length ≤ 200000) (hy : y.b.length ≤ 200000) : (partsL [x, y]).length ≤ 800000 := by simp [partsL, partL_length]; omega
theorem parts3 {x y z : BSl} (hx : x.b.length ≤ 200000) (hy : y.b.length ≤ 200000) (hz : z.b.length ≤ 200000) : (partsL [x, y, z]).length ≤ 800000 := by simp [partsL, partL_length]; omega
theorem parts0 : (partsL []).length ≤ 800000 := by simp [partsL]
theorem bytl {n : Nat} (h : n < 256) : Byt [n] := fun x hx => by rw [List.mem_singleton.1 hx]; exact h
end Go.Alm
