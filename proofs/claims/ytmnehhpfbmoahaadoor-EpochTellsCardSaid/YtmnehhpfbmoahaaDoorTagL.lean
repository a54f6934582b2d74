/- The plain side of layer 3's laws. -/
import Derived.Test.YtmnehhpfbmoahaaDoorMaps
import Derived.Laws.StructEq
namespace Go.Alm
open Go Go.RowKit
def lensum (ls : List BSl) : Nat := (ls.map (·.b.length)).sum
theorem lensum_snoc {ls : List BSl} {k : Nat} {x : BSl} (hx : ls[k]? = some x) : lensum (ls.take (k + 1)) = lensum (ls.take k) + x.b.length := by
  unfold lensum
  rw [List.take_add_one, hx]
  simp
theorem lensum_le (ls : List BSl) (k : Nat) : lensum (ls.take k) ≤ lensum ls := by
  have h : lensum ls = lensum (ls.take k) + lensum (ls.drop k) := by
    unfold lensum
    rw [← List.sum_append, ← List.map_append, List.take_append_drop]
  omega
theorem partsL_sum : ∀ ls : List BSl, (partsL ls).length = lensum ls + 4 * ls.length
  | [] => rfl
  | x :: ls => by
    have e : partsL (x :: ls) = partL x.b ++ partsL ls := rfl
    rw [e, List.length_append, partL_length, partsL_sum ls]
    simp [lensum]
    omega
/-- Is there more than is looked at? -/
def largeR (n : Nat) (ls : List BSl) : Bool := decide (2000 < n) || decide (300 < ls.length) || decide (2000 < lensum ls)
theorem largeR_yes {n : Nat} {ls : List BSl} (h : 2000 < n ∨ 300 < ls.length ∨ 2000 < lensum ls) : largeR n ls = true := by
  unfold largeR
  rcases h with h | h | h <;> simp [h]
theorem largeR_no {n : Nat} {ls : List BSl} (h1 : n ≤ 2000) (h2 : ls.length ≤ 300) (h3 : lensum ls ≤ 2000) : largeR n ls = false := by
  unfold largeR
  simp; omega
theorem largeR_spec {n : Nat} {ls : List BSl} (h : largeR n ls = false) : n ≤ 2000 ∧ ls.length ≤ 300 ∧ lensum ls ≤ 2000 ∧ (partsL ls).length ≤ 800000 := by
  unfold largeR at h
  simp at h
  rw [partsL_sum]
  omega

/-! ### unlike ones have unlike images -/
theorem putB4_inj {m n : Nat} (hm : m < 4294967296) (hn : n < 4294967296) (h : putB m 4 4 = putB n 4 4) : m = n := by
  rw [← four_L, ← four_L] at h
  simp only [List.cons.injEq, and_true] at h
  omega
theorem partsL_inj : ∀ {ls ms : List BSl}, ls.length = ms.length → (∀ x ∈ ls, x.b.length < 4294967296) → (∀ x ∈ ms, x.b.length < 4294967296) → partsL ls = partsL ms → ls.map (·.b) = ms.map (·.b)
  | [], [], _, _, _, _ => rfl
  | [], _ :: _, h, _, _, _ => by simp at h
  | _ :: _, [], h, _, _, _ => by simp at h
  | x :: ls, y :: ms, h, hl, hm, he => by
    have e1 : partsL (x :: ls) = putB x.b.length 4 4 ++ (x.b ++ partsL ls) := by rw [← List.append_assoc]; rfl
    have e2 : partsL (y :: ms) = putB y.b.length 4 4 ++ (y.b ++ partsL ms) := by rw [← List.append_assoc]; rfl
    rw [e1, e2] at he
    obtain ⟨h1, h2⟩ := List.append_inj he (by rw [putB_length, putB_length])
    have h3 := putB4_inj (hl x (by simp)) (hm y (by simp)) h1
    obtain ⟨h4, h5⟩ := List.append_inj h2 h3
    rw [List.map_cons, List.map_cons, h4, partsL_inj (by simpa using h) (fun z hz => hl z (by simp [hz])) (fun z hz => hm z (by simp [hz])) h5]
theorem partsL_congr : ∀ {ls ms : List BSl}, ls.map (·.b) = ms.map (·.b) → partsL ls = partsL ms
  | [], [], _ => rfl
  | [], _ :: _, h => by simp at h
  | _ :: _, [], h => by simp at h
  | x :: ls, y :: ms, h => by
    simp only [List.map_cons, List.cons.injEq] at h
    have e1 : partsL (x :: ls) = partL x.b ++ partsL ls := rfl
    have e2 : partsL (y :: ms) = partL y.b ++ partsL ms := rfl
    rw [e1, e2, h.1, partsL_congr h.2]
theorem sB_inj {s t : ByteArray} (h : sB s = sB t) : s = t := by
  unfold sB at h
  have h2 : s.data.toList = t.data.toList := map_inj' (fun x y e => UInt8.toNat_inj.1 e) h
  cases s; cases t
  simp_all [Array.toList_inj]
theorem img_iff {s t : ByteArray} {ls ms : List BSl} (h1 : ¬ imgBad s.size ls.length) (h2 : ¬ imgBad t.size ms.length) (hl : ∀ x ∈ ls, x.b.length < 4294967296) (hm : ∀ x ∈ ms, x.b.length < 4294967296) :
    imgL (sB s) ls = imgL (sB t) ms ↔ s = t ∧ ls.map (·.b) = ms.map (·.b) := by
  rw [imgL_ok (by rw [sB_length]; exact h1), imgL_ok (by rw [sB_length]; exact h2)]
  constructor
  · intro h
    unfold headL at h
    rw [List.cons_append, List.cons_append, List.cons_append, List.cons_append, List.cons.injEq] at h
    obtain ⟨a, b⟩ := h
    rw [List.append_assoc, List.append_assoc] at b
    obtain ⟨c, d⟩ := List.append_inj b a
    simp only [List.cons_append, List.nil_append, List.cons.injEq] at d
    exact ⟨sB_inj c, partsL_inj d.1 hl hm d.2⟩
  · rintro ⟨rfl, h⟩
    have : ls.length = ms.length := by have := congrArg List.length h; simpa using this
    rw [this, partsL_congr h]
theorem lensum_mem : ∀ {ls : List BSl} {x : BSl}, x ∈ ls → x.b.length ≤ lensum ls
  | y :: ls, x, h => by
    have e : lensum (y :: ls) = y.b.length + lensum ls := by simp [lensum]
    rcases List.mem_cons.1 h with rfl | h
    · omega
    · have := lensum_mem h; omega
theorem mt_step {ls ms : List BSl} {i : Nat} {x y : BSl} (h : (ls.take i).map (·.b) = (ms.take i).map (·.b)) (hx : ls[i]? = some x) (hy : ms[i]? = some y) (hb : x.b = y.b) : (ls.take (i + 1)).map (·.b) = (ms.take (i + 1)).map (·.b) := by
  rw [List.take_add_one, List.take_add_one, hx, hy, List.map_append, List.map_append, h]
  simp [hb]
theorem mb_of {ls ms : List BSl} {i : Nat} {x y : BSl} (h : ls.map (·.b) = ms.map (·.b)) (hx : ls[i]? = some x) (hy : ms[i]? = some y) : x.b = y.b := by
  have h1 : (ls.map (·.b))[i]? = some x.b := by rw [List.getElem?_map, hx]; rfl
  have h2 : (ms.map (·.b))[i]? = some y.b := by rw [List.getElem?_map, hy]; rfl
  rw [h, h2] at h1
  exact (Option.some.inj h1).symm
theorem tagApart_end {s t : ByteArray} {ls ms : List BSl} {sm : Bool} {i : Nat} (hb1 : ¬ imgBad s.size ls.length) (hb2 : ¬ imgBad t.size ms.length) (hl : lensum ls ≤ 2000) (hm : lensum ms ≤ 2000)
    (hsm : sm = true → s = t ∧ ls.length = ms.length ∧ i ≤ ls.length ∧ (ls.take i).map (·.b) = (ms.take i).map (·.b)) (hsf : sm = false → ¬ (s = t ∧ ls.map (·.b) = ms.map (·.b))) (he : sm = true → ls.length ≤ i) :
    (sm == decide (imgL (sB s) ls = imgL (sB t) ms)) = true := by
  have key := img_iff hb1 hb2 (fun x hx => by have := lensum_mem hx; omega) (fun x hx => by have := lensum_mem hx; omega)
  cases sm with
  | false => rw [decide_eq_false (fun e => hsf rfl (key.1 e))]; rfl
  | true =>
    obtain ⟨a, b, c, d⟩ := hsm rfl
    have hi := he rfl
    rw [List.take_of_length_le hi, List.take_of_length_le (by omega)] at d
    rw [decide_eq_true (key.2 ⟨a, d⟩)]; rfl
theorem str_yes {s t : ByteArray} (h : (s == t) = true) : s = t := (MapKept.bytes_beq s t).1 h
theorem str_no {s t : ByteArray} (h : (s == t) = false) : s ≠ t := fun e => by rw [(MapKept.bytes_beq s t).2 e] at h; cases h
end Go.Alm

namespace Go.Alm
open Go Go.RowKit
section
variable {P : Program} {a : Act} {w : World} {o : Oper}
theorem run_eq_str (b : Bool) (t : Nat) (x y : Operand) (s1 s2 : ByteArray) (ho : eqlOf o.op = some (b, t, x, y))
    (hx : a.eval x = .string s1) (hy : a.eval y = .string s2) : (execOp a.eval o).run P w = .ok (.value (.bool (cond b (s1 == s2) (!(s1 == s2))))) w := by
  unfold eqlOf at ho
  split at ho
  · rename_i t' x' y' yt hop
    simp only [Option.some.injEq, Prod.mk.injEq] at ho
    obtain ⟨rfl, rfl, rfl, rfl⟩ := ho
    unfold execOp
    simp [hop, hx, hy, eqGuard, binOp, Op.stringOp, Result.andThen, beq_toListBytes]
  · rename_i t' x' y' yt hop
    simp only [Option.some.injEq, Prod.mk.injEq] at ho
    obtain ⟨rfl, rfl, rfl, rfl⟩ := ho
    unfold execOp
    simp [hop, hx, hy, eqGuard, binOp, Op.stringOp, Result.andThen, beq_toListBytes]
  · cases ho
end
end Go.Alm
