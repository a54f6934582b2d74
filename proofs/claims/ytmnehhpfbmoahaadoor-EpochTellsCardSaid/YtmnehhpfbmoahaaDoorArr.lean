/- Arrays behind an address or as values: cut and indexed at places that aren't closed. -/
import Derived.Test.YtmnehhpfbmoahaaDoorSha
namespace Go.Alm
open Go Go.RowKit
section
variable {P : Program} {Q : Exit → Act → World → Prop} {a : Act} {w : World} {o : Oper} {K : Act → World → Prop}
theorem run_cut_arr (t : Nat) (x : Operand) (lo hi : Option Operand) (sz b off n l h : Nat) (ho : sliceOf o.op = some (t, x, lo, hi, none)) (hn : arrLen P t = some n) (hz : elemSz P t = some sz)
    (hx : a.eval x = .pointer (some ⟨b, off, none⟩)) (hlo : boundOf (lo.map a.eval) 0 = some (l : Int)) (hhi : boundOf (hi.map a.eval) n = some (h : Int)) (hl : l < n) (h1 : l ≤ h) (h2 : h ≤ n) :
    (execOp a.eval o).run P w = .ok (.value (.slice (some ⟨b, off + l * sz, none⟩) (h - l) (n - l))) w := by
  unfold sliceOf at ho
  split at ho
  · rename_i t' x' lo' hi' mx' hop
    simp only [Option.some.injEq, Prod.mk.injEq] at ho
    obtain ⟨rfl, rfl, rfl, rfl, rfl⟩ := ho
    unfold arrLen at hn
    split at hn
    · rename_i n' e ht
      simp only [Option.some.injEq] at hn
      subst hn
      have hz' : sizeT P e = some sz := by unfold elemSz at hz; rw [ht] at hz; exact hz
      have e1 : (execOp a.eval o) = (do pure (.value (← Instr.sliceAt t' (a.eval x') (lo'.map a.eval) (hi'.map a.eval) (Option.map a.eval none)))) := by
        unfold execOp; simp only [hop]
      rw [e1, hx]
      generalize lo'.map a.eval = L at *
      generalize hi'.map a.eval = H at *
      have hb : (Instr.sliceBounds false n' n' L H (Option.map a.eval none)).run P w = .ok (l, h, n') w := by
        unfold Instr.sliceBounds
        cases H with
        | none =>
          simp only [boundOf, Option.some.injEq] at hhi
          have hhi' : n' = h := by omega
          subst hhi'
          cases L with
          | none =>
            simp only [boundOf, Option.some.injEq] at hlo
            have : l = 0 := by omega
            subst this
            simp
          | some lv =>
            cases lv <;> simp only [boundOf, Option.some.injEq, reduceCtorEq] at hlo
            subst hlo
            simp [run_sliceBound, h1]
        | some hv =>
          cases hv <;> simp only [boundOf, Option.some.injEq, reduceCtorEq] at hhi
          subst hhi
          cases L with
          | none =>
            simp only [boundOf, Option.some.injEq] at hlo
            have : l = 0 := by omega
            subst this
            simp [run_sliceBound, h2]
          | some lv =>
            cases lv <;> simp only [boundOf, Option.some.injEq, reduceCtorEq] at hlo
            subst hlo
            simp [run_sliceBound, h1, h2]
      have hne : n' ≠ l := by omega
      have hadd : (⟨b, off, none⟩ : Addr).add (l * sz) = ⟨b, off + l * sz, none⟩ := by unfold Addr.add; split <;> simp_all
      rw [Option.map_none] at hb ⊢
      simp [Instr.sliceAt, Instr.sureAddr, run_underlying ht, hb, run_sizeOf hz', hne, hadd]
    · cases hn
  · cases ho
theorem run_cut_arrN (t : Nat) (x : Operand) (lo hi : Option Operand) (sz b off n l h : Nat) (ho : sliceOf o.op = some (t, x, lo, hi, none)) (hn : arrLen P t = some n) (hz : elemSz P t = some sz)
    (hx : a.eval x = .pointer (some ⟨b, off, none⟩)) (hlo : boundOf (lo.map a.eval) 0 = some (l : Int)) (hhi : boundOf (hi.map a.eval) n = some (h : Int)) (hl : l < n) (h1 : l ≤ h) (h2 : h ≤ n) (m : Nat) (hm : h - l = m) :
    (execOp a.eval o).run P w = .ok (.value (.slice (some ⟨b, off + l * sz, none⟩) m (n - l))) w := hm ▸ run_cut_arr t x lo hi sz b off n l h ho hn hz hx hlo hhi hl h1 h2
def indexOf : Op → Option (Nat × Operand × Operand)
  | .index t x i => some (t, x, i)
  | _ => none
def arrElem (P : Program) (t : Nat) : Option Nat := match P.underlying t with | some (.array _ e) => some e | _ => none
theorem run_index1 (t : Nat) (x i : Operand) (n e : Nat) (cs : Array Value) (kd : IntKind) (k : Nat) (v : Value) (ho : indexOf o.op = some (t, x, i)) (hn : arrLen P t = some n) (he : arrElem P t = some e) (hr : rowed P e = some false) (hz : sizeT P e = some 1)
    (hx : a.eval x = .agg cs) (hi : a.eval i = .int kd k) (hk : k < n) (hv : cs[0 + k * 1]? = some v) : (execOp a.eval o).run P w = .ok (.value v) w := by
  unfold indexOf at ho
  split at ho
  · rename_i t' x' i' hop
    simp only [Option.some.injEq, Prod.mk.injEq] at ho
    obtain ⟨rfl, rfl, rfl⟩ := ho
    unfold arrLen at hn
    split at hn
    · rename_i m e' ht
      simp only [Option.some.injEq] at hn
      subst hn
      have : e' = e := by unfold arrElem at he; rw [ht] at he; exact Option.some.inj he
      subst this
      have hk' : 0 ≤ (k : Int) ∧ (k : Int) < (m : Int) := ⟨by omega, by omega⟩
      have hv' : cs[k]? = some v := by rw [← hv]; congr 1; omega
      have hv2 : cs[((k : Int)).toNat * 1]? = some v := by rw [← hv']; congr 1; omega
      unfold execOp
      simp only [hop, hx, hi, Instr.index, asIntOf, Sem.run_bind, Sem.run_pure, Result.andThen_ok, run_underlying ht, if_pos hk', part, run_sizeOf hz, run_isAgg _ _ hr, Bool.false_eq_true, if_false, hv2]
    · cases hn
  · cases ho
/-- A cell of an array that is read alone. -/
theorem run_loadG (t : Nat) (x : Operand) (b k : Nat) (xs : List Value) (u : Value) (ho : loadOf o.op = some (t, x)) (hr : rowed P t = some false)
    (hx : a.eval x = .pointer (some ⟨b, 0 + k * 1, none⟩)) (hR : Rd w (some ⟨b, 0, none⟩) xs) (hu : xs[k]? = some u) : (execOp a.eval o).run P w = .ok (.value u) w := by
  obtain ⟨ad, ha, hc⟩ := hR k u hu
  cases ha
  have e : (⟨b, 0, none⟩ : Addr).add k = ⟨b, 0 + k * 1, none⟩ := by unfold Addr.add; split <;> simp_all
  rw [e] at hc
  exact run_loadC t x _ u ho hr hx hc
end
theorem Sub.arOff {b off : Nat} {xs : List Value} : Sub (Ar (some ⟨b, off, none⟩) xs) (One b) := by
  rintro k ⟨_, ad, h, rfl⟩
  cases h
  rfl
theorem KL_get (k : Nat) (h : k < 64) : (hw KL).toList[k]? = some (.int .u32 ((KL.getD k 0).toNat : Int)) := by
  have := hw_get KL k h
  rw [show 0 + k * 1 = k by omega] at this
  rw [← this]
  simp
theorem hq_B {q : List Nat} (h : q.length = 64) : (hq q).toList = B q := by
  unfold hq B
  apply List.ext_getElem?
  intro i
  by_cases hi : i < 64
  · simp [hi, h]
  · simp [hi, h]
/-- Bytes within a block. -/
theorem Rd.of_left' {w : World} {b tH : Nat} {S r : Array Value} {q : List Nat} {fz : Nat × Nat} (hb : w.heap[b]? = some (.cells (S ++ hq q ++ r) tH fz)) (hS : S.size = 8) (hq : q.length = 64) {l n : Nat} :
    Rd w (some ⟨b, 8 + l * 1, none⟩) (B ((q.drop l).take n)) := by
  have h := (Rd.of_blkN hb (8 + l * 1)).take (((q.drop l).take n).length)
  have e : ((S ++ Go.Alm.hq q ++ r).toList.drop (8 + l * 1)).take (((q.drop l).take n).length) = B ((q.drop l).take n) := by
    rw [Array.toList_append, Array.toList_append, List.append_assoc, Nat.mul_one, ← List.drop_drop, List.drop_left' (by simpa using hS), hq_B hq, B_take, B_drop]
    have hl : (B q).length = 64 := by rw [B_length, hq]
    rcases Nat.lt_or_ge l 64 with h1 | h1
    · rw [List.drop_append_of_le_length (by omega), List.take_append_of_le_length (by rw [List.length_take, List.length_drop, List.length_drop, hq, hl]; omega)]
      rw [List.length_take, List.length_drop, hq]
      rw [← List.take_take]
      congr 1
      rw [List.take_of_length_le (by rw [List.length_drop, hl]; omega)]
    · rw [List.drop_eq_nil_of_le (as := q) (by omega), List.drop_eq_nil_of_le (as := B q) (by omega)]
      simp
  rw [e] at h
  exact h
theorem Rd.of_left {w : World} {b tH : Nat} {S : List W32} {N : Nat} {q : List Nat} {fz : Nat × Nat} (hb : w.heap[b]? = some (.cells (hsC S q N) tH fz)) (hq : q.length = 64) {l n : Nat} :
    Rd w (some ⟨b, 8 + l * 1, none⟩) (B ((q.drop l).take n)) := Rd.of_left' hb rfl hq
end Go.Alm

namespace Go.Alm
open Go Go.RowKit
section
variable {P : Program} {a : Act} {w : World} {o : Oper}
theorem run_quo (x y : Operand) {k : IntKind} (A B : Int) (ho : binOf o.op = some (.quo, x, y)) (hx : a.eval x = .int k A) (hy : a.eval y = .int k B) (hB : B ≠ 0) :
    (execOp a.eval o).run P w = .ok (.value (.int k (k.wrap (A.tdiv B)))) w := by
  unfold binOf at ho
  split at ho
  · rename_i b t x' y' u hop
    simp only [Option.some.injEq, Prod.mk.injEq] at ho
    obtain ⟨rfl, rfl, rfl⟩ := ho
    unfold execOp
    simp [hop, hx, hy, eqGuard, binOp, Op.intDiv, hB]
  · cases ho
end
theorem rot1_eq (y : W32) : IntKind.u32.wrap (((y.toNat / 2 : Nat) : Int) + (2147483648 : Int) * ((y.toNat % 2 : Nat) : Int)) = ((rot1 y).toNat : Int) := by
  have := y.isLt
  unfold rot1
  rw [wrapN_u32 (by omega) (by omega), BitVec.toNat_ofNat]
  omega
theorem bv_quo2 (x : W32) (d k : Nat) (h : d = 2 ^ k) : IntKind.u32.wrap ((x.toNat : Int).tdiv (d : Int)) = ((x >>> k).toNat : Int) := by
  have := x.isLt
  rw [quo_u32 (by omega), h]
  exact bv_quo x k
theorem ch_pf (R : List W32) : IntKind.u32.wrap (((R.getD 4 0 &&& R.getD 5 0).toNat : Int) + ((((4294967295#32) - R.getD 4 0) &&& R.getD 6 0).toNat : Int)) = ((chs R).toNat : Int) := by
  rw [bv_add, ch_ref]; rfl
theorem maj_pf (R : List W32) : IntKind.u32.wrap ((BitVec.ofInt 32 (((R.getD 0 0 &&& R.getD 1 0) ||| (R.getD 0 0 &&& R.getD 2 0)).toNat : Int) ||| BitVec.ofInt 32 ((R.getD 1 0 &&& R.getD 2 0).toNat : Int)).toNat : Int) = ((maj R).toNat : Int) := by
  rw [bv_or, maj_ref]; rfl
theorem bv_add3 (A B C : W32) : IntKind.u32.wrap (((A + B).toNat : Int) + (C.toNat : Int)) = ((A + (B + C)).toNat : Int) := by rw [bv_add, BitVec.add_assoc]
theorem num_four (a b c d : Nat) : num [a, b, c, d] = 16777216 * a + 65536 * b + 256 * c + d := by
  simp only [num, List.foldl_cons, List.foldl_nil]
  omega
theorem wd_ref {q : List Nat} (hB : Byt q) {t : Nat} (h : 4 * t + 4 ≤ q.length) : ((wd q t).toNat : Int) = ((16777216 * q.getD (4 * t) 0 + 65536 * q.getD (4 * t + 1) 0 + 256 * q.getD (4 * t + 2) 0 + q.getD (4 * t + 3) 0 : Nat) : Int) := by
  have e : (q.drop (4 * t)).take 4 = [q.getD (4 * t) 0, q.getD (4 * t + 1) 0, q.getD (4 * t + 2) 0, q.getD (4 * t + 3) 0] := by
    apply List.ext_getElem?
    intro i
    rw [List.getElem?_take]
    match i with
    | 0 => simp [List.getElem?_drop, show 4 * t < q.length by omega]
    | 1 => simp [List.getElem?_drop, show 4 * t + 1 < q.length by omega]
    | 2 => simp [List.getElem?_drop, show 4 * t + 2 < q.length by omega]
    | 3 => simp [List.getElem?_drop, show 4 * t + 3 < q.length by omega]
    | i + 4 => simp; omega
  have h0 := getD_lt hB (4 * t); have h1 := getD_lt hB (4 * t + 1); have h2 := getD_lt hB (4 * t + 2); have h3 := getD_lt hB (4 * t + 3)
  unfold wd
  rw [e, num_four, BitVec.toNat_ofNat]
  omega
theorem padz2 (l : List Nat) (z : Nat) : B (l ++ 128 :: List.replicate (z + 1) 0) = B (l ++ 128 :: List.replicate z 0) ++ [Value.int .u8 0] := by
  rw [B_append, padz, ← List.append_assoc, ← B_append]
theorem low56 {i : Nat} (h : i < 8) : lowQ 72057594037927936 i = 2 ^ (8 * (8 - 1 - i)) := by
  match i, h with
  | 0, _ => rfl
  | 1, _ => rfl
  | 2, _ => rfl
  | 3, _ => rfl
  | 4, _ => rfl
  | 5, _ => rfl
  | 6, _ => rfl
  | 7, _ => rfl
theorem outB_at (S : List W32) {i r : Nat} (hi : i < 8) (hr : r < 4) : (outB S).getD (4 * i + r) 0 = (S.getD i 0).toNat / 2 ^ (8 * (3 - r)) % 256 := by
  rw [outB_get _ (by omega), show (4 * i + r) / 4 = i by omega, show (4 * i + r) % 4 = r by omega, BitVec.toNat_ushiftRight, Nat.shiftRight_eq_div_pow]
theorem outB_0 (S : List W32) {i : Nat} (hi : i < 8) : (outB S).getD (4 * i) 0 = (S.getD i 0).toNat / 16777216 % 256 := outB_at S (r := 0) hi (by decide)
theorem outB_1 (S : List W32) {i : Nat} (hi : i < 8) : (outB S).getD (4 * i + 1) 0 = (S.getD i 0).toNat / 65536 % 256 := outB_at S (r := 1) hi (by decide)
theorem outB_2 (S : List W32) {i : Nat} (hi : i < 8) : (outB S).getD (4 * i + 2) 0 = (S.getD i 0).toNat / 256 % 256 := outB_at S (r := 2) hi (by decide)
theorem outB_3 (S : List W32) {i : Nat} (hi : i < 8) : (outB S).getD (4 * i + 3) 0 = (S.getD i 0).toNat % 256 := by
  have := outB_at S (i := i) (r := 3) hi (by decide)
  rw [this]
  simp
theorem padded_length (l : List Nat) : (l ++ padL l.length).length % 64 = 0 := by
  simp only [padL, List.length_append, List.length_cons, List.length_replicate, putB_length]
  omega
end Go.Alm
