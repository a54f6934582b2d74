/- Rows of rows of bytes, as they stand in memory; slices that are made of a length that isn't closed. -/
import Derived.Test.YtmnehhpfbmoahaaDoorRead
import Derived.Test.YtmnehhpfbmoahaaDoorArr
import Derived.Laws.MakeOwn
namespace Go.Alm
open Go Go.RowKit Go.ChangeShapes Go.WideShapes Go.ChangeAt

structure BSl where
  ao : Option Addr
  cap : Nat
  b : List Nat
def BSl.cell (x : BSl) : Value := .slice x.ao x.b.length x.cap
structure BSl.Ok (x : BSl) : Prop where
  b : Byt x.b
  cap : x.b.length ≤ x.cap
  len : x.cap ≤ maxLen
def cellsR (ls : List BSl) : List Value := ls.map BSl.cell
/-- Rows of bytes, all of them within `T`. -/
structure RowsAt (T : Nat → Prop) (w : World) (ao : Option Addr) (ls : List BSl) : Prop where
  rd : Rd w ao (cellsR ls)
  rdb : ∀ x ∈ ls, Rd w x.ao (B x.b)
  in1 : Sub (Ar ao (cellsR ls)) T
  in2 : ∀ x ∈ ls, Sub (Ar x.ao (B x.b)) T
  ok : ∀ x ∈ ls, x.Ok
  size : In w T
theorem RowsAt.keep {T : Nat → Prop} {w w' : World} {ao : Option Addr} {ls : List BSl} {S : Nat → Prop} (h : RowsAt T w ao ls) (F : Fr w w' S) (d : Dis T S) : RowsAt T w' ao ls :=
  ⟨h.rd.keep' F (h.in1.dis d), fun x hx => (h.rdb x hx).keep' F ((h.in2 x hx).dis d), h.in1, h.in2, h.ok, h.size.le F.size⟩
theorem RowsAt.in {T : Nat → Prop} {w : World} {ao : Option Addr} {ls : List BSl} (h : RowsAt T w ao ls) : In w T := h.size
theorem cellsR_length (ls : List BSl) : (cellsR ls).length = ls.length := by simp [cellsR]
theorem cellsR_get (ls : List BSl) (k : Nat) (x : BSl) (h : ls[k]? = some x) : (cellsR ls)[k * 1]? = some (.slice x.ao x.b.length x.cap) := by
  rw [Nat.mul_one]
  simp [cellsR, h, BSl.cell]

section
variable {H : Type} {enc : TypeId × Value → H} {P : Program} {w : World} {base : Nat} {sp : Nat → Bool} {held : Bool} {fuel t e : Nat} {cs : List Value} {x : DataW H × List MemPlace}
theorem rows_of_trod {e8 : Nat} (ht : P.underlying t = some (.slice e)) (he : P.underlying e = some (.slice e8)) (h8 : P.underlying e8 = some (.int .u8)) (ze : P.cellsOf e = 1) (z8 : P.cellsOf e8 = 1)
    (h : DataW.trod enc P w base sp held fuel t cs = some x) : ∃ ao ls cap, cs = [.slice ao (ls : List BSl).length cap] ∧ RowsAt (Old w.heap.size) w ao ls ∧ ls.length ≤ cap ∧ cap ≤ maxLen := by
  rcases DataW.trod_slice ht h with ⟨rfl, _⟩ | ⟨a, len, cap, elems, rest, n, _, rfl, _, _, hlc, hcm, hel, hget, _⟩
  · exact ⟨none, [], 0, rfl, ⟨Rd.nil _ _, fun _ h => (by cases h), Sub.nil, fun _ h => (by cases h), fun _ h => (by cases h), In.old (Nat.le_refl _)⟩, Nat.le_refl _, Nat.zero_le _⟩
  · have key : ∀ i, i < len → ∃ y : BSl, y.Ok ∧ Rd w y.ao (B y.b) ∧ w.cell? (a.add i) = some y.cell := fun i hi' => by
      have h1 := hget i hi'
      have hs : (elems[i]?).isSome = true := by simp [hel, hi']
      obtain ⟨c, hc, hy⟩ := some_of_bind h1 hs
      obtain ⟨y, hy'⟩ := Option.isSome_iff_exists.1 hs
      rw [hy'] at hy
      obtain ⟨ao, b, cp, e3, hR, Bb, hbc, hcm'⟩ := bytes_of_trod he h8 z8 hy
      rw [ze, Nat.mul_one] at hc
      have hcell := (World.cells?_some hc).2.2 0 (by decide)
      have hadd : (a.add i).add 0 = a.add i := rfl
      rw [hadd, e3] at hcell
      exact ⟨⟨ao, cp, b⟩, ⟨Bb, hbc, hcm'⟩, hR, hcell⟩
    let f : Nat → BSl := fun i => if h : i < len then Classical.choose (key i h) else ⟨none, 0, []⟩
    have hf : ∀ i, i < len → (f i).Ok ∧ Rd w (f i).ao (B (f i).b) ∧ w.cell? (a.add i) = some (f i).cell := fun i hi' => by
      have : f i = Classical.choose (key i hi') := by simp only [f, dif_pos hi']
      rw [this]; exact Classical.choose_spec (key i hi')
    have hmem : ∀ y ∈ (List.range len).map f, ∃ i, i < len ∧ y = f i := fun y hy => by
      obtain ⟨i, hi', rfl⟩ := List.mem_map.1 hy
      exact ⟨i, List.mem_range.1 hi', rfl⟩
    have hRd : Rd w (some a) (cellsR ((List.range len).map f)) := fun j u hj => by
      have hjl := (List.getElem?_eq_some_iff.1 hj).1
      rw [cellsR_length, List.length_map, List.length_range] at hjl
      refine ⟨a, rfl, ?_⟩
      rw [(hf j hjl).2.2]
      rw [← hj]
      simp [cellsR, hjl]
    refine ⟨some a, (List.range len).map f, cap, by simp, ⟨hRd, ?_, hRd.in, ?_, ?_, In.old (Nat.le_refl _)⟩, by simpa using hlc, hcm⟩
    · intro y hy; obtain ⟨i, hi', rfl⟩ := hmem y hy; exact (hf i hi').2.1
    · intro y hy; obtain ⟨i, hi', rfl⟩ := hmem y hy; exact (hf i hi').2.1.in
    · intro y hy; obtain ⟨i, hi', rfl⟩ := hmem y hy; exact (hf i hi').1
theorem nat_of_trod_u8 {v : Int} {d : DataW H} {p : List MemPlace} (ht : P.underlying t = some (.int .u8)) (h : DataW.Trod enc P w base sp held t (.int .u8 v) d p) : ∃ n : Nat, v = (n : Int) ∧ n < 256 := by
  obtain ⟨fu, hf⟩ := h
  obtain ⟨m, e1, _, hwf⟩ := DataW.trod_int ht hf
  have : v = m := by simpa [Value.cells] using e1
  subst this
  simp only [Lit.wf, Bool.and_eq_true, decide_eq_true_eq] at hwf
  have c1 : IntKind.u8.min = 0 := by decide
  have c2 : IntKind.u8.max = 255 := by decide
  exact ⟨v.toNat, by omega, by omega⟩
theorem nat_of_trod_u64 {v : Int} {d : DataW H} {p : List MemPlace} (ht : P.underlying t = some (.int .u64)) (h : DataW.Trod enc P w base sp held t (.int .u64 v) d p) : ∃ n : Nat, v = (n : Int) ∧ n < 18446744073709551616 := by
  obtain ⟨fu, hf⟩ := h
  obtain ⟨m, e1, _, hwf⟩ := DataW.trod_int ht hf
  have : v = m := by simpa [Value.cells] using e1
  subst this
  simp only [Lit.wf, Bool.and_eq_true, decide_eq_true_eq] at hwf
  have c1 : IntKind.u64.min = 0 := by decide
  have c2 : IntKind.u64.max = 18446744073709551615 := by decide
  exact ⟨v.toNat, by omega, by omega⟩
theorem nat_of_trod_u32 {v : Int} {d : DataW H} {p : List MemPlace} (ht : P.underlying t = some (.int .u32)) (h : DataW.Trod enc P w base sp held t (.int .u32 v) d p) : ∃ n : Nat, v = (n : Int) ∧ n < 4294967296 := by
  obtain ⟨fu, hf⟩ := h
  obtain ⟨m, e1, _, hwf⟩ := DataW.trod_int ht hf
  have : v = m := by simpa [Value.cells] using e1
  subst this
  simp only [Lit.wf, Bool.and_eq_true, decide_eq_true_eq] at hwf
  have c1 : IntKind.u32.min = 0 := by decide
  have c2 : IntKind.u32.max = 4294967295 := by decide
  exact ⟨v.toNat, by omega, by omega⟩
end

/-! ### slices that are made -/
section
variable {P : Program} {Q : Exit → Act → World → Prop} {a : Act} {w : World} {o : Oper} {K : Act → World → Prop}
def makeOf : Op → Option (Nat × Operand × Operand)
  | .makeSlice t l c => some (t, l, c)
  | _ => none
theorem op_make (t : Nat) (l c : Operand) (e n : Nat) (z : Value) (ho : makeOf o.op = some (t, l, c)) (ht : P.underlying t = some (.slice e)) (hz : (P.info? e).bind (fun i => i.zero) = some z) (hs : sizeT P e = some 1) (hz1 : z.cells = #[z]) (hb : (P.info? e).map (fun i => Nat.ble i.bytes 64) = some true)
    (hl : a.eval l = .int .i64 (n : Int)) (hc : a.eval c = .int .i64 (n : Int)) (hn : n ≤ 1000000)
    (k : ∀ w' b, w'.heap[b]? = some (.cells (Array.replicate n z) e (0, 0)) → b = w.heap.size → Fr w w' N0 → K (a.put o.dst (.slice (some ⟨b, 0, none⟩) n n)) w') : OpW P o a w K Q := by
  obtain ⟨i, hi, hz⟩ := Option.bind_eq_some_iff.1 hz
  have hs : i.size = 1 := by unfold sizeT at hs; rw [hi] at hs; simpa using hs
  have hb : i.bytes ≤ 64 := by rw [hi] at hb; simpa using hb
  unfold makeOf at ho
  split at ho
  · rename_i t' l' c' hop
    simp only [Option.some.injEq, Prod.mk.injEq] at ho
    obtain ⟨rfl, rfl, rfl⟩ := ho
    have hbn : (i.bytes : Int) * (n : Int) ≤ 281474976710656 := by
      have h1 : i.bytes * n ≤ 64 * 1000000 := Nat.mul_le_mul hb hn
      have h2 : ((i.bytes * n : Nat) : Int) ≤ 281474976710656 := by omega
      rwa [Int.natCast_mul] at h2
    have hr := run_makeSlice (P := P) w t' e i z ht hi hz .i64 .i64 n n (by omega) (Int.le_refl _) (by rw [hs, Int.toNat_natCast]; omega) hbn (by omega)
    have hm : madeCells z.cells ((n : Int).toNat * i.size) = Array.replicate n z := by
      rw [hs, Int.toNat_natCast, Nat.mul_one, hz1]
      unfold madeCells
      apply Array.ext
      · simp
      · intro j h1 h2
        simp [Nat.mod_one]
    rw [hm, Int.toNat_natCast] at hr
    refine op_run _ _ ?_ (k _ _ (heap_alloc_new w _) rfl (Fr.alloc1 w _))
    unfold execOp
    simp only [hop, hl, hc, Sem.run_bind, hr, Result.andThen_ok, Sem.run_pure]
  · cases ho
/-- An index into a slice that begins within a block. -/
theorem run_idx_slb (t : Nat) (x i : Operand) (sz b off n c : Nat) (kd : IntKind) (k : Nat) (ho : idxAOf o.op = some (t, x, i)) (hs : isSl P t = true) (hz : elemSz P t = some sz)
    (hx : a.eval x = .slice (some ⟨b, off, none⟩) n c) (hi : a.eval i = .int kd k) (hk : k < n) : (execOp a.eval o).run P w = .ok (.value (.pointer (some ⟨b, off + k * sz, none⟩))) w := by
  have h := run_idx_sl (P := P) (w := w) t x i sz ⟨b, off, none⟩ n c kd k ho hs hz hx hi hk
  have hadd : (⟨b, off, none⟩ : Addr).add (k * sz) = ⟨b, off + k * sz, none⟩ := by unfold Addr.add; split <;> simp_all
  rw [hadd] at h
  exact h
end
/-- A byte, so often; then zeros. -/
def fillC (c n i : Nat) : List Nat := List.replicate i c ++ List.replicate (n - i) 0
theorem fillC_length {c n i : Nat} (h : i ≤ n) : (fillC c n i).length = n := by simp [fillC]; omega
theorem fillC_step {c n i : Nat} (h : i < n) : (fillC c n i).set i c = fillC c n (i + 1) := by
  unfold fillC
  rw [List.set_append_right _ _ (by simp), List.length_replicate, Nat.sub_self, show n - i = (n - (i + 1)) + 1 by omega, List.replicate_succ, List.set_cons_zero, List.replicate_succ', List.append_assoc]
  rfl
theorem fillC_all {c n : Nat} : fillC c n n = List.replicate n c := by simp [fillC]
theorem B_set {L : List Nat} {i x : Nat} (h : i < L.length) : spl (B L).toArray (0 + i * 1) #[.int .u8 (x : Int)] = (B (L.set i x)).toArray := by
  unfold spl
  have e : 0 + i * 1 = i := by omega
  have hl : (B L).length = L.length := B_length L
  rw [e]
  simp only [List.size_toArray, List.length_cons, List.length_nil]
  congr 1
  have e2 : B (L.set i x) = (B L).set i (.int .u8 (x : Int)) := by simp [B, List.map_set]
  rw [e2, List.set_eq_take_append_cons_drop, if_pos (by omega)]
  simp
theorem zeros_B {n : Nat} {c : Nat} : Array.replicate n (Value.int .u8 0) = (B (fillC c n 0)).toArray := by
  apply Array.toList_inj.1
  simp [fillC, B]
theorem Row.ofBlk {w : World} {b n t8 : Nat} {L : List Nat} (h : w.heap[b]? = some (.cells (B L).toArray t8 (0, 0))) (hl : L.length = n) (hn : n ≤ 1000000) : Row w t8 1 (.slice (some ⟨b, 0, none⟩) n n) L.length (B L) := by
  subst hl
  exact Row.made h (by simp [B_length]) (by simp only [maxLen]; omega)
end Go.Alm
