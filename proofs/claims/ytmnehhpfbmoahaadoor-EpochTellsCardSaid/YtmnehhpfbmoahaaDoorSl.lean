/- Slices: what is read of them; rows of the call's own, and what is appended to them. -/
import Derived.Test.YtmnehhpfbmoahaaDoorPlan
import Derived.Deep.AppendSrc
namespace Go.Alm
open Go Go.RowKit

/-- From an address on, if there is one, these cells stand. -/
def Rd (w : World) (ao : Option Addr) (xs : List Value) : Prop := ∀ j u, xs[j]? = some u → ∃ ad, ao = some ad ∧ w.cell? (ad.add j) = some u

theorem Rd.nil (w : World) (ao : Option Addr) : Rd w ao [] := fun j u h => by simp at h
theorem add_block (ad : Addr) (j : Nat) : (ad.add j).block = ad.block := by unfold Addr.add; split <;> rfl
theorem Rd.keep {w w' : World} {S : Nat → Prop} {ao : Option Addr} {xs : List Value} (h : Rd w ao xs) (hF : Fr w w' S) (hn : ∀ ad, ao = some ad → ¬ S ad.block) : Rd w' ao xs := fun j u hj => by
  obtain ⟨ad, rfl, hc⟩ := h j u hj
  exact ⟨ad, rfl, hF.cell hc (by rw [add_block]; exact hn ad rfl)⟩
/-- Where what is read stands. -/
def Ar (ao : Option Addr) (xs : List Value) : Nat → Prop := fun k => xs ≠ [] ∧ ∃ ad, ao = some ad ∧ ad.block = k
theorem Rd.keep' {w w' : World} {S : Nat → Prop} {ao : Option Addr} {xs : List Value} (h : Rd w ao xs) (hF : Fr w w' S) (hn : Dis (Ar ao xs) S) : Rd w' ao xs := fun j u hj => by
  obtain ⟨ad, rfl, hc⟩ := h j u hj
  exact ⟨ad, rfl, hF.cell hc (by rw [add_block]; exact hn _ ⟨(by rintro rfl; simp at hj), ad, rfl, rfl⟩)⟩
theorem Rd.in {w : World} {ao : Option Addr} {xs : List Value} (h : Rd w ao xs) : In w (Ar ao xs) := by
  rintro k ⟨hx, ad, rfl, rfl⟩
  cases xs with
  | nil => exact absurd rfl hx
  | cons u r =>
    obtain ⟨ad', he, hc⟩ := h 0 u rfl
    cases he
    have := World.block_lt_of_cell? w _ hc
    rwa [add_block] at this
theorem Rd.drew {w : World} {ao : Option Addr} {xs : List Value} (h : Rd w ao xs) : Rd w.drew ao xs := fun j u hj => by
  obtain ⟨ad, hao, hc⟩ := h j u hj
  exact ⟨ad, hao, by simpa using hc⟩
theorem Rd.take {w : World} {ao : Option Addr} {xs : List Value} (h : Rd w ao xs) (n : Nat) : Rd w ao (xs.take n) := fun j u hj => by
  rw [List.getElem?_take] at hj
  split at hj
  · exact h j u hj
  · cases hj
theorem Rd.drop {w : World} {ad : Addr} {xs : List Value} (h : Rd w (some ad) xs) (n : Nat) : Rd w (some (ad.add n)) (xs.drop n) := fun j u hj => by
  rw [List.getElem?_drop] at hj
  obtain ⟨ad', he, hc⟩ := h (n + j) u hj
  cases he
  refine ⟨_, rfl, ?_⟩
  have e : (ad.add n).add j = ad.add (n + j) := by
    unfold Addr.add
    by_cases hn : n = 0 <;> by_cases hj0 : j = 0 <;> simp [hn, hj0, Nat.add_assoc]
  rw [e]; exact hc

theorem Rd.src {P : Program} {w : World} {ao : Option Addr} {xs : List Value} {size n c tx e : Nat} (hk : P.underlying tx = some (.slice e)) (h : Rd w ao xs) (hl : xs.length = n * size) (hs : 0 < size) (h1 : ∀ u ∈ xs, u.oneCell' = true) :
    Src P size tx (.slice ao n c) n xs w := by
  cases ao with
  | some ad => exact Src.ofSlice w hk ad n c xs hl (fun j u hj => by obtain ⟨ad', he, hc⟩ := h j u hj; cases he; exact hc) h1
  | none =>
    have hx : xs = [] := by
      cases xs with
      | nil => rfl
      | cons u r => obtain ⟨_, he, _⟩ := h 0 u rfl; cases he
    subst hx
    have hn : n = 0 := by
      rcases Nat.eq_zero_or_pos n with h0 | h0
      · exact h0
      · have := Nat.mul_pos h0 hs; simp at hl; omega
    subst hn
    exact Src.ofNil w hk c

/-- A slice, of which `n` elements' cells `xs` are read. -/
def SlV (w : World) (v : Value) (n : Nat) (xs : List Value) : Prop := ∃ ao cap, v = .slice ao n cap ∧ Rd w ao xs
/-- Where it stands. -/
def SlF (v : Value) (xs : List Value) : Nat → Prop := match v with
  | .slice ao _ _ => Ar ao xs
  | _ => N0
theorem SlV.keep {w w' : World} {S : Nat → Prop} {v : Value} {n : Nat} {xs : List Value} (h : SlV w v n xs) (F : Fr w w' S) (d : Dis (SlF v xs) S) : SlV w' v n xs := by
  obtain ⟨ao, cap, rfl, hR⟩ := h
  exact ⟨ao, cap, rfl, hR.keep' F d⟩
theorem SlV.in {w : World} {v : Value} {n : Nat} {xs : List Value} (h : SlV w v n xs) : In w (SlF v xs) := by
  obtain ⟨ao, cap, rfl, hR⟩ := h
  exact hR.in
theorem SlV.nil (w : World) : SlV w (.slice none 0 0) 0 [] := ⟨none, 0, rfl, Rd.nil _ _⟩

/-- A row of the call's own. -/
def Row (w : World) (e size : Nat) (v : Value) (n : Nat) (xs : List Value) : Prop := w.ownsRow 0 e size v n xs

theorem Row.nil (w : World) (e size : Nat) : Row w e size (.slice none 0 0) 0 [] := World.ownsRow_nil w 0 e size
theorem Row.length {w : World} {e size n : Nat} {v : Value} {xs : List Value} (h : Row w e size v n xs) : xs.length = n * size := h.1
theorem Row.lt {w : World} {e size n : Nat} {v : Value} {xs : List Value} (h : Row w e size v n xs) : ∀ k, v.ownBlock = some k → k < w.heap.size := fun k hk => (World.ownsRow.lt h k hk).2
theorem Row.keep {w w' : World} {S : Nat → Prop} {e size n : Nat} {v : Value} {xs : List Value} (h : Row w e size v n xs) (hF : Fr w w' S) (hn : Dis (Own v) S) : Row w' e size v n xs := by
  refine ⟨h.1, ?_⟩
  rcases h.2 with h0 | ⟨g, cap, cur, rfl, h1, h2, h3⟩
  · exact .inl h0
  · exact .inr ⟨g, cap, cur, rfl, h1, hF.keep h2 (fun k hk => by rw [hk]; exact hn g rfl), h3⟩
theorem Row.drew {w : World} {e size n : Nat} {v : Value} {xs : List Value} (h : Row w e size v n xs) : Row w.drew e size v n xs := h
/-- Its shape, and what is read of it. -/
theorem Row.read {w : World} {e size n : Nat} {v : Value} {xs : List Value} (h : Row w e size v n xs) : ∃ ao cap, v = .slice ao n cap ∧ n ≤ cap ∧ cap ≤ maxLen ∧ Rd w ao xs ∧ (∀ ad, ao = some ad → v.ownBlock = some ad.block ∧ ad.off = 0 ∧ ad.spot = none) := by
  rcases h.2 with ⟨rfl, rfl⟩ | ⟨g, cap, cur, rfl, h1, h2, h3, h4, h5, h6⟩
  · refine ⟨none, 0, rfl, Nat.le_refl _, Nat.zero_le _, ?_, by simp⟩
    have hx : xs = [] := List.eq_nil_of_length_eq_zero (by simpa using h.1)
    subst hx
    exact Rd.nil _ _
  · refine ⟨some ⟨g, 0, none⟩, cap, rfl, h3, h4, fun j u hj => ⟨_, rfl, World.ownsRow.cells h rfl j u hj⟩, ?_⟩
    rintro ad ⟨rfl⟩
    exact ⟨rfl, rfl, rfl⟩
theorem Row.cells {w : World} {e size n : Nat} {v : Value} {xs : List Value} (h : Row w e size v n xs) : v.cells = #[v] ∧ v.oneCell' = true := by
  obtain ⟨ao, cap, rfl, _⟩ := h.read
  exact ⟨rfl, rfl⟩
theorem Row.made {w : World} {b e size n : Nat} {c : Array Value} (hb : w.heap[b]? = some (.cells c e (0, 0))) (hs : c.size = n * size) (hm : n ≤ maxLen) : Row w e size (.slice (some ⟨b, 0, none⟩) n n) n c.toList :=
  ⟨by simpa using hs, .inr ⟨b, n, c, rfl, Nat.zero_le _, hb, Nat.le_refl _, hm, hs, by rw [List.take_of_length_le (by simp [hs])]⟩⟩
theorem Row.made' {w : World} {b e size n cap : Nat} {c : Array Value} {xs : List Value} (hb : w.heap[b]? = some (.cells c e (0, 0))) (hs : c.size = cap * size) (hm : cap ≤ maxLen) (hn : n ≤ cap) (hx : c.toList.take (n * size) = xs) : Row w e size (.slice (some ⟨b, 0, none⟩) n cap) n xs :=
  ⟨by rw [← hx, List.length_take, Array.length_toList, hs]; exact Nat.min_eq_left (Nat.mul_le_mul_right _ hn), .inr ⟨b, cap, c, rfl, Nat.zero_le _, hb, hn, hm, hs, hx⟩⟩

theorem Row.in {w : World} {e size n : Nat} {v : Value} {xs : List Value} (h : Row w e size v n xs) : In w (Own v) := fun k hk => h.lt k hk

theorem Row.sl {w : World} {e size n : Nat} {v : Value} {xs : List Value} (h : Row w e size v n xs) : SlV w v n xs := by
  obtain ⟨ao, cap, hv, _, _, hR, _⟩ := h.read
  exact ⟨ao, cap, hv, hR⟩
theorem Row.slDis {w : World} {e size n : Nat} {v : Value} {xs : List Value} {T : Nat → Prop} (h : Row w e size v n xs) (d : Dis (Own v) T) : Dis (SlF v xs) T := by
  obtain ⟨ao, cap, rfl, _, _, hR, ho⟩ := h.read
  rintro k ⟨_, ad, rfl, rfl⟩
  exact d _ (ho ad rfl).1
theorem Own_one {b n c : Nat} : Own (.slice (some ⟨b, 0, none⟩) n c) = One b := by
  funext k
  simp [Own, One, Value.ownBlock, eq_comm]
theorem Own_nil {n c : Nat} : Own (.slice none n c) = N0 := by
  funext k
  simp [Own, N0, Value.ownBlock]
theorem Dis.own {b n c : Nat} {T : Nat → Prop} (h : Dis (One b) T) : Dis (Own (.slice (some ⟨b, 0, none⟩) n c)) T := by rw [Own_one]; exact h
theorem New.own {w : World} {S : Nat → Prop} {b n c : Nat} (h : New w S (One b)) : New w S (Own (.slice (some ⟨b, 0, none⟩) n c)) := by rw [Own_one]; exact h

theorem run_append_row {P : Program} {w : World} {t tx ty e : Nat} {i : TypeInfo} {z : Value} {size bytes : Nat} (ht : P.underlying t = some (.slice e)) (hi : P.info? e = some i) (hz : i.zero = some z)
    (hsize : i.size = size) (hby : i.bytes = bytes) (hzs : z.cells.size = size)
    {v : Value} {n : Nat} {xs : List Value} (hown : Row w e size v n xs) {x : Value} {m : Nat} {news : List Value} (hs : Src P size tx x m news w)
    (h63 : n + m ≤ maxLen) (hbytes : (n + m) * bytes ≤ 140737488355328) :
    ∃ v' w', (Builtin.append_ #[t, tx] ty #[v, x]).run P w = .ok v' w' ∧ Row w' e size v' (n + m) (xs ++ news) ∧ Fr w w' (Own v) ∧ New w (Own v) (Own v') := by
  subst hsize
  subst hby
  have hsmall : n + m ≤ 9223372036854775807 := by simp only [maxLen] at h63; omega
  have hlen : (xs ++ news).length = (n + m) * i.size := by rw [List.length_append, hown.1, hs.newsLen, Nat.add_mul]
  have grown : ∀ (old : Nat), old < n + m → ∀ (S : Nat → Prop),
      Row (w.drew.alloc (.cells ((xs ++ news).toArray ++ Builtin.zeroCells z.cells (grownCap w (n + m) old e - (n + m))) e)) e i.size
        (.slice (some ⟨w.heap.size, 0, none⟩) (n + m) (grownCap w (n + m) old e)) (n + m) (xs ++ news) ∧
      Fr w (w.drew.alloc (.cells ((xs ++ news).toArray ++ Builtin.zeroCells z.cells (grownCap w (n + m) old e - (n + m))) e)) S := by
    intro old ho S
    have hge := grownCap_ge w (n + m) old e
    have hcm : grownCap w (n + m) old e ≤ maxLen := grownCap_le_maxLen w (n + m) old e h63
    refine ⟨⟨hlen, .inr ⟨w.heap.size, _, _, rfl, Nat.zero_le _, heap_alloc_new w.drew _, hge, hcm, ?_, ?_⟩⟩, (Fr.alloc1 w.drew _).of_drew.any⟩
    · simp only [Array.size_append, List.size_toArray, size_zeroCells, hzs, hlen, ← Nat.add_mul]
      congr 1
      omega
    · simp only [Array.toList_append]
      rw [← hlen]
      exact List.take_left
  rcases hown.2 with ⟨rfl, rfl⟩ | ⟨g, cap, cur, rfl, hbg, hg, hnc, hcm, hcs, htake⟩
  · have hx : xs = [] := List.eq_nil_of_length_eq_zero (by simpa using hown.1)
    subst hx
    by_cases hm : m = 0
    · subst hm
      have hn : news = [] := List.eq_nil_of_length_eq_zero (by simpa using hs.newsLen)
      subst hn
      refine ⟨.slice none 0 0, w, ?_, Row.nil w e i.size, Fr.refl _ _, New.refl _ _⟩
      rcases hs.kind with ⟨e', hk⟩ | hk <;> simp [Builtin.append_, run_underlying ht, run_underlying hk, sizeOf, typeInfo, hi, hs.len, hs.cells]
    · have hr := run_append_grow_src (P := P) w t tx ty e i z ht hi hz none 0 0 [] (run_firstCells_none w.drew i.size 0 0 0) x m news hs (by omega) (by omega)
        (growslice_fits (by omega) hbytes)
      have hgr := grown 0 (by omega) (Own (.slice none 0 0))
      exact ⟨_, _, hr, hgr.1, hgr.2, fun g hg => .inr (by simp [Own, Value.ownBlock] at hg; omega)⟩
  · by_cases hroom : n + m ≤ cap
    · have hfit : n * i.size + news.length ≤ cur.size := by rw [hs.newsLen, hcs, ← Nat.add_mul]; exact Nat.mul_le_mul_right _ hroom
      have hst := run_storeCells_at P g (n * i.size) e news 0 cur w hg (by simpa using hfit) hs.one
      simp only [Nat.add_zero] at hst
      refine ⟨.slice (some ⟨g, 0, none⟩) (n + m) cap, w.setRow g (cur.toList.take (n * i.size) ++ news ++ cur.toList.drop (n * i.size + news.length)).toArray, ?_,
        ⟨hlen, .inr ⟨g, cap, _, rfl, hbg, setRow_heap w g cur _ e _ hg, hroom, hcm, ?_, ?_⟩⟩, ⟨rfl, rfl, rfl, by simp, fun k _ hk => setRow_other w g k _ (fun e => hk (by simp [Own, Value.ownBlock, e]))⟩, New.refl _ _⟩
      · rcases hs.kind with ⟨e', hk⟩ | hk <;> simp [Builtin.append_, run_underlying ht, run_underlying hk, sizeOf, typeInfo, hi, hs.len, hroom, hs.cells, Addr.add_lit, hst]
      · simp only [List.size_toArray, List.length_append, List.length_take, List.length_drop, Array.length_toList]
        omega
      · rw [htake, ← hlen]
        exact List.take_left
    · have holds : ∀ j u, xs[j]? = some u → w.cell? ((⟨g, 0, none⟩ : Addr).add j) = some u := World.ownsRow.cells hown (g := g) rfl
      have hr := run_append_grow_src (P := P) w t tx ty e i z ht hi hz (some ⟨g, 0, none⟩) n cap xs (run_firstCells_some w.drew i.size n ⟨g, 0, none⟩ n cap xs hown.1 (by simpa using holds)) x m news hs (by omega) (by omega)
        (growslice_fits (by omega) hbytes)
      have hgr := grown cap (by omega) (Own (.slice (some ⟨g, 0, none⟩) n cap))
      exact ⟨_, _, hr, hgr.1, hgr.2, fun g hg => .inr (by simp [Own, Value.ownBlock] at hg; omega)⟩

def appendOf : Op → Option (Operand × Operand × Nat × Nat)
  | .call c => match c.callee, c.args.toList, c.argTypes.toList with
    | .builtin .append, [s, x], [t, tx] => some (s, x, t, tx)
    | _, _, _ => none
  | _ => none

/-- What a type of elements is: its zero value, cells, bytes. -/
def elemT (P : Program) (t : Nat) : Option (Nat × Option Value × Nat × Nat) := match P.underlying t with
  | some (.slice e) => (P.info? e).map fun i => (e, i.zero, i.size, i.bytes)
  | _ => none

section
variable {P : Program} {Q : Exit → Act → World → Prop} {a : Act} {w : World}

theorem run_append_op {o : Oper} (s x : Operand) (t tx : Nat) (ho : appendOf o.op = some (s, x, t, tx)) : (execOp a.eval o).run P w = ((Builtin.append_ #[t, tx] o.type #[a.eval s, a.eval x]).run P w).andThen fun v w' => .ok (.value v) w' := by
  unfold appendOf at ho
  split at ho
  · rename_i c hc
    split at ho
    · rename_i h1 h2 h3
      simp only [Option.some.injEq, Prod.mk.injEq] at ho
      obtain ⟨h4, h5, h6, h7⟩ := ho
      rw [h4, h5] at h2
      rw [h6, h7] at h3
      obtain ⟨cal, args, tys⟩ := c
      simp only at h1 h2 h3
      obtain rfl : args = #[s, x] := by rw [← Array.toArray_toList (xs := args), h2]
      obtain rfl : tys = #[t, tx] := by rw [← Array.toArray_toList (xs := tys), h3]
      subst h1
      unfold execOp
      simp [hc, resolve, invoke, builtin]
    · cases ho
  · cases ho

theorem op_append {o : Oper} {K : Act → World → Prop} (s x : Operand) (t tx e size bytes : Nat) (z : Value) (ho : appendOf o.op = some (s, x, t, tx)) (he : elemT P t = some (e, some z, size, bytes)) (hzs : z.cells.size = size)
    {v : Value} {n : Nat} {xs : List Value} (hs : a.eval s = v) (hown : Row w e size v n xs) {xv : Value} {m : Nat} {news : List Value} (hx : a.eval x = xv) (hsrc : Src P size tx xv m news w)
    (h63 : n + m ≤ maxLen) (hbytes : (n + m) * bytes ≤ 140737488355328)
    (k : ∀ v' w', Row w' e size v' (n + m) (xs ++ news) → Fr w w' (Own v) → New w (Own v) (Own v') → K (a.put o.dst v') w') : OpW P o a w K Q := by
  unfold elemT at he
  split at he
  · rename_i e' ht
    cases hi : P.info? e' with
    | none => simp [hi] at he
    | some inf =>
      simp only [hi, Option.map_some, Option.some.injEq, Prod.mk.injEq] at he
      obtain ⟨rfl, hz, hsz, hby⟩ := he
      obtain ⟨v', w', hr, h1, h2, h3⟩ := run_append_row (P := P) (ty := o.type) ht hi hz hsz hby hzs hown hsrc h63 hbytes
      refine op_run v' w' ?_ (k v' w' h1 h2 h3)
      rw [run_append_op s x t tx ho, hs, hx, hr]
      rfl
  · cases he
end
end Go.Alm
