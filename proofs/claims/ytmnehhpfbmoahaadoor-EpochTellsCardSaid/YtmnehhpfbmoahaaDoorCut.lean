/- Cutting, indexing and copying of slices that are known by what is read of them. -/
import Derived.Test.YtmnehhpfbmoahaaDoorAux
import Derived.Laws.IdiomCopy
namespace Go.Alm
open Go Go.RowKit

/-- Where a cut begins. -/
def cutA (ao : Option Addr) (l m s : Nat) : Option Addr := if m = l then ao else ao.map (·.add (l * s))
def sliceOf : Op → Option (Nat × Operand × Option Operand × Option Operand × Option Operand)
  | .slice t x lo hi mx => some (t, x, lo, hi, mx)
  | _ => none
def boundOf : Option Value → Nat → Option Int
  | none, d => some d
  | some (.int _ i), _ => some i
  | _, _ => none
def hasB : Option Value → Bool
  | none => false
  | some _ => true

theorem Rd.cut {w : World} {ao : Option Addr} {xs : List Value} (h : Rd w ao xs) (l k m s : Nat) (hk : m = l → k = 0) : Rd w (cutA ao l m s) ((xs.drop (l * s)).take (k * s)) := fun j u hj => by
  rw [List.getElem?_take] at hj
  split at hj
  · rename_i hjk
    have hml : m ≠ l := fun e => by rw [hk e] at hjk; simp at hjk
    rw [List.getElem?_drop] at hj
    obtain ⟨ad, rfl, hc⟩ := h _ u hj
    refine ⟨ad.add (l * s), by simp [cutA, hml], ?_⟩
    have e : (ad.add (l * s)).add j = ad.add (l * s + j) := by
      unfold Addr.add
      by_cases hn : l * s = 0 <;> by_cases hj0 : j = 0 <;> simp [hn, hj0, Nat.add_assoc]
    rw [e]; exact hc
  · cases hj
/-- `S` is within `T`. -/
def Sub (S T : Nat → Prop) : Prop := ∀ k, S k → T k
theorem Sub.refl (S : Nat → Prop) : Sub S S := fun _ h => h
theorem Sub.trans {S T U : Nat → Prop} (h : Sub S T) (k : Sub T U) : Sub S U := fun i hi => k i (h i hi)
theorem Sub.dis {S T U : Nat → Prop} (h : Sub S T) (d : Dis T U) : Dis S U := fun k hk => d k (h k hk)
theorem Sub.cut {ao : Option Addr} {xs ys : List Value} {l m s : Nat} (h : ys ≠ [] → xs ≠ []) : Sub (Ar (cutA ao l m s) ys) (Ar ao xs) := by
  rintro k ⟨hy, ad, ha, rfl⟩
  refine ⟨h hy, ?_⟩
  unfold cutA at ha
  split at ha
  · exact ⟨ad, ha, rfl⟩
  · cases ao with
    | none => cases ha
    | some b => simp only [Option.map_some, Option.some.injEq] at ha; subst ha; exact ⟨b, rfl, (add_block _ _).symm⟩
theorem Sub.nil {ao : Option Addr} {T : Nat → Prop} : Sub (Ar ao []) T := fun _ h => absurd rfl h.1
theorem Sub.n0 {T : Nat → Prop} : Sub N0 T := fun _ h => h.elim
theorem Sub.or {S T U : Nat → Prop} (h : Sub S U) (k : Sub T U) : Sub (Or2 S T) U := fun i hi => hi.elim (h i) (k i)
theorem Sub.inl {S T : Nat → Prop} : Sub S (Or2 S T) := fun _ h => .inl h
theorem Sub.inr {S T : Nat → Prop} : Sub T (Or2 S T) := fun _ h => .inr h
theorem Sub.new {w : World} {S T U : Nat → Prop} (h : Sub U T) (k : New w S T) : New w S U := fun i hi => k i (h i hi)
theorem Sub.toNew {w : World} {S T : Nat → Prop} (h : Sub T S) : New w S T := fun i hi => .inl (h i hi)

section
variable {P : Program} {Q : Exit → Act → World → Prop} {a : Act} {w : World} {o : Oper} {K : Act → World → Prop}

theorem run_cut (t : Nat) (x : Operand) (lo hi mx : Option Operand) (sz : Nat) (ao : Option Addr) (n c l h m : Nat) (ho : sliceOf o.op = some (t, x, lo, hi, mx)) (hs : isSl P t = true) (hz : elemSz P t = some sz)
    (hx : a.eval x = .slice ao n c) (hlo : boundOf (lo.map a.eval) 0 = some (l : Int)) (hhi : boundOf (hi.map a.eval) n = some (h : Int)) (hmx : boundOf (mx.map a.eval) c = some (m : Int)) (hmh : (hasB (mx.map a.eval) && !hasB (hi.map a.eval)) = false)
    (h1 : l ≤ h) (h2 : h ≤ m) (h3 : m ≤ c) : (execOp a.eval o).run P w = .ok (.value (.slice (cutA ao l m sz) (h - l) (m - l))) w := by
  unfold sliceOf at ho
  split at ho
  · rename_i t' x' lo' hi' mx' hop
    simp only [Option.some.injEq, Prod.mk.injEq] at ho
    obtain ⟨rfl, rfl, rfl, rfl, rfl⟩ := ho
    unfold isSl at hs
    split at hs
    · rename_i e ht
      have hz' : sizeT P e = some sz := by unfold elemSz at hz; rw [ht] at hz; exact hz
      have e1 : (execOp a.eval o) = (do pure (.value (← Instr.sliceAt t' (a.eval x') (lo'.map a.eval) (hi'.map a.eval) (mx'.map a.eval)))) := by
        unfold execOp; simp only [hop]
      rw [e1, hx]
      generalize lo'.map a.eval = L at *
      generalize hi'.map a.eval = H at *
      generalize mx'.map a.eval = M at *
      have hb : (Instr.sliceBounds true n c L H M).run P w = .ok (l, h, m) w := by
        unfold Instr.sliceBounds
        cases M with
        | none =>
          simp only [boundOf, Option.some.injEq] at hmx
          have hmx' : c = m := by omega
          subst hmx'
          cases H with
          | none =>
            simp only [boundOf, Option.some.injEq] at hhi
            have hhi' : n = h := by omega
            subst hhi'
            cases L with
            | none =>
              simp only [boundOf, Option.some.injEq] at hlo
              have : l = 0 := by omega
              subst this
              simp
            | some lv =>
              cases lv <;> simp only [boundOf, Option.some.injEq, reduceCtorEq] at hlo
              subst hlo
              simp [run_sliceBound, h1]
          | some hv =>
            cases hv <;> simp only [boundOf, Option.some.injEq, reduceCtorEq] at hhi
            subst hhi
            cases L with
            | none =>
              simp only [boundOf, Option.some.injEq] at hlo
              have : l = 0 := by omega
              subst this
              simp [run_sliceBound, h2]
            | some lv =>
              cases lv <;> simp only [boundOf, Option.some.injEq, reduceCtorEq] at hlo
              subst hlo
              simp [run_sliceBound, h1, h2]
        | some mv =>
          cases mv <;> simp only [boundOf, Option.some.injEq, reduceCtorEq] at hmx
          subst hmx
          cases H with
          | none => simp [hasB] at hmh
          | some hv =>
            cases hv <;> simp only [boundOf, Option.some.injEq, reduceCtorEq] at hhi
            subst hhi
            cases L with
            | none =>
              simp only [boundOf, Option.some.injEq] at hlo
              have : l = 0 := by omega
              subst this
              simp [run_sliceBound, h2, h3]
            | some lv =>
              cases lv <;> simp only [boundOf, Option.some.injEq, reduceCtorEq] at hlo
              subst hlo
              simp [run_sliceBound, h1, h2, h3]
      simp [Instr.sliceAt, Instr.slice, run_underlying ht, hb, run_sizeOf hz', cutA]
    · cases hs
  · cases ho

theorem run_idx_o (t : Nat) (x i : Operand) (sz : Nat) (ao : Option Addr) (ad : Addr) (n c : Nat) (kd : IntKind) (k : Nat) (ho : idxAOf o.op = some (t, x, i)) (hs : isSl P t = true) (hz : elemSz P t = some sz)
    (hx : a.eval x = .slice ao n c) (hi : a.eval i = .int kd k) (hao : ao = some ad) (hk : k < n) : (execOp a.eval o).run P w = .ok (.value (.pointer (some (ad.add (k * sz))))) w := by
  subst hao
  exact run_idx_sl t x i sz ad n c kd k ho hs hz hx hi hk

/-- More cells than one, wherever. -/
theorem run_loadR {o : Oper} (t : Nat) (x : Operand) (ad : Addr) (n : Nat) (vs : Array Value) (ho : loadOf o.op = some (t, x)) (hr : rowed P t = some true) (hn : sizeT P t = some n)
    (hx : a.eval x = .pointer (some ad)) (hsz : vs.size = n) (hb : ∀ j u, vs.toList[j]? = some u → w.cell? (ad.add j) = some u) : (execOp a.eval o).run P w = .ok (.value (.agg vs)) w := by
  unfold loadOf at ho
  split at ho
  · rename_i t' x' hop
    simp only [Option.some.injEq, Prod.mk.injEq] at ho
    obtain ⟨rfl, rfl⟩ := ho
    have hl := run_loadCells_list (P := P) (w := w) ad vs.toList hb
    have hlen : vs.toList.length = n := by simpa using hsz
    rw [hlen] at hl
    unfold execOp
    simp only [hop, hx, Instr.loadAt, Instr.sureAddr, loadVar, Sem.run_bind, Sem.run_pure, Result.andThen_ok, run_isAgg _ _ hr, if_true, run_sizeOf hn, hl, Array.toArray_toList]
  · cases ho

/-! ### copy -/
def copyOf : Op → Option (Operand × Operand × Nat × Nat)
  | .call c => match c.callee, c.args.toList, c.argTypes.toList with
    | .builtin .copy, [s, x], [t, tx] => some (s, x, t, tx)
    | _, _, _ => none
  | _ => none
theorem run_copy_op {o : Oper} (s x : Operand) (t tx : Nat) (ho : copyOf o.op = some (s, x, t, tx)) : (execOp a.eval o).run P w = ((Builtin.copy_ #[t, tx] o.type #[a.eval s, a.eval x]).run P w).andThen fun v w' => .ok (.value v) w' := by
  unfold copyOf at ho
  split at ho
  · rename_i c hc
    split at ho
    · rename_i h1 h2 h3
      simp only [Option.some.injEq, Prod.mk.injEq] at ho
      obtain ⟨h4, h5, h6, h7⟩ := ho
      rw [h4, h5] at h2
      rw [h6, h7] at h3
      obtain ⟨cal, args, tys⟩ := c
      simp only at h1 h2 h3
      obtain rfl : args = #[s, x] := by rw [← Array.toArray_toList (xs := args), h2]
      obtain rfl : tys = #[t, tx] := by rw [← Array.toArray_toList (xs := tys), h3]
      subst h1
      unfold execOp
      simp [hc, resolve, invoke, builtin]
    · cases ho
  · cases ho

/-- What is of one cell each, laid over a block's cells. -/
theorem op_copy (s x : Operand) (t tx : Nat) (ho : copyOf o.op = some (s, x, t, tx)) (hs1 : isSl P t = true) (hz : elemSz P t = some 1)
    (b off dLen dCap : Nat) (ao : Option Addr) (sLen sCap : Nat) (ys : List Value) (c : Array Value) (te : Nat) (c' : Array Value) (hs : a.eval s = .slice (some ⟨b, off, none⟩) dLen dCap) (hx : a.eval x = .slice ao sLen sCap)
    (hb : w.heap[b]? = some (.cells c te (0, 0))) (hR : Rd w ao ys) (hy : ys.length = sLen) (h1 : ∀ u ∈ ys, u.oneCell' = true) (hle : off + min sLen dLen ≤ c.size)
    (hc' : spl c off (ys.take dLen).toArray = c')
    (k : ∀ w', w'.heap[b]? = some (.cells c' te (0, 0)) → w'.heap.size = w.heap.size → Fr w w' (One b) → K (a.put o.dst (.int .i64 (min sLen dLen : Nat))) w') : OpW P o a w K Q := by
  subst hc'
  unfold isSl at hs1
  split at hs1
  · rename_i e ht
    have hz' : (P.info? e).map (·.size) = some 1 := by unfold elemSz at hz; rw [ht] at hz; exact hz
    have hcl : (ys.take dLen).length = Nat.min sLen dLen := by rw [List.length_take, hy]; exact Nat.min_comm _ _
    have hmin : (Nat.min sLen dLen) = min sLen dLen := rfl
    by_cases h0 : Nat.min sLen dLen = 0
    · have hr := run_copy_none (P := P) w t tx o.type e (some ⟨b, off, none⟩) ao dLen dCap sLen sCap ht hz' h0
      have hnil : ys.take dLen = [] := List.eq_nil_of_length_eq_zero (by omega)
      refine op_run (goInt 0) w ?_ ?_
      · rw [run_copy_op s x t tx ho, hs, hx, hr]; rfl
      · have hk := k w (by rw [hnil]; simpa [spl] using hb) rfl (Fr.refl _ _)
        rw [← hmin, h0] at hk
        exact hk
    · cases ao with
      | none =>
        exfalso
        cases ys with
        | nil => simp at hy; subst hy; simp at h0
        | cons u r => obtain ⟨_, he, _⟩ := hR 0 u rfl; cases he
      | some ad =>
        have hr := run_copy_row (P := P) w t tx o.type e b off dLen dCap ad sLen sCap c te (ys.take dLen) ht hz' hb hcl
          (fun j v hj => by
            rw [List.getElem?_take] at hj
            split at hj
            · obtain ⟨_, he, hc⟩ := hR j v hj; cases he; exact hc
            · cases hj) (by rw [hcl, hmin]; exact hle) (fun v hv => h1 v (List.mem_of_mem_take hv))
        refine op_run _ _ (by rw [run_copy_op s x t tx ho, hs, hx, hr]; rfl) ?_
        have hk := k (w.setRow b (spl c off (ys.take dLen).toArray)) (setRow_heap w b c _ te _ hb) (size_setRow _ _ _) ⟨rfl, rfl, rfl, by simp, fun j _ hj => setRow_other w b j _ hj⟩
        simpa [spl, goInt, hcl, hmin] using hk
  · cases hs1
end
end Go.Alm

namespace Go.Alm
open Go Go.RowKit
theorem Rd.elem {w : World} {ao : Option Addr} {xs : List Value} (h : Rd w ao xs) (k s : Nat) (vs : Array Value) (hv : (xs.drop (k * s)).take s = vs.toList) (hs : 0 < vs.size) :
    ∃ ad, ao = some ad ∧ ∀ j u, vs.toList[j]? = some u → w.cell? ((ad.add (k * s)).add j) = some u := by
  have key : ∀ j u, vs.toList[j]? = some u → ∃ ad, ao = some ad ∧ w.cell? ((ad.add (k * s)).add j) = some u := fun j u hj => by
    rw [← hv, List.getElem?_take] at hj
    split at hj
    · rw [List.getElem?_drop] at hj
      obtain ⟨ad, ha, hc⟩ := h _ u hj
      refine ⟨ad, ha, ?_⟩
      have e : (ad.add (k * s)).add j = ad.add (k * s + j) := by
        unfold Addr.add
        by_cases hn : k * s = 0 <;> by_cases hj0 : j = 0 <;> simp [hn, hj0, Nat.add_assoc]
      rw [e]; exact hc
    · cases hj
  obtain ⟨ad, ha, _⟩ := key 0 (vs[0]) (by simp [hs])
  refine ⟨ad, ha, fun j u hj => ?_⟩
  obtain ⟨ad', ha', hc⟩ := key j u hj
  rw [ha] at ha'
  cases ha'
  exact hc
theorem Rd.elem1 {w : World} {ao : Option Addr} {xs : List Value} (h : Rd w ao xs) (k : Nat) (u : Value) (hu : xs[k]? = some u) : ∃ ad, ao = some ad ∧ w.cell? (ad.add (k * 1)) = some u := by
  obtain ⟨ad, ha, hc⟩ := h k u hu
  exact ⟨ad, ha, by rw [Nat.mul_one]; exact hc⟩
theorem B_getD (l : List Nat) (k : Nat) (h : k < l.length) : (B l)[k]? = some (.int .u8 ((l.getD k 0 : Nat) : Int)) := by simp [B, h]
end Go.Alm

namespace Go.Alm
open Go Go.RowKit
section
variable {P : Program} {a : Act} {w : World}
theorem Rd.has {ao : Option Addr} {xs : List Value} (h : Rd w ao xs) (k : Nat) (hk : k < xs.length) : ∃ ad, ao = some ad := by
  obtain ⟨ad, ha, _⟩ := h k xs[k] (by simp [hk])
  exact ⟨ad, ha⟩
/-- One cell of an element. -/
theorem run_loadE1 {o : Oper} (t : Nat) (x : Operand) (ao : Option Addr) (ad : Addr) (i : Nat) (xs : List Value) (u : Value) (ho : loadOf o.op = some (t, x)) (hr : rowed P t = some false)
    (hx : a.eval x = .pointer (some (ad.add i))) (hao : ao = some ad) (hR : Rd w ao xs) (hu : xs[i]? = some u) : (execOp a.eval o).run P w = .ok (.value u) w := by
  obtain ⟨ad', ha, hc⟩ := hR i u hu
  rw [hao] at ha
  cases ha
  exact run_loadC t x _ u ho hr hx hc
/-- More cells of an element. -/
theorem run_loadEn {o : Oper} (t : Nat) (x : Operand) (ao : Option Addr) (ad : Addr) (i n : Nat) (xs : List Value) (vs : Array Value) (ho : loadOf o.op = some (t, x)) (hr : rowed P t = some true) (hn : sizeT P t = some n)
    (hx : a.eval x = .pointer (some (ad.add i))) (hao : ao = some ad) (hR : Rd w ao xs) (hsz : vs.size = n) (hu : (xs.drop i).take n = vs.toList) : (execOp a.eval o).run P w = .ok (.value (.agg vs)) w := by
  refine run_loadR t x (ad.add i) n vs ho hr hn hx hsz fun j u hj => ?_
  rw [← hu, List.getElem?_take] at hj
  split at hj
  · rw [List.getElem?_drop] at hj
    obtain ⟨ad', ha, hc⟩ := hR _ u hj
    rw [hao] at ha
    cases ha
    have e : (ad.add i).add j = ad.add (i + j) := by
      unfold Addr.add
      by_cases hn : i = 0 <;> by_cases hj0 : j = 0 <;> simp [hn, hj0, Nat.add_assoc]
    rw [e]; exact hc
  · cases hj
end
end Go.Alm

namespace Go.Alm
open Go Go.RowKit
section
variable {P : Program} {a : Act} {w : World} {R : Ending → World → Prop}
theorem run_loadVar1 {t b off : Nat} {c : Array Value} {te : Nat} {fz : Nat × Nat} {v : Value} (hr : rowed P t = some false) (hb : w.heap[b]? = some (.cells c te fz)) (hc : c[off]? = some v) : (loadVar t ⟨b, off, none⟩).run P w = .ok v w := by
  have hcell : w.cell? ⟨b, off, none⟩ = some v := by rw [cell_of_row w b off c te fz hb]; exact hc
  simp only [loadVar, load, Sem.run_bind, Result.andThen_ok, run_isAgg _ _ hr, Bool.false_eq_true, if_false, Sem.run, hcell]
theorem run_loadVarN {t b off n : Nat} {c : Array Value} {te : Nat} {fz : Nat × Nat} {vs : Array Value} (hr : rowed P t = some true) (hn : sizeT P t = some n) (hb : w.heap[b]? = some (.cells c te fz)) (hle : Nat.ble (off + n) c.size = true) (hv : c.extract off (off + n) = vs) :
    (loadVar t ⟨b, off, none⟩).run P w = .ok (.agg vs) w := by
  have hle' := Nat.le_of_ble_eq_true hle
  subst hv
  have hl : (loadCells ⟨b, off, none⟩ n).run P w = .ok (c.extract off (off + n)) w := by
    have := run_loadCells_list (P := P) (w := w) ⟨b, off, none⟩ (c.extract off (off + n)).toList (by
      intro j v hj
      have hj' : (c.extract off (off + n))[j]? = some v := by rw [← hj]; exact (Array.getElem?_toList).symm
      have hadd : (⟨b, off, none⟩ : Addr).add j = ⟨b, off + j, none⟩ := by unfold Addr.add; split <;> simp_all
      rw [hadd, cell_of_row w b (off + j) c te fz hb]
      rw [Array.getElem?_extract] at hj'
      split at hj'
      · exact hj'
      · cases hj')
    have hlen : (c.extract off (off + n)).toList.length = n := by simp; omega
    rw [hlen] at this
    rw [this]
  simp only [loadVar, Sem.run_bind, Sem.run_pure, Result.andThen_ok, run_isAgg _ _ hr, if_true, run_sizeOf hn, hl]

/-- What one result is read as. -/
def ResOne (P : Program) (a : Act) (w : World) : ResultVar → Value → Prop
  | .tmp t, v => a.tmps.getD t undef = v
  | .cell t ty, v => (do loadVar ty (← asAddr (a.tmps.getD t undef))).run P w = .ok v w
def ResL (P : Program) (a : Act) (w : World) : List ResultVar → List Value → Prop
  | [], [] => True
  | r :: rs, v :: vs => ResOne P a w r v ∧ ResL P a w rs vs
  | _, _ => False
theorem ResOne.tmp {t : Nat} {v : Value} (h : a.tmps.getD t undef = v) : ResOne P a w (.tmp t) v := h
theorem ResOne.cell1 {s t b off : Nat} {c : Array Value} {te : Nat} {fz : Nat × Nat} {v : Value} (hs : a.tmps.getD s undef = .pointer (some ⟨b, off, none⟩)) (hr : rowed P t = some false) (hb : w.heap[b]? = some (.cells c te fz)) (hc : c[off]? = some v) : ResOne P a w (.cell s t) v := by
  simp only [ResOne, hs, asAddr, Sem.run_bind, Sem.run_pure, Result.andThen_ok, run_loadVar1 hr hb hc]
theorem ResOne.cellN {s t b off n : Nat} {c : Array Value} {te : Nat} {fz : Nat × Nat} {vs : Array Value} (hs : a.tmps.getD s undef = .pointer (some ⟨b, off, none⟩)) (hr : rowed P t = some true) (hn : sizeT P t = some n) (hb : w.heap[b]? = some (.cells c te fz)) (hle : Nat.ble (off + n) c.size = true) (hv : c.extract off (off + n) = vs) : ResOne P a w (.cell s t) (.agg vs) := by
  simp only [ResOne, hs, asAddr, Sem.run_bind, Sem.run_pure, Result.andThen_ok, run_loadVarN hr hn hb hle hv]
def resOf (tmps : Array Value) : ResultVar → Sem Value
  | .tmp t => pure (tmps.getD t undef)
  | .cell s t => do loadVar t (← asAddr (tmps.getD s undef))
theorem run_results : ∀ (rs : List ResultVar) (vs : List Value), ResL P a w rs vs → (rs.mapM (resOf a.tmps)).run P w = .ok vs w
  | [], [], _ => by simp
  | r :: rs, v :: vs, h => by
    have ih := run_results rs vs h.2
    have h1 : (resOf a.tmps r).run P w = .ok v w := by
      cases r with
      | tmp t =>
        have h1 : a.tmps.getD t undef = v := h.1
        simp only [resOf, h1, Sem.run_pure]
      | cell s t => exact h.1
    simp only [List.mapM_cons, Sem.run_bind, Sem.run_pure, Result.andThen_ok, ih, h1]
  | [], _ :: _, h => h.elim
  | _ :: _, [], h => h.elim
def oneOf (vs : List Value) : Value := match vs with
  | [v] => v
  | _ => .tuple vs.toArray
theorem run_results' {fn : Func} {vs : List Value} (rs : List ResultVar) (hf : fn.results.toList = rs) (h : ResL P a w rs vs) : (results fn a.tmps).run P w = .ok (oneOf vs) w := by
  have hr := run_results rs vs h
  have e : (fn.results.mapM (resOf a.tmps)).run P w = .ok vs.toArray w := by
    rw [Array.mapM_eq_mapM_toList, hf]
    have e3 : (List.toArray <$> List.mapM (resOf a.tmps) rs) = (List.mapM (resOf a.tmps) rs >>= fun x => pure x.toArray) := rfl
    rw [e3]
    simp only [Sem.run_bind, hr, Result.andThen_ok, Sem.run_pure]
  have e2 : results fn a.tmps = (do let vs ← fn.results.mapM (resOf a.tmps); pure (if h : vs.size = 1 then vs[0] else .tuple vs)) := rfl
  rw [e2]
  simp only [Sem.run_bind]
  rw [e]
  simp only [Result.andThen_ok, Sem.run_pure, oneOf]
  match vs with
  | [] => rfl
  | [v] => rfl
  | _ :: _ :: _ => rfl
theorem fin_retL {fn : Func} (rs : List ResultVar) (vs : List Value) (v : Value) (hd : a.defers = []) (hf : fn.results.toList = rs) (h : ResL P a w rs vs) (hv : oneOf vs = v) (k : R (.returned v) w) : bodyPost P fn R .ret a w :=
  ⟨hd, v, hv ▸ run_results' rs hf h, k⟩
theorem fin_endL {fn : Func} (rs : List ResultVar) (vs : List Value) (v : Value) (hd : a.defers = []) (hf : fn.results.toList = rs) (h : ResL P a w rs vs) (hv : oneOf vs = v) (k : R (.returned v) w) : bodyPost P fn R .normal a w :=
  ⟨hd, v, hv ▸ run_results' rs hf h, k⟩
end
end Go.Alm
