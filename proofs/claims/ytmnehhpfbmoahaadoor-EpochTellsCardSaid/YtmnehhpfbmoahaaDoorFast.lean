/- What is reckoned of great aggregates, by lists: the kernel's own reckoning of arrays is quadratic. -/
import Derived.Test.YtmnehhpfbmoahaaDoorCut
namespace Go.Alm
open Go Go.RowKit
/-- `n` cells from a place on. -/
def ext (c : Array Value) (off n : Nat) : Array Value := ((c.toList.drop off).take n).toArray
theorem ext_eq (c : Array Value) (off n : Nat) : c.extract off (off + n) = ext c off n := by
  apply Array.toList_inj.1
  simp [ext, Array.toList_extract, List.extract_eq_take_drop]
def partF (P : Program) (t : Nat) (cs : Array Value) (off : Nat) : Option Value := match rowed P t with
  | some true => (sizeT P t).map fun n => .agg (ext cs off n)
  | some false => cs.toList[off]?
  | none => none
theorem partF_run {P : Program} {t off : Nat} {cs : Array Value} {v : Value} (h : partF P t cs off = some v) (w : World) : (part t cs off).run P w = .ok v w := by
  unfold partF at h
  unfold part
  cases hr : rowed P t with
  | none => rw [hr] at h; cases h
  | some b =>
    rw [hr] at h
    cases b with
    | true =>
      obtain ⟨n, hn, rfl⟩ := Option.map_eq_some_iff.1 h
      simp [Sem.run_bind, run_isAgg _ _ hr, run_sizeOf hn, ext_eq]
    | false =>
      simp only [Array.getElem?_toList] at h
      simp [Sem.run_bind, run_isAgg _ _ hr, h]
theorem set_fold (off : Nat) : ∀ (vs : List Value) (k : Nat) (cs : Array Value), off + k + vs.length ≤ cs.size →
    (vs.zipIdx k).foldl (fun cs (c, j) => cs.setIfInBounds (off + j) c) cs = (cs.toList.take (off + k) ++ vs ++ cs.toList.drop (off + k + vs.length)).toArray
  | [], k, cs, h => by simp
  | v :: vs, k, cs, h => by
    rw [List.zipIdx_cons, List.foldl_cons, set_fold off vs (k + 1) _ (by simp at h ⊢; omega)]
    apply Array.toList_inj.1
    simp only [List.length_cons] at h
    have hlt : off + k < cs.toList.length := by simp; omega
    have e1 : (cs.setIfInBounds (off + k) v).toList.take (off + (k + 1)) = cs.toList.take (off + k) ++ [v] := by
      rw [Array.toList_setIfInBounds, ← Nat.add_assoc, List.take_succ_eq_append_getElem (by rw [List.length_set]; exact hlt)]
      rw [List.take_set_of_le (Nat.le_refl _)]
      simp
    have e2 : (cs.setIfInBounds (off + k) v).toList.drop (off + (k + 1) + vs.length) = cs.toList.drop (off + k + (vs.length + 1)) := by
      rw [Array.toList_setIfInBounds, List.drop_set_of_lt (by omega)]
      congr 1; omega
    simp only [e1, e2, List.length_cons, List.append_assoc, List.cons_append, List.nil_append]
def fillF (place : Nat → Option (Nat × Nat)) : List (Nat × Value) → Array Value → Option (Array Value)
  | [], cs => some cs
  | (i, v) :: rest, cs => match place i with
    | none => none
    | some (off, size) => bif Nat.beq v.cells.size size && Nat.ble (off + size) cs.size then fillF place rest (spl cs off v.cells) else none
theorem fillF_eq {place : Nat → Option (Nat × Nat)} : ∀ {l : List (Nat × Value)} {cs c : Array Value}, fillF place l cs = some c → Instr.fill place cs l = some c
  | [], cs, c, h => h
  | (i, v) :: l, cs, c, h => by
    unfold fillF at h
    unfold Instr.fill
    cases hp : place i with
    | none => rw [hp] at h; cases h
    | some x =>
      obtain ⟨off, size⟩ := x
      rw [hp] at h
      simp only at h ⊢
      cases hb : Nat.beq v.cells.size size && Nat.ble (off + size) cs.size with
      | false => rw [hb] at h; cases h
      | true =>
        rw [hb, cond_true] at h
        rw [Bool.and_eq_true] at hb
        have h1 := Nat.eq_of_beq_eq_true hb.1
        have h2 := Nat.le_of_ble_eq_true hb.2
        subst h1
        rw [if_neg (by simp; omega)]
        have := set_fold off v.cells.toList 0 cs (by simpa using h2)
        have e : v.cells.zipIdx.foldl (fun cs (c, j) => cs.setIfInBounds (off + j) c) cs = spl cs off v.cells := by
          rw [← Array.foldl_toList, Array.toList_zipIdx, this]
          simp [spl]
        rw [e]
        exact fillF_eq h
/-- A struct's places. -/
def placesF (P : Program) : List Field → Option (List (Nat × Nat))
  | [] => some []
  | f :: r => match sizeT P f.type, placesF P r with
    | some n, some l => some ((f.offset, n) :: l)
    | _, _ => none
theorem placesF_run {P : Program} (w : World) : ∀ {fs : List Field} {l : List (Nat × Nat)}, placesF P fs = some l → (fs.mapM fun (f : Field) => do pure (f.offset, ← sizeOf f.type)).run P w = .ok l w
  | [], l, h => by cases h; simp
  | f :: r, l, h => by
    unfold placesF at h
    split at h
    · rename_i n l' hn hl
      cases h
      have ih := placesF_run w hl
      rw [List.mapM_cons]
      simp only [Sem.run_bind, run_sizeOf hn, Result.andThen_ok, Sem.run_pure, ih]
    · cases h
def zeroT (P : Program) (t : Nat) : Option Value := (P.info? t).bind (·.zero)
theorem zeroT_run {P : Program} {t : Nat} {z : Value} (h : zeroT P t = some z) (w : World) : (zeroValue t).run P w = .ok z w := by
  unfold zeroT at h
  obtain ⟨i, hi, hz⟩ := Option.bind_eq_some_iff.1 h
  simp [zeroValue, typeInfo, hi, hz]
def buildF (P : Program) (t : Nat) (parts : List (Nat × Value)) : Option Value := match zeroT P t, P.underlying t with
  | some z, some (.struct fs) => match placesF P fs.toList with
    | some l => (fillF (l[·]?) parts z.cells).map .agg
    | none => none
  | some z, some (.array _ e) => match sizeT P e with
    | some n => (fillF (fun i => some (i * n, n)) parts z.cells).map .agg
    | none => none
  | _, _ => none
theorem buildF_run {P : Program} {t : Nat} {parts : Array (Nat × Value)} {v : Value} (h : buildF P t parts.toList = some v) (w : World) : (Instr.build t parts).run P w = .ok v w := by
  unfold buildF at h
  split at h
  · rename_i z fs hz hu
    split at h
    · rename_i l hl
      obtain ⟨c, hc, rfl⟩ := Option.map_eq_some_iff.1 h
      have hp := placesF_run w hl
      have hm : (fs.mapM fun (f : Field) => do pure (f.offset, ← sizeOf f.type)).run P w = .ok l.toArray w := by
        rw [Array.mapM_eq_mapM_toList]
        have e3 : (List.toArray <$> fs.toList.mapM fun (f : Field) => (do pure (f.offset, ← sizeOf f.type) : Sem (Nat × Nat))) = ((fs.toList.mapM fun (f : Field) => do pure (f.offset, ← sizeOf f.type)) >>= fun x => pure x.toArray) := rfl
        rw [e3, Sem.run_bind, hp]
        simp only [Result.andThen_ok, Sem.run_pure]
      have hf : Instr.fill (l.toArray[·]?) z.cells parts.toList = some c := by
        have e : (fun x : Nat => l.toArray[x]?) = (fun x : Nat => l[x]?) := by funext x; simp
        rw [e]
        exact fillF_eq hc
      unfold Instr.build
      simp only [Sem.run_bind, zeroT_run hz, Result.andThen_ok, run_underlying hu, hm, hf, Sem.run_pure]
    · cases h
  · rename_i z m e hz hu
    split at h
    · rename_i n hn
      obtain ⟨c, hc, rfl⟩ := Option.map_eq_some_iff.1 h
      unfold Instr.build
      simp only [Sem.run_bind, zeroT_run hz, Result.andThen_ok, run_underlying hu, run_sizeOf hn, fillF_eq hc, Sem.run_pure]
    · cases h
  · cases h
/-- A value, reckoned the short way. -/
def fastVal (P : Program) (a : Act) (o : Oper) : Option Value := match o.op with
  | .build t parts => buildF P t (parts.toList.map fun x => (x.1, a.eval x.2))
  | .field t x f => match P.underlying t, a.eval x with
    | some (.struct fs), .agg cs => match fs[f]? with
      | some fd => partF P fd.type cs fd.offset
      | none => none
    | _, _ => none
  | .index t x i => match P.underlying t, a.eval x, a.eval i with
    | some (.array n e), .agg cs, .int _ (.ofNat k) => bif Nat.blt k n then match sizeT P e with
        | some m => partF P e cs (k * m)
        | none => none
      else none
    | _, _, _ => match pureVal P (execOp a.eval o) with
      | some (.value v) => some v
      | _ => none
  | _ => match pureVal P (execOp a.eval o) with
    | some (.value v) => some v
    | _ => none
theorem pv_run {P : Program} {a : Act} {o : Oper} {v : Value} (h : (match pureVal P (execOp a.eval o) with | some (.value v) => some v | _ => none) = some v) (w : World) : (execOp a.eval o).run P w = .ok (.value v) w := by
  split at h
  · rename_i u hp; cases h; exact pureVal_run hp w
  · cases h
theorem fastVal_run {P : Program} {a : Act} {o : Oper} {v : Value} (h : fastVal P a o = some v) (w : World) : (execOp a.eval o).run P w = .ok (.value v) w := by
  unfold fastVal at h
  split at h
  · rename_i t parts ho
    unfold execOp
    simp only [ho, Sem.run_bind]
    rw [buildF_run (parts := parts.map fun (i, x) => (i, a.eval x)) (by simpa using h) w]
    simp
  · rename_i t x f ho
    split at h
    · rename_i fs cs hu hx
      split at h
      · rename_i fd hf
        unfold execOp
        simp [ho, Instr.field, Sem.run_bind, run_underlying hu, hf, hx, asAgg, partF_run h w]
      · cases h
    · cases h
  · rename_i t x i ho
    split at h
    · rename_i n e cs q k hu hx hi
      cases hb : Nat.blt k n with
      | false => rw [hb, cond_false] at h; cases h
      | true =>
        rw [hb, cond_true] at h
        have hlt : k < n := by simpa using hb
        split at h
        · rename_i m hm
          have h0 : (0 : Int) ≤ Int.ofNat k ∧ Int.ofNat k < (n : Int) := by
            have h1 : ((k : Nat) : Int) < (n : Int) := by omega
            exact ⟨Int.natCast_nonneg k, h1⟩
          unfold execOp
          simp only [ho, hx, hi, Instr.index, asIntOf, Sem.run_bind, Sem.run_pure, Result.andThen_ok, run_underlying hu, if_pos h0, run_sizeOf hm]
          have : (Int.ofNat k).toNat = k := rfl
          rw [this, partF_run h w]
          simp
        · cases h
    · exact pv_run h w
  · exact pv_run h w
end Go.Alm
