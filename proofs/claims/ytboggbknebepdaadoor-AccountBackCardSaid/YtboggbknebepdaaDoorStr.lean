/- Strings: out of bytes, as bytes, and walked rune by rune as long as these are of one byte. -/
import Derived.Test.YtboggbknebepdaaDoorTagL
import Derived.Laws.BytesString
import Derived.Laws.IdiomStrings
namespace Go.Alm
open Go Go.RowKit
def toStr (l : List Nat) : ByteArray := ⟨(l.map UInt8.ofNat).toArray⟩
theorem sB_toStr {l : List Nat} (h : Byt l) : sB (toStr l) = l := by
  unfold sB toStr
  rw [List.map_map]
  have : l.map (UInt8.toNat ∘ UInt8.ofNat) = l.map id := List.map_congr_left fun x hx => by
    have := h x hx
    simp only [Function.comp, id, UInt8.toNat_ofNat']
    omega
  rw [this, List.map_id]
theorem toStr_sB (s : ByteArray) : toStr (sB s) = s := sB_inj (sB_toStr (sB_byt s))
theorem toStr_size (l : List Nat) : (toStr l).size = l.length := by show (List.map UInt8.ofNat l).toArray.size = l.length; simp
theorem foldl_push_nat : ∀ (l : List Nat) (r : ByteArray), (l.map (fun (b : Nat) => (b : Int))).foldl (fun r n => r.push (UInt8.ofNat n.toNat)) r = ⟨r.data ++ (l.map UInt8.ofNat).toArray⟩
  | [], r => by simp
  | b :: l, r => by
    simp only [List.map_cons, List.foldl_cons]
    rw [foldl_push_nat l]
    simp [ByteArray.push]
section
variable {P : Program} {Q : Exit → Act → World → Prop} {a : Act} {w : World} {o : Oper} {K : Act → World → Prop}
def convOf : Op → Option (Nat × Nat × Operand)
  | .convert s d x => some (s, d, x)
  | _ => none
theorem run_bytes_str (src dst e : Nat) (x : Operand) (ao : Option Addr) (n c : Nat) (l : List Nat) (ho : convOf o.op = some (src, dst, x)) (hs : P.underlying src = some (.slice e)) (he : P.underlying e = some (.int .u8)) (hd : P.underlying dst = some .string)
    (hx : a.eval x = .slice ao n c) (hR : Rd w ao (B l)) (hl : l.length = n) : (execOp a.eval o).run P w = .ok (.value (.string (toStr l))) w := by
  subst hl
  have hc : (convert src dst (.slice ao l.length c)).run P w = .ok (.string (toStr l)) w := by
    rw [run_convert_bytes_string w src dst e ao l.length c hs he hd]
    cases ao with
    | none =>
      have : l = [] := by
        cases l with
        | nil => rfl
        | cons b r => obtain ⟨_, h, _⟩ := hR 0 (.int .u8 (b : Int)) rfl; cases h
      subst this
      rfl
    | some ad =>
      have hcells : (loadCells ad l.length).run P w = .ok ((l.map (fun (b : Nat) => (b : Int))).map (Value.int .u8)).toArray w := by
        have h := run_loadCells_list (P := P) (w := w) ad (B l) (fun j v hj => by
          obtain ⟨ad', ha, hcell⟩ := hR j v hj
          cases ha
          exact hcell)
        rw [B_length] at h
        rw [h]
        simp [B]
      rw [run_bytesToString w ad l.length c _ hcells, foldl_push_nat]
      simp [toStr, ByteArray.empty, ByteArray.emptyWithCapacity]
      rfl
  unfold convOf at ho
  split at ho
  · rename_i s' d' x' hop
    simp only [Option.some.injEq, Prod.mk.injEq] at ho
    obtain ⟨rfl, rfl, rfl⟩ := ho
    unfold execOp
    simp only [hop, hx, Sem.run_bind, hc, Result.andThen_ok, Sem.run_pure]
  · cases ho
theorem op_str_bytes (src dst e : Nat) (x : Operand) (s : ByteArray) (ho : convOf o.op = some (src, dst, x)) (hs : P.underlying src = some .string) (hd : P.underlying dst = some (.slice e)) (he : P.underlying e = some (.int .u8)) (hx : a.eval x = .string s)
    (k : ∀ w' b n, Rd w' (some ⟨b, 0, none⟩) (B (sB s)) → b = w.heap.size → Fr w w' N0 → In w' (One b) → (sB s).length ≤ n → K (a.put o.dst (.slice (some ⟨b, 0, none⟩) (sB s).length n)) w') : OpW P o a w K Q := by
  rw [sB_length] at k
  unfold convOf at ho
  split at ho
  · rename_i s' d' x' hop
    simp only [Option.some.injEq, Prod.mk.injEq] at ho
    obtain ⟨rfl, rfl, rfl⟩ := ho
    have hr := run_bytes_of_string (P := P) w s' d' e s hs hd he
    obtain ⟨ob, hob⟩ : ∃ ob, ob = Obj.cells (bytesRow s (grownCap w s.size 0 e)) e ((bytesRow s (grownCap w s.size 0 e)).size, (bytesRow s (grownCap w s.size 0 e)).size + 1) := ⟨_, rfl⟩
    rw [← hob] at hr
    refine op_run _ (w.drew.alloc ob) (by unfold execOp; simp only [hop, hx, Sem.run_bind, hr, Result.andThen_ok, Sem.run_pure]) (k _ w.heap.size _ ?_ rfl (Fr.of_drew (Fr.alloc1 w.drew ob)) ?_ (grownCap_ge w s.size 0 e))
    · have hb := heap_alloc_new w.drew ob
      rw [hob] at hb
      rw [hob]
      refine Rd.of_cut hb 0 s.size ?_
      rw [List.drop_zero, bytesRow, Array.toList_append, List.take_left' (by rw [Array.length_toList, Array.size_map]; rfl)]
      rw [← sB_cells]
      simp [byteCells]
    · intro j hj
      rw [hj]
      show w.heap.size < (w.heap.push _).size
      simp
  · cases ho
/-! ### walking a string -/
def nextOf : Op → Option (Operand × Bool)
  | .next x b => some (x, b)
  | _ => none
theorem get!_sB {s : ByteArray} {k : Nat} (h : k < s.size) : (s.get! k).toNat = (sB s).getD k 0 := by
  have hk' : k < s.data.size := h
  have hk2 : k < s.data.toList.length := by simpa using hk'
  unfold sB
  rw [List.getD_eq_getElem?_getD, List.getElem?_map, List.getElem?_eq_getElem hk2]
  unfold ByteArray.get!
  simp [hk']
  rw [getElem!_pos s.data k hk']
theorem dec_low {s : ByteArray} {k : Nat} (h : k < s.size) (hb : (sB s).getD k 0 < 128) : Utf8.decode s k = ((sB s).getD k 0, 1) := by
  unfold Utf8.decode
  simp only [Nat.add_zero, get!_sB h]
  rw [if_pos (by omega)]
theorem dec_high {s : ByteArray} {k : Nat} (h : k < s.size) (hb : ¬ (sB s).getD k 0 < 128) : 128 ≤ (Utf8.decode s k).1 := by
  unfold Utf8.decode
  simp only [Nat.add_zero, get!_sB h]
  rw [if_neg (by omega)]
  unfold Utf8.runeError
  repeat' split
  all_goals first | omega | (simp_all; omega)
theorem op_next (x : Operand) (b pos : Nat) (s : ByteArray) (ho : nextOf o.op = some (x, true)) (hx : a.eval x = .pointer (some ⟨b, 0, none⟩)) (hb : w.heap[b]? = some (.stringIter s pos)) (hp : pos < s.size)
    (k : ∀ w', w'.heap[b]? = some (.stringIter s (pos + (Utf8.decode s pos).2)) → w'.heap.size = w.heap.size → Fr w w' (One b) → K (a.put o.dst (.tuple #[.bool true, .int .i64 (pos : Int), .int .i32 ((Utf8.decode s pos).1 : Int)])) w') : OpW P o a w K Q := by
  unfold nextOf at ho
  split at ho
  · rename_i x' b' hop
    simp only [Option.some.injEq, Prod.mk.injEq] at ho
    obtain ⟨rfl, rfl⟩ := ho
    have hlt := lt_of_get hb
    refine op_run _ { w with heap := w.heap.setIfInBounds b (.stringIter s (pos + (Utf8.decode s pos).2)) } ?_ (k _ (by simp [hlt]) (by simp) ⟨rfl, rfl, rfl, by simp, fun j _ hj => ?_⟩)
    · unfold execOp
      simp only [hop, hx, Instr.next, Sem.run_bind, getObj, Sem.run, hb, Result.andThen_ok, if_pos hp, setObj, hlt, if_true]
      rfl
    · have : b ≠ j := fun e => hj e.symm
      simp [this]
  · cases ho
theorem run_over (x : Operand) (b pos : Nat) (s : ByteArray) (ho : nextOf o.op = some (x, true)) (hx : a.eval x = .pointer (some ⟨b, 0, none⟩)) (hb : w.heap[b]? = some (.stringIter s pos)) (hp : ¬ pos < s.size) : (execOp a.eval o).run P w = .ok (.value (.tuple #[.bool false])) w := by
  unfold nextOf at ho
  split at ho
  · rename_i x' b' hop
    simp only [Option.some.injEq, Prod.mk.injEq] at ho
    obtain ⟨rfl, rfl⟩ := ho
    unfold execOp
    simp only [hop, hx, Instr.next, Sem.run_bind, getObj, Sem.run, hb, Result.andThen_ok, if_neg hp, Sem.run_pure]
  · cases ho
end
end Go.Alm
