/- Plain lemmas and laws of the machine that the walks use; without conditions of their own. -/
import Derived.Test.YtokdfjelilhekaaDoorLib2
import Derived.DeepKeys4
import Derived.Laws.IdiomMaps
import Derived.Laws.StructEq
import Derived.Laws.BytesString
import Derived.Laws.IdiomStrings
/- Layer 3, plainly: the image of a name and parts, and its digest; strings. -/
namespace Go.Alm
open Go Go.RowKit

/-- A string's bytes. -/
def sB (s : ByteArray) : List Nat := s.data.toList.map UInt8.toNat
theorem sB_length (s : ByteArray) : (sB s).length = s.size := by unfold sB; rw [List.length_map]; rfl
theorem sB_byt (s : ByteArray) : Byt (sB s) := fun x hx => by
  obtain ⟨u, _, rfl⟩ := List.mem_map.1 hx
  exact u.toNat_lt
theorem sB_cells (s : ByteArray) : byteCells s = B (sB s) := by
  simp [byteCells, sB, B]
/-- A part as it is written. -/
def partL (b : List Nat) : List Nat := putB b.length 4 4 ++ b
def partsL (ls : List BSl) : List Nat := ls.flatMap fun x => partL x.b
def headL (nm : List Nat) (n : Nat) : List Nat := nm.length :: nm ++ [n]
/-- The image; why there is none. -/
def imgBad (a n : Nat) : Prop := 255 < a ∨ 255 < n
instance (a n : Nat) : Decidable (imgBad a n) := by unfold imgBad; exact inferInstance
def imgE (a n : Nat) : Nat := if imgBad a n then 4 else 0
def imgL (nm : List Nat) (ls : List BSl) : List Nat := if imgBad nm.length ls.length then [] else headL nm ls.length ++ partsL ls
def tagL (nm : List Nat) (ls : List BSl) : List Nat := if imgBad nm.length ls.length then List.replicate 32 0 else shaL (imgL nm ls)
theorem tagL_length (nm : List Nat) (ls : List BSl) : (tagL nm ls).length = 32 := by
  unfold tagL; split
  · simp
  · exact shaL_length _
theorem tagL_byt (nm : List Nat) (ls : List BSl) : Byt (tagL nm ls) := by
  unfold tagL; split
  · intro x hx; have := List.eq_of_mem_replicate hx; omega
  · exact shaL_byt _
theorem imgL_ok {nm : List Nat} {ls : List BSl} (h : ¬ imgBad nm.length ls.length) : imgL nm ls = headL nm ls.length ++ partsL ls := if_neg h
theorem partL_length (b : List Nat) : (partL b).length = b.length + 4 := by simp [partL, putB_length]; omega
theorem partsL_snoc {ls : List BSl} {k : Nat} {x : BSl} (hx : ls[k]? = some x) : partsL (ls.take (k + 1)) = partsL (ls.take k) ++ partL x.b := by
  unfold partsL
  rw [List.take_add_one, hx]
  simp
theorem partsL_le (ls : List BSl) (k : Nat) : (partsL (ls.take k)).length ≤ (partsL ls).length := by
  have h : partsL ls = partsL (ls.take k) ++ partsL (ls.drop k) := by
    unfold partsL
    rw [← List.flatMap_append, List.take_append_drop]
  rw [h, List.length_append]
  omega
theorem headL_length (nm : List Nat) (n : Nat) : (headL nm n).length = nm.length + 2 := by simp [headL]
theorem imgL_le (nm : List Nat) (ls : List BSl) : (imgL nm ls).length ≤ 257 + (partsL ls).length := by
  unfold imgL
  by_cases h : imgBad nm.length ls.length
  · rw [if_pos h]; simp
  · rw [if_neg h, List.length_append, headL_length]; unfold imgBad at h; omega
theorem partsL_byt {ls : List BSl} (h : ∀ x ∈ ls, x.Ok) : Byt (partsL ls) := fun b hb => by
  obtain ⟨x, hx, hb⟩ := List.mem_flatMap.1 hb
  rcases List.mem_append.1 hb with h1 | h1
  · unfold putB at h1
    obtain ⟨i, _, rfl⟩ := List.mem_map.1 h1
    exact Nat.mod_lt _ (by decide)
  · exact (h x hx).b b h1
theorem imgL_byt {s : ByteArray} {ls : List BSl} (h : ∀ x ∈ ls, x.Ok) : Byt (imgL (sB s) ls) := by
  unfold imgL
  split
  · exact Byt.nil
  · rename_i hb
    unfold imgBad at hb
    refine Byt.cat ?_ (partsL_byt h)
    intro b hb'
    unfold headL at hb'
    rcases List.mem_append.1 hb' with h1 | h1
    · rcases List.mem_cons.1 h1 with h2 | h2
      · omega
      · exact sB_byt s b h2
    · rcases List.mem_cons.1 h1 with h2 | h2
      · omega
      · cases h2
theorem put_step4 {n k : Nat} (hk : k < 4) : IntKind.u8.wrap (Int.fdiv (n : Int) (2 ^ (min ((8 : Int) * ((3 - k : Nat) : Int)).toNat 64))) = ((n / 2 ^ (8 * (4 - 1 - k)) % 256 : Nat) : Int) := by
  have e1 : ((8 : Int) * ((3 - k : Nat) : Int)).toNat = 8 * (4 - 1 - k) := by omega
  have e2 : min (8 * (4 - 1 - k)) 64 = 8 * (4 - 1 - k) := by omega
  rw [e1, e2, wrap_u8]
  generalize 8 * (4 - 1 - k) = e
  have hp : ((2 : Int) ^ e) = ((2 ^ e : Nat) : Int) := by simp
  rw [hp, Int.fdiv_eq_ediv_of_nonneg _ (Int.natCast_nonneg _)]
  rfl
theorem four_L (n : Nat) : [n / 16777216 % 256, n / 65536 % 256, n / 256 % 256, n % 256] = putB n 4 4 := by
  simp [putB, List.range_succ]
section
variable {P : Program} {a : Act} {w : World} {o : Oper}
theorem run_index_str (t : Nat) (x i : Operand) (s : ByteArray) (kd : IntKind) (k : Nat) (ho : indexOf o.op = some (t, x, i)) (ht : P.underlying t = some .string) (hx : a.eval x = .string s) (hi : a.eval i = .int kd k) (hk : k < s.size) :
    (execOp a.eval o).run P w = .ok (.value (.int .u8 (((sB s).getD k 0 : Nat) : Int))) w := by
  unfold indexOf at ho
  split at ho
  · rename_i t' x' i' hop
    simp only [Option.some.injEq, Prod.mk.injEq] at ho
    obtain ⟨rfl, rfl, rfl⟩ := ho
    have hg : s[((k : Nat) : Int).toNat]? = some s[k] := by
      rw [Int.toNat_natCast]
      exact getElem?_pos s k hk
    have h0 : (0 : Int) ≤ (k : Int) := Int.natCast_nonneg k
    have hv : (s[k]).toNat = (sB s).getD k 0 := by
      have hk' : k < s.data.size := hk
      have hk2 : k < s.data.toList.length := by simpa using hk'
      unfold sB
      rw [List.getD_eq_getElem?_getD, List.getElem?_map, List.getElem?_eq_getElem hk2]
      rfl
    unfold execOp
    simp only [hop, hx, hi, Instr.index, asIntOf, Sem.run_bind, Sem.run_pure, Result.andThen_ok, run_underlying ht, if_pos h0, hg, hv]
  · cases ho
end
/-! ### rows of rows that are made here -/
theorem RowsAt.none (w : World) : RowsAt N0 w Option.none [] := ⟨Rd.nil _ _, fun _ h => (by cases h), Sub.nil, fun _ h => (by cases h), fun _ h => (by cases h), In.n0⟩
theorem RowsAt.one {w : World} {b t : Nat} {c : Array Value} {fz : Nat × Nat} {ao : Option Addr} {cap : Nat} {l : List Nat} {S : Nat → Prop} (hb : w.heap[b]? = some (.cells c t fz)) (hc : c = #[.slice ao l.length cap]) (hR : Rd w ao (B l)) (hS : Sub (Ar ao (B l)) S) (hi : In w S) (hB : Byt l) (hlc : l.length ≤ cap) (hcm : cap ≤ maxLen) :
    RowsAt (Or2 (One b) S) w (some ⟨b, 0, Option.none⟩) [⟨ao, cap, l⟩] := by
  subst hc
  refine ⟨?_, ?_, ?_, ?_, ?_, ?_⟩
  · have := Rd.of_blkN hb 0
    exact this
  · intro x hx; rw [List.mem_singleton.1 hx]; exact hR
  · rintro k ⟨_, ad, h, rfl⟩
    cases h
    exact .inl rfl
  · intro x hx; rw [List.mem_singleton.1 hx]; exact fun k hk => .inr (hS k hk)
  · intro x hx; rw [List.mem_singleton.1 hx]; exact ⟨hB, hlc, hcm⟩
  · intro k hk
    rcases hk with hk | hk
    · rw [hk]; exact lt_of_get hb
    · exact hi k hk
end Go.Alm

namespace Go.Alm
open Go Go.RowKit
theorem img_start (s : ByteArray) (ls : List BSl) (n : Nat) : #[Value.int .u8 (s.size : Int)].toList ++ byteCells s ++ #[Value.int .u8 (n : Int)].toList = B (headL (sB s) n ++ partsL (ls.take 0)) := by
  rw [sB_cells]
  unfold headL partsL
  rw [sB_length]
  simp [B]
theorem imgE_ne {a n : Nat} (h : ((imgE a n : Nat) : Int) ≠ 0) : imgBad a n := by
  unfold imgE at h
  split at h
  · assumption
  · exact absurd rfl h
theorem imgE_eq {a n : Nat} (h : ((imgE a n : Nat) : Int) = 0) : ¬ imgBad a n := by
  unfold imgE at h
  split at h
  · simp at h
  · assumption
end Go.Alm

/- Values of arrays and structs, of whatever depth, compared. -/
namespace Go.Alm
open Go Go.RowKit

/-- Two arrays, one behind the other (by lists: the kernel reckons these fast). -/
def aj (a b : Array Value) : Array Value := ⟨a.toList ++ b.toList⟩
theorem aj_eq (a b : Array Value) : aj a b = a ++ b := by
  apply Array.ext'
  rw [Array.toList_append]; rfl
theorem aj_size (a b : Array Value) : (aj a b).size = a.size + b.size := by rw [aj_eq]; exact Array.size_append
theorem aj_toL (a b : Array Value) : (aj a b).toList = a.toList ++ b.toList := rfl
/-- What a cell is of: a bool, a string, a number of a kind. -/
def kindV : Value → Option (Option (Option IntKind))
  | .bool _ => some none
  | .string _ => some (some none)
  | .int q _ => some (some (some q))
  | _ => none
def litV : Value → Lit
  | .bool b => .bool b
  | .string s => .string s.data.toList
  | .int q n => .int q n
  | _ => .bool false
def wfV : Value → Prop
  | .bool _ => True
  | .string s => s.size ≤ maxLen
  | .int q n => (Lit.int q n).wf = true
  | _ => False
def leavesF (g : TypeId → Option (List (Option (Option IntKind)))) (P : Program) : List Field → Nat → Option (List (Option (Option IntKind)))
  | [], _ => some []
  | f :: r, off => match g f.type with
    | some L => if f.offset = off ∧ P.cellsOf f.type = L.length then (leavesF g P r (off + L.length)).map (L ++ ·) else none
    | none => none
/-- A type's cells, as far as they are told. -/
def leaves (P : Program) : Nat → TypeId → Option (List (Option (Option IntKind)))
  | 0, _ => none
  | d + 1, t => match P.underlying t with
    | some .bool => some [none]
    | some .string => some [some none]
    | some (.int q) => some [some (some q)]
    | some (.array n e) => match leaves P d e with
      | some L => if P.cellsOf e = L.length ∧ P.cellsOf t = n * L.length then some (List.replicate n L).flatten else none
      | none => none
    | some (.struct fs) => match leavesF (leaves P d) P fs.toList 0 with
      | some L => if fs.all (·.name != "_") = true ∧ P.cellsOf t = L.length then some L else none
      | none => none
    | _ => none

theorem chunks (k : Nat) : ∀ (n : Nat) (cs : List Value), cs.length = n * k → ((List.range n).map fun i => ((cs.drop (i * k)).take k).map litV).flatten = cs.map litV
  | 0, cs, h => by
    have : cs = [] := List.eq_nil_of_length_eq_zero (by omega)
    subst this; rfl
  | n + 1, cs, h => by
    rw [List.range_succ_eq_map, List.map_cons, List.map_map, List.flatten_cons, Nat.zero_mul, List.drop_zero]
    have hl : (cs.drop k).length = n * k := by rw [List.length_drop, h, Nat.add_mul]; omega
    have ih := chunks k n (cs.drop k) hl
    have e : (List.range n).map ((fun i => ((cs.drop (i * k)).take k).map litV) ∘ Nat.succ) = (List.range n).map fun i => (((cs.drop k).drop (i * k)).take k).map litV := by
      apply List.map_congr_left
      intro i _
      simp only [Function.comp, List.drop_drop]
      congr 3
      rw [Nat.succ_mul]; omega
    rw [e, ih, ← List.map_append, List.take_append_drop]
theorem rep_chunk {α : Type} (L : List α) : ∀ (n i : Nat), i < n → (((List.replicate n L).flatten.drop (i * L.length)).take L.length) = L
  | 0, i, h => by omega
  | n + 1, 0, _ => by rw [List.replicate_succ, List.flatten_cons, Nat.zero_mul, List.drop_zero, List.take_left' rfl]
  | n + 1, i + 1, h => by
    rw [List.replicate_succ, List.flatten_cons, Nat.succ_mul, Nat.add_comm, ← List.drop_drop, List.drop_left' rfl]
    exact rep_chunk L n i (by omega)
theorem leavesF_spec {P : Program} {d : Nat} (IH : ∀ t L, leaves P d t = some L → ∀ cs : List Value, cs.map kindV = L.map some → (∀ v ∈ cs, wfV v) → P.keyLits d t cs = some (cs.map litV)) :
    ∀ (fs : List Field) (off : Nat) (L : List (Option (Option IntKind))) (cs : List Value), leavesF (leaves P d) P fs off = some L → (cs.drop off).map kindV = L.map some → (∀ v ∈ cs, wfV v) →
      ∃ LL, (fs.mapM fun f => P.keyLits d f.type ((cs.drop f.offset).take (P.cellsOf f.type))) = some LL ∧ LL.flatten = (cs.drop off).map litV
  | [], off, L, cs, h, hk, _ => by
    simp only [leavesF, Option.some.injEq] at h
    subst h
    have : cs.drop off = [] := by simpa using hk
    exact ⟨[], rfl, by rw [this]; rfl⟩
  | f :: r, off, L, cs, h, hk, hw => by
    unfold leavesF at h
    split at h
    · rename_i L1 h1
      split at h
      · rename_i hc
        obtain ⟨L2, h2, rfl⟩ := Option.map_eq_some_iff.1 h
        rw [List.map_append] at hk
        have hlen : (cs.drop off).length = L1.length + L2.length := by have := congrArg List.length hk; simpa using this
        have hk1 : ((cs.drop off).take L1.length).map kindV = L1.map some := by
          rw [List.map_take, hk, List.take_left' (by simp)]
        have hk2 : (cs.drop (off + L1.length)).map kindV = L2.map some := by
          rw [← List.drop_drop, List.map_drop, hk, List.drop_left' (by simp)]
        obtain ⟨LL, hm, hf⟩ := leavesF_spec IH r (off + L1.length) L2 cs h2 hk2 hw
        have hg := IH f.type L1 h1 ((cs.drop off).take L1.length) hk1 (fun v hv => hw v (List.mem_of_mem_drop (List.mem_of_mem_take hv)))
        refine ⟨((cs.drop off).take L1.length).map litV :: LL, ?_, ?_⟩
        · rw [List.mapM_cons, hc.1, hc.2, hg, hm]; rfl
        · rw [List.flatten_cons, hf, ← List.map_append, ← List.drop_drop, List.take_append_drop]
      · cases h
    · cases h
theorem keyLits_leaves {P : Program} : ∀ (d : Nat) (t : TypeId) (L : List (Option (Option IntKind))), leaves P d t = some L → ∀ cs : List Value, cs.map kindV = L.map some → (∀ v ∈ cs, wfV v) → P.keyLits d t cs = some (cs.map litV)
  | 0, _, _, h, _, _, _ => by simp [leaves] at h
  | d + 1, t, L, h, cs, hk, hw => by
    have one : ∀ k, L = [k] → ∃ v, cs = [v] ∧ kindV v = some k := fun k e => by
      subst e
      match cs, hk with
      | [v], hk => exact ⟨v, rfl, by simpa using hk⟩
      | [], hk => simp at hk
      | _ :: _ :: _, hk => simp at hk
    unfold leaves at h
    split at h
    · rename_i ht
      obtain ⟨v, rfl, hv⟩ := one _ (Option.some.inj h).symm
      cases v <;> simp [kindV] at hv
      simp [Program.keyLits, ht, litV]
    · rename_i ht
      obtain ⟨v, rfl, hv⟩ := one _ (Option.some.inj h).symm
      cases v <;> simp [kindV] at hv
      have := hw _ (List.mem_singleton.2 rfl)
      simp only [wfV] at this
      simp [Program.keyLits, ht, litV, this]
    · rename_i q ht
      obtain ⟨v, rfl, hv⟩ := one _ (Option.some.inj h).symm
      cases v <;> simp [kindV] at hv
      subst hv
      have := hw _ (List.mem_singleton.2 rfl)
      simp only [wfV] at this
      simp [Program.keyLits, ht, litV, this]
    · rename_i n e ht
      split at h
      · rename_i L1 h1
        split at h
        · rename_i hc
          simp only [Option.some.injEq] at h
          subst h
          have hlen : cs.length = n * L1.length := by
            have := congrArg List.length hk
            simpa using this
          have hm : ((List.range n).mapM fun i => P.keyLits d e ((cs.drop (i * P.cellsOf e)).take (P.cellsOf e))) = some ((List.range n).map fun i => ((cs.drop (i * L1.length)).take L1.length).map litV) := by
            refine mapM_some_of_forall _ fun i hi => ?_
            have hi' := List.mem_range.1 hi
            rw [hc.1]
            refine keyLits_leaves d e L1 h1 _ ?_ (fun v hv => hw v (List.mem_of_mem_drop (List.mem_of_mem_take hv)))
            rw [List.map_take, List.map_drop, hk, ← List.map_drop, ← List.map_take, rep_chunk L1 n i hi']
          unfold Program.keyLits
          simp only [ht, hlen, hc.2, if_true]
          rw [hm, Option.map_some, chunks L1.length n cs hlen]
        · cases h
      · cases h
    · rename_i fs ht
      split at h
      · rename_i L1 h1
        split at h
        · rename_i hc
          simp only [Option.some.injEq] at h
          subst h
          have hlen : cs.length = L1.length := by have := congrArg List.length hk; simpa using this
          obtain ⟨LL, hm, hf⟩ := leavesF_spec (fun t L => keyLits_leaves d t L) fs.toList 0 L1 cs h1 (by rw [List.drop_zero]; exact hk) hw
          unfold Program.keyLits
          simp only [ht, hlen, hc.2, hc.1, and_self, if_true]
          rw [hm, Option.map_some, hf, List.drop_zero]
        · cases h
      · cases h
    · cases h
theorem litV_inj : ∀ {l m : List Value}, l.map kindV = m.map kindV → (∀ v ∈ l, wfV v) → l.map litV = m.map litV → l = m
  | [], [], _, _, _ => rfl
  | [], _ :: _, h, _, _ => by simp at h
  | _ :: _, [], h, _, _ => by simp at h
  | x :: l, y :: m, hk, hw, h => by
    simp only [List.map_cons, List.cons.injEq] at hk h
    rw [litV_inj hk.2 (fun v hv => hw v (by simp [hv])) h.2]
    have hx := hw x (by simp)
    have : x = y := by
      cases x <;> cases y <;> simp_all [kindV, litV, wfV]
      rename_i s s'
      cases s; cases s'
      simp_all
    rw [this]
def isAggT (P : Program) (t : TypeId) : Bool := match P.underlying t with | some (.struct _) | some (.array _ _) => true | _ => false
def WfA (cs : Array Value) : Prop := ∀ v ∈ cs.toList, wfV v
def WfL : List Value → Prop
  | [] => True
  | v :: r => wfV v ∧ WfL r
theorem WfL.all : ∀ {l : List Value}, WfL l → ∀ v ∈ l, wfV v
  | [], _, v, h => by cases h
  | x :: l, h, v, hv => by
    rcases List.mem_cons.1 hv with rfl | hv
    · exact h.1
    · exact WfL.all h.2 v hv
theorem WfA.lit {l : List Value} (h : WfL l) : WfA l.toArray := fun v hv => h.all v (by simpa using hv)
theorem WfA.appP {a b : Array Value} (ha : WfA a) (hb : WfA b) : WfA (a ++ b) := fun v hv => by
  rw [Array.toList_append] at hv
  rcases List.mem_append.1 hv with h | h
  · exact ha v h
  · exact hb v h
theorem WfA.app {a b : Array Value} (ha : WfA a) (hb : WfA b) : WfA (aj a b) := by rw [aj_eq]; exact ha.appP hb
theorem WfA.hv {l : List Nat} (hl : l.length = 32) (hb : Byt l) : WfA (hv l) := fun v h => by
  rw [hv_B hl] at h
  obtain ⟨x, hx, rfl⟩ := List.mem_map.1 h
  exact wf_u8 (hb x hx)
theorem wf_n8 {n : Nat} (h : n < 256) : wfV (.int .u8 (n : Int)) := wf_u8 h
theorem wf_n32 {n : Nat} (h : n < 4294967296) : wfV (.int .u32 (n : Int)) := by
  simp only [wfV, Lit.wf, Bool.and_eq_true, decide_eq_true_eq]
  have c1 : IntKind.u32.min = 0 := by decide
  have c2 : IntKind.u32.max = 4294967295 := by decide
  omega
theorem wf_n64 {n : Nat} (h : n < 18446744073709551616) : wfV (.int .u64 (n : Int)) := by
  simp only [wfV, Lit.wf, Bool.and_eq_true, decide_eq_true_eq]
  have c1 : IntKind.u64.min = 0 := by decide
  have c2 : IntKind.u64.max = 18446744073709551615 := by decide
  omega
theorem wf_i64 {n : Int} (h1 : -9223372036854775808 ≤ n) (h2 : n ≤ 9223372036854775807) : wfV (.int .i64 n) := by
  simp only [wfV, Lit.wf, Bool.and_eq_true, decide_eq_true_eq]
  have c1 : IntKind.i64.min = -9223372036854775808 := by decide
  have c2 : IntKind.i64.max = 9223372036854775807 := by decide
  omega

section
variable {P : Program} {a : Act} {w : World} {o : Oper}
theorem run_eqd (b : Bool) (e d t : Nat) (x y : Operand) (cs ds : Array Value) (hed : e + d = 10000) (ho : eqlOf o.op = some (b, t, x, y)) (hk : P.keyTypeAt d t = true) (hg : P.eqGuardType P.depth t = false) (hs : isAggT P t = true)
    (hx : a.eval x = .agg cs) (hy : a.eval y = .agg ds) (hn : cs.size = P.cellsOf t) (hm : ds.size = P.cellsOf t) (k1 : (leaves P d t).map (·.map some) = some (cs.toList.map kindV)) (k2 : (leaves P d t).map (·.map some) = some (ds.toList.map kindV)) (w1 : WfA cs) (w2 : WfA ds) :
    ∃ r : Bool, (execOp a.eval o).run P w = .ok (.value (.bool (cond b r (!r)))) w ∧ (r = true ↔ cs = ds) := by
  have form : ∀ c : Array Value, c.size = P.cellsOf t → Value.formed P t (.agg c) = true := fun c hc => by
    unfold isAggT at hs
    unfold Value.formed
    split at hs <;> simp_all
  obtain ⟨L, hL, e1⟩ := Option.map_eq_some_iff.1 k1
  obtain ⟨L', hL', e2⟩ := Option.map_eq_some_iff.1 k2
  obtain rfl : L = L' := Option.some.inj (hL.symm.trans hL')
  have g1 := keyLits_leaves d t L hL cs.toList e1.symm w1
  have g2 := keyLits_leaves d t L hL ds.toList e2.symm w2
  obtain ⟨r, hr, hiff⟩ := run_equalIn_deep (P := P) e d t hk w d d (.agg cs) (.agg ds) _ _ (form cs hn) (form ds hm) g1 g2
  have hinj : (cs.toList.map litV = ds.toList.map litV) ↔ cs = ds := by
    constructor
    · intro h; exact Array.toList_inj.1 (litV_inj (e1.symm.trans e2) w1 h)
    · rintro rfl; rfl
  refine ⟨r, ?_, hiff.trans hinj⟩
  have heq : (Op.equal t (.agg cs) (.agg ds)).run P w = .ok r w := by
    unfold Op.equal Op.maxDepth
    rw [← hed]
    exact hr
  unfold eqlOf at ho
  split at ho
  · rename_i t' x' y' yt hop
    simp only [Option.some.injEq, Prod.mk.injEq] at ho
    obtain ⟨rfl, rfl, rfl, rfl⟩ := ho
    unfold execOp
    simp only [hop, hx, hy, Sem.run_bind, run_eqGuard_agg w _ _ _ _ _ _ hg, Result.andThen_ok, binOp, heq, Sem.run_pure]
    simp
  · rename_i t' x' y' yt hop
    simp only [Option.some.injEq, Prod.mk.injEq] at ho
    obtain ⟨rfl, rfl, rfl, rfl⟩ := ho
    unfold execOp
    simp only [hop, hx, hy, Sem.run_bind, run_eqGuard_agg w _ _ _ _ _ _ hg, Result.andThen_ok, binOp, heq, Sem.run_pure]
    simp
  · cases ho
theorem run_eqd_self (b : Bool) (e d t : Nat) (x y : Operand) (cs : Array Value) (hed : e + d = 10000) (ho : eqlOf o.op = some (b, t, x, y)) (hk : P.keyTypeAt d t = true) (hg : P.eqGuardType P.depth t = false) (hs : isAggT P t = true)
    (hx : a.eval x = .agg cs) (hy : a.eval y = .agg cs) (hn : cs.size = P.cellsOf t) (k1 : (leaves P d t).map (·.map some) = some (cs.toList.map kindV)) (w1 : WfA cs) : (execOp a.eval o).run P w = .ok (.value (.bool b)) w := by
  obtain ⟨r, hr, hiff⟩ := run_eqd (w := w) b e d t x y cs cs hed ho hk hg hs hx hy hn hn k1 k1 w1 w1
  have : r = true := hiff.2 rfl
  subst this
  rw [hr]
  cases b <;> rfl
theorem run_eqd_ne (b : Bool) (e d t : Nat) (x y : Operand) (cs ds : Array Value) (hed : e + d = 10000) (ho : eqlOf o.op = some (b, t, x, y)) (hk : P.keyTypeAt d t = true) (hg : P.eqGuardType P.depth t = false) (hs : isAggT P t = true)
    (hx : a.eval x = .agg cs) (hy : a.eval y = .agg ds) (hn : cs.size = P.cellsOf t) (hm : ds.size = P.cellsOf t) (k1 : (leaves P d t).map (·.map some) = some (cs.toList.map kindV)) (k2 : (leaves P d t).map (·.map some) = some (ds.toList.map kindV)) (w1 : WfA cs) (w2 : WfA ds) (hne : cs ≠ ds) :
    (execOp a.eval o).run P w = .ok (.value (.bool (!b))) w := by
  obtain ⟨r, hr, hiff⟩ := run_eqd (w := w) b e d t x y cs ds hed ho hk hg hs hx hy hn hm k1 k2 w1 w2
  have : r = false := by
    cases r with
    | false => rfl
    | true => exact absurd (hiff.1 rfl) hne
  subst this
  rw [hr]
  cases b <;> rfl
end
end Go.Alm

/- Maps, as lists of keys and values; the memo of layer 3. -/
namespace Go.Alm
open Go Go.RowKit

/-- A map's block: its keys and values in the order in which they came. -/
def MapAt (P : Program) (k : TypeId) (w : World) (mb : Nat) (kv : List (Value × Value)) : Prop :=
  ∃ es clock, w.heap[mb]? = some (.map es clock) ∧ es.toList.map (fun e => (e.key, e.val)) = kv ∧ ∀ p ∈ kv, ∃ l, keyOf P k p.1 = some l
theorem MapAt.keep {P : Program} {k : TypeId} {w w' : World} {mb : Nat} {kv : List (Value × Value)} {S : Nat → Prop} (h : MapAt P k w mb kv) (F : Fr w w' S) (d : Dis (One mb) S) : MapAt P k w' mb kv := by
  obtain ⟨es, cl, hb, hk, hg⟩ := h
  exact ⟨es, cl, F.keep hb d, hk, hg⟩
theorem MapAt.in {P : Program} {k : TypeId} {w : World} {mb : Nat} {kv : List (Value × Value)} (h : MapAt P k w mb kv) : In w (One mb) := by
  obtain ⟨es, cl, hb, _, _⟩ := h
  exact In.one hb
theorem MapAt.nil {P : Program} {k : TypeId} {w : World} {mb : Nat} (h : w.heap[mb]? = some (.map #[] 0)) : MapAt P k w mb [] := ⟨#[], 0, h, rfl, fun _ h => (by cases h)⟩
theorem keyOf_deep {P : Program} {k : Nat} {cs : Array Value} (hs : isAggT P k = true) (hk : P.keyType k = true) (hn : cs.size = P.cellsOf k) (k1 : (leaves P (P.types.size + 1) k).map (·.map some) = some (cs.toList.map kindV)) (w1 : WfA cs) : ∃ l, keyOf P k (.agg cs) = some l := by
  obtain ⟨L, hL, e1⟩ := Option.map_eq_some_iff.1 k1
  have g1 := keyLits_leaves (P.types.size + 1) k L hL cs.toList e1.symm w1
  have hf : Value.formed P k (.agg cs) = true := by
    unfold isAggT at hs
    unfold Value.formed
    split at hs <;> simp_all
  unfold isAggT at hs
  unfold keyOf
  split at hs
  all_goals first | (rename_i hu; rw [hu]; simp only [hk, hf, Bool.and_self, if_true]; rw [show (Value.agg cs).cells.toList = cs.toList from rfl, g1]; exact ⟨_, rfl⟩) | cases hs

section
variable {P : Program} {Q : Exit → Act → World → Prop} {a : Act} {w : World} {o : Oper} {K : Act → World → Prop} {mb : Nat} {kv : List (Value × Value)} {t k e : Nat}
def lookOf : Op → Option (Nat × Operand × Operand × Bool)
  | .lookup t x i ok => some (t, x, i, ok)
  | _ => none
def updOf : Op → Option (Nat × Operand × Operand × Operand)
  | .mapUpdate t m k x => some (t, m, k, x)
  | _ => none
def lenOf : Op → Option (Nat × Operand)
  | .call c => match c.callee, c.args.toList, c.argTypes.toList with
    | .builtin .len, [x], [t] => some (t, x)
    | _, _, _ => none
  | _ => none
theorem run_lookup (KL : WideMaps.KeyLaw P k) (x kx : Operand) (key z : Value) (ho : lookOf o.op = some (t, x, kx, true)) (ht : P.underlying t = some (.map k e)) (hz : (zeroValue e).run P w = .ok z w) (hx : a.eval x = .map (some mb)) (hkx : a.eval kx = key)
    (h : MapAt P k w mb kv) (hkey : ∃ l, keyOf P k key = some l) :
    ((∀ p ∈ kv, p.1 ≠ key) → (execOp a.eval o).run P w = .ok (.value (.tuple #[z, .bool false])) w) ∧
    (∀ v, (∀ v', (key, v') ∈ kv → v' = v) → (∃ v', (key, v') ∈ kv) → (execOp a.eval o).run P w = .ok (.value (.tuple #[v, .bool true])) w) := by
  obtain ⟨es, cl, hb, rfl, hg⟩ := h
  obtain ⟨l, hl⟩ := hkey
  have hgk : ∀ x ∈ es.toList, ∃ l, keyOf P k x.key = some l := fun x hx => hg _ (List.mem_map.2 ⟨x, hx, rfl⟩)
  unfold lookOf at ho
  split at ho
  · rename_i t' x' k' ok' hop
    simp only [Option.some.injEq, Prod.mk.injEq] at ho
    obtain ⟨rfl, rfl, rfl, rfl⟩ := ho
    have e1 : execOp a.eval o = (do pure (.value (← Instr.lookup t' (a.eval x') (a.eval k') true))) := by unfold execOp; simp only [hop]
    rcases KL.find w hl es.toList hgk with ⟨h1, h2⟩ | ⟨j, e0, h1, h2, h3⟩
    · refine ⟨fun _ => ?_, fun v _ hex => ?_⟩
      · rw [e1, hx, hkx]
        simp [Instr.lookup, run_underlying ht, MapKept.run_getObj_map hb, KL.check w _ hl, h1, hz, Result.andThen]
      · obtain ⟨v', hv'⟩ := hex
        obtain ⟨x, hx, he⟩ := List.mem_map.1 hv'
        exact absurd (congrArg Prod.fst he) (h2 x hx)
    · have hm : e0 ∈ es.toList := List.mem_of_getElem? h2
      refine ⟨fun hno => ?_, fun v huniq _ => ?_⟩
      · exact absurd h3 (hno _ (List.mem_map.2 ⟨e0, hm, rfl⟩))
      · have : e0.val = v := huniq _ (List.mem_map.2 ⟨e0, hm, by rw [h3]⟩)
        rw [e1, hx, hkx]
        simp [Instr.lookup, run_underlying ht, MapKept.run_getObj_map hb, KL.check w _ hl, h1, Result.andThen, this]
  · cases ho
theorem op_update (KL : WideMaps.KeyLaw P k) (x kx vx : Operand) (key val : Value) (ho : updOf o.op = some (t, x, kx, vx)) (ht : P.underlying t = some (.map k e)) (hx : a.eval x = .map (some mb)) (hkx : a.eval kx = key) (hvx : a.eval vx = val)
    (h : MapAt P k w mb kv) (hkey : ∃ l, keyOf P k key = some l) (hno : ∀ p ∈ kv, p.1 ≠ key)
    (kk : ∀ w', MapAt P k w' mb (kv ++ [(key, val)]) → w'.heap.size = w.heap.size → Fr w w' (One mb) → K (a.put o.dst undef) w') : OpW P o a w K Q := by
  obtain ⟨es, cl, hb, rfl, hg⟩ := h
  obtain ⟨l, hl⟩ := hkey
  have hgk : ∀ x ∈ es.toList, ∃ l, keyOf P k x.key = some l := fun x hx => hg _ (List.mem_map.2 ⟨x, hx, rfl⟩)
  unfold updOf at ho
  split at ho
  · rename_i t' x' k' v' hop
    simp only [Option.some.injEq, Prod.mk.injEq] at ho
    obtain ⟨rfl, rfl, rfl, rfl⟩ := ho
    have e1 : execOp a.eval o = (do Instr.mapUpdate t' (a.eval x') (a.eval k') (a.eval v'); pure .skip) := by unfold execOp; simp only [hop]
    rcases KL.find w hl es.toList hgk with ⟨h1, _⟩ | ⟨j, e0, _, h2, h3⟩
    · have hlt := lt_of_get hb
      have hget : (w.heap.setIfInBounds mb (.map (es.push ⟨key, val, cl⟩) (cl + 1)))[mb]? = some (.map (es.push ⟨key, val, cl⟩) (cl + 1)) := by simp [hlt]
      refine op_run_skip { w with heap := w.heap.setIfInBounds mb (.map (es.push ⟨key, val, cl⟩) (cl + 1)) } ?_ (kk _ ⟨_, _, hget, by simp, ?_⟩ (by simp) ⟨rfl, rfl, rfl, by simp, fun j _ hj => ?_⟩)
      · rw [e1, hx, hkx, hvx]
        simp [Instr.mapUpdate, run_underlying ht, MapKept.run_getObj_map hb, KL.check w _ hl, h1, MapKept.run_setObj_map _ hb, Result.andThen]
      · intro p hp
        rcases List.mem_append.1 hp with h | h
        · exact hg p h
        · rw [List.mem_singleton.1 h]; exact ⟨l, hl⟩
      · have : mb ≠ j := fun e => hj e.symm
        simp [this]
    · have hm : e0 ∈ es.toList := List.mem_of_getElem? h2
      exact absurd h3 (hno _ (List.mem_map.2 ⟨e0, hm, rfl⟩))
  · cases ho
theorem run_lenMap (x : Operand) (ho : lenOf o.op = some (t, x)) (ht : P.underlying t = some (.map k e)) (hx : a.eval x = .map (some mb)) (h : MapAt P k w mb kv) : (execOp a.eval o).run P w = .ok (.value (.int .i64 (kv.length : Int))) w := by
  obtain ⟨es, cl, hb, rfl, _⟩ := h
  unfold lenOf at ho
  split at ho
  · rename_i c hc
    split at ho
    · rename_i h1 h2 h3
      simp only [Option.some.injEq, Prod.mk.injEq] at ho
      obtain ⟨rfl, rfl⟩ := ho
      obtain ⟨cal, args, tys⟩ := c
      simp only at h1 h2 h3
      obtain rfl : args = #[_] := by rw [← Array.toArray_toList (xs := args), h2]
      obtain rfl : tys = #[_] := by rw [← Array.toArray_toList (xs := tys), h3]
      subst h1
      unfold execOp
      simp [hc, resolve, invoke, builtin, hx, Builtin.len_, run_underlying ht, MapKept.run_getObj_map hb, goInt, Result.andThen]
    · cases ho
  · cases ho
end

/-! ### the memo -/
/-- A name and a digest. -/
structure TKey where
  s : ByteArray
  h : List Nat
  hl : h.length = 32
  hb : Byt h
  hs : s.size ≤ maxLen
def TKey.cells (x : TKey) : Array Value := #[.string x.s] ++ hv x.h
theorem hv_inj {l m : List Nat} (hl : l.length = 32) (hm : m.length = 32) (h : hv l = hv m) : l = m := by
  have h2 := congrArg Array.toList h
  rw [hv_B hl, hv_B hm] at h2
  exact map_inj' (fun x y e => by injection e with _ e; omega) h2
theorem TKey.inj {x y : TKey} (h : x.cells = y.cells) : x = y := by
  obtain ⟨s, l, hl, hb, hs⟩ := x
  obtain ⟨s', l', hl', hb', hs'⟩ := y
  have h2 := congrArg Array.toList h
  simp only [TKey.cells, Array.toList_append, List.cons_append, List.nil_append, List.cons.injEq, Value.string.injEq] at h2
  obtain ⟨rfl, h3⟩ := h2
  have : l = l' := hv_inj hl hl' (Array.toList_inj.1 h3)
  subst this
  rfl
theorem TKey.wf (x : TKey) : WfA x.cells := (WfA.lit (l := [.string x.s]) ⟨x.hs, trivial⟩).appP (WfA.hv x.hl x.hb)
/-- The digest of a name and one part. -/
def tag1 (nm h : List Nat) : List Nat := tagL nm [⟨none, 0, h⟩]
theorem tag1_eq (nm h : List Nat) (ao : Option Addr) (cap : Nat) : tagL nm [⟨ao, cap, h⟩] = tag1 nm h := rfl
def tagK (x : TKey) : List Nat := tag1 (sB x.s) x.h
def kvT (ks : List TKey) : List (Value × Value) := ks.map fun x => (.agg x.cells, .agg (hv (tagK x)))
instance (x y : TKey) : Decidable (x = y) := if h : x.s = y.s ∧ x.h = y.h then .isTrue (by obtain ⟨s, l, _, _, _⟩ := x; obtain ⟨s', l', _, _, _⟩ := y; obtain ⟨h1, h2⟩ := h; cases h1; cases h2; rfl) else .isFalse (fun e => h (by subst e; exact ⟨rfl, rfl⟩))
def addK (ks : List TKey) (x : TKey) (room : Nat) : List TKey := if x ∈ ks ∨ room ≤ ks.length then ks else ks ++ [x]
theorem kvT_in {ks : List TKey} {x : TKey} (h : x ∈ ks) : (∀ v', (Value.agg x.cells, v') ∈ kvT ks → v' = .agg (hv (tagK x))) ∧ ∃ v', (Value.agg x.cells, v') ∈ kvT ks := by
  constructor
  · intro v' hv'
    obtain ⟨y, _, he⟩ := List.mem_map.1 hv'
    simp only [Prod.mk.injEq, Value.agg.injEq] at he
    have := TKey.inj he.1
    subst this
    exact he.2.symm
  · exact ⟨_, List.mem_map.2 ⟨x, h, rfl⟩⟩
theorem kvT_no {ks : List TKey} {x : TKey} (h : x ∉ ks) : ∀ p ∈ kvT ks, p.1 ≠ .agg x.cells := fun p hp he => by
  obtain ⟨y, hy, rfl⟩ := List.mem_map.1 hp
  simp only [Value.agg.injEq] at he
  have := TKey.inj he
  subst this
  exact h hy
theorem kvT_length (ks : List TKey) : (kvT ks).length = ks.length := by simp [kvT]
theorem kvT_snoc (ks : List TKey) (x : TKey) : kvT ks ++ [(.agg x.cells, .agg (hv (tagK x)))] = kvT (ks ++ [x]) := by simp [kvT]
theorem parts0_le : (partsL []).length ≤ 800000 := by simp [partsL]
theorem parts1_le {ao : Option Addr} {cap : Nat} {l : List Nat} (h : l.length ≤ 700000) : (partsL [⟨ao, cap, l⟩]).length ≤ 800000 := by simp [partsL, partL_length]; omega
def memC (room mb : Nat) (last : TKey) (found : List Nat) (asked : Bool) : Array Value := #[.int .i64 (room : Int), .map (some mb)] ++ last.cells ++ hv found ++ #[.bool asked]
structure MemoAt (P : Program) (k tM : Nat) (w : World) (bm mb room : Nat) (ks : List TKey) (last : TKey) (found : List Nat) (asked : Bool) : Prop where
  blk : w.heap[bm]? = some (.cells (memC room mb last found asked) tM (0, 0))
  map : MapAt P k w mb (kvT ks)
  dis : Dis (One bm) (One mb)
  inv : asked = true → found = tagK last ∧ (last ∈ ks ∨ room ≤ ks.length)
theorem MemoAt.keep {P : Program} {k tM : Nat} {w w' : World} {bm mb room : Nat} {ks : List TKey} {last : TKey} {found : List Nat} {asked : Bool} {S : Nat → Prop} (h : MemoAt P k tM w bm mb room ks last found asked) (F : Fr w w' S) (d : Dis (Or2 (One bm) (One mb)) S) : MemoAt P k tM w' bm mb room ks last found asked :=
  ⟨F.keep h.blk d.left, h.map.keep F d.right, h.dis, h.inv⟩
theorem MemoAt.in {P : Program} {k tM : Nat} {w : World} {bm mb room : Nat} {ks : List TKey} {last : TKey} {found : List Nat} {asked : Bool} (h : MemoAt P k tM w bm mb room ks last found asked) : In w (Or2 (One bm) (One mb)) := fun i hi => by
  rcases hi with hi | hi
  · rw [hi]; exact lt_of_get h.blk
  · exact h.map.in i hi
def K0 : TKey := ⟨⟨#[]⟩, List.replicate 32 0, rfl, fun x hx => by have := List.eq_of_mem_replicate hx; omega, by decide⟩
theorem memo3 (asked : Bool) (last x : TKey) : asked = false ∨ (asked = true ∧ last = x) ∨ (asked = true ∧ last ≠ x) := by
  cases asked
  · exact .inl rfl
  · by_cases h : last = x
    · exact .inr (.inl ⟨rfl, h⟩)
    · exact .inr (.inr ⟨rfl, h⟩)
theorem addK_inv (ks : List TKey) (x : TKey) (room : Nat) : x ∈ addK ks x room ∨ room ≤ (addK ks x room).length := by
  unfold addK
  split
  · assumption
  · exact .inl (by simp)
theorem tagK_length (x : TKey) : (tagK x).length = 32 := tagL_length _ _
theorem tagK_byt (x : TKey) : Byt (tagK x) := tagL_byt _ _
end Go.Alm

/- The plain side of layer 3's laws. -/
namespace Go.Alm
open Go Go.RowKit
def lensum (ls : List BSl) : Nat := (ls.map (·.b.length)).sum
theorem lensum_snoc {ls : List BSl} {k : Nat} {x : BSl} (hx : ls[k]? = some x) : lensum (ls.take (k + 1)) = lensum (ls.take k) + x.b.length := by
  unfold lensum
  rw [List.take_add_one, hx]
  simp
theorem lensum_le (ls : List BSl) (k : Nat) : lensum (ls.take k) ≤ lensum ls := by
  have h : lensum ls = lensum (ls.take k) + lensum (ls.drop k) := by
    unfold lensum
    rw [← List.sum_append, ← List.map_append, List.take_append_drop]
  omega
theorem partsL_sum : ∀ ls : List BSl, (partsL ls).length = lensum ls + 4 * ls.length
  | [] => rfl
  | x :: ls => by
    have e : partsL (x :: ls) = partL x.b ++ partsL ls := rfl
    rw [e, List.length_append, partL_length, partsL_sum ls]
    simp [lensum]
    omega
/-- Is there more than is looked at? -/
def largeR (n : Nat) (ls : List BSl) : Bool := decide (2000 < n) || decide (300 < ls.length) || decide (2000 < lensum ls)
theorem largeR_yes {n : Nat} {ls : List BSl} (h : 2000 < n ∨ 300 < ls.length ∨ 2000 < lensum ls) : largeR n ls = true := by
  unfold largeR
  rcases h with h | h | h <;> simp [h]
theorem largeR_no {n : Nat} {ls : List BSl} (h1 : n ≤ 2000) (h2 : ls.length ≤ 300) (h3 : lensum ls ≤ 2000) : largeR n ls = false := by
  unfold largeR
  simp; omega
theorem largeR_spec {n : Nat} {ls : List BSl} (h : largeR n ls = false) : n ≤ 2000 ∧ ls.length ≤ 300 ∧ lensum ls ≤ 2000 ∧ (partsL ls).length ≤ 800000 := by
  unfold largeR at h
  simp at h
  rw [partsL_sum]
  omega

/-! ### unlike ones have unlike images -/
theorem putB4_inj {m n : Nat} (hm : m < 4294967296) (hn : n < 4294967296) (h : putB m 4 4 = putB n 4 4) : m = n := by
  rw [← four_L, ← four_L] at h
  simp only [List.cons.injEq, and_true] at h
  omega
theorem partsL_inj : ∀ {ls ms : List BSl}, ls.length = ms.length → (∀ x ∈ ls, x.b.length < 4294967296) → (∀ x ∈ ms, x.b.length < 4294967296) → partsL ls = partsL ms → ls.map (·.b) = ms.map (·.b)
  | [], [], _, _, _, _ => rfl
  | [], _ :: _, h, _, _, _ => by simp at h
  | _ :: _, [], h, _, _, _ => by simp at h
  | x :: ls, y :: ms, h, hl, hm, he => by
    have e1 : partsL (x :: ls) = putB x.b.length 4 4 ++ (x.b ++ partsL ls) := by rw [← List.append_assoc]; rfl
    have e2 : partsL (y :: ms) = putB y.b.length 4 4 ++ (y.b ++ partsL ms) := by rw [← List.append_assoc]; rfl
    rw [e1, e2] at he
    obtain ⟨h1, h2⟩ := List.append_inj he (by rw [putB_length, putB_length])
    have h3 := putB4_inj (hl x (by simp)) (hm y (by simp)) h1
    obtain ⟨h4, h5⟩ := List.append_inj h2 h3
    rw [List.map_cons, List.map_cons, h4, partsL_inj (by simpa using h) (fun z hz => hl z (by simp [hz])) (fun z hz => hm z (by simp [hz])) h5]
theorem partsL_congr : ∀ {ls ms : List BSl}, ls.map (·.b) = ms.map (·.b) → partsL ls = partsL ms
  | [], [], _ => rfl
  | [], _ :: _, h => by simp at h
  | _ :: _, [], h => by simp at h
  | x :: ls, y :: ms, h => by
    simp only [List.map_cons, List.cons.injEq] at h
    have e1 : partsL (x :: ls) = partL x.b ++ partsL ls := rfl
    have e2 : partsL (y :: ms) = partL y.b ++ partsL ms := rfl
    rw [e1, e2, h.1, partsL_congr h.2]
theorem sB_inj {s t : ByteArray} (h : sB s = sB t) : s = t := by
  unfold sB at h
  have h2 : s.data.toList = t.data.toList := map_inj' (fun x y e => UInt8.toNat_inj.1 e) h
  cases s; cases t
  simp_all [Array.toList_inj]
theorem img_iff {s t : ByteArray} {ls ms : List BSl} (h1 : ¬ imgBad s.size ls.length) (h2 : ¬ imgBad t.size ms.length) (hl : ∀ x ∈ ls, x.b.length < 4294967296) (hm : ∀ x ∈ ms, x.b.length < 4294967296) :
    imgL (sB s) ls = imgL (sB t) ms ↔ s = t ∧ ls.map (·.b) = ms.map (·.b) := by
  rw [imgL_ok (by rw [sB_length]; exact h1), imgL_ok (by rw [sB_length]; exact h2)]
  constructor
  · intro h
    unfold headL at h
    rw [List.cons_append, List.cons_append, List.cons_append, List.cons_append, List.cons.injEq] at h
    obtain ⟨a, b⟩ := h
    rw [List.append_assoc, List.append_assoc] at b
    obtain ⟨c, d⟩ := List.append_inj b a
    simp only [List.cons_append, List.nil_append, List.cons.injEq] at d
    exact ⟨sB_inj c, partsL_inj d.1 hl hm d.2⟩
  · rintro ⟨rfl, h⟩
    have : ls.length = ms.length := by have := congrArg List.length h; simpa using this
    rw [this, partsL_congr h]
theorem lensum_mem : ∀ {ls : List BSl} {x : BSl}, x ∈ ls → x.b.length ≤ lensum ls
  | y :: ls, x, h => by
    have e : lensum (y :: ls) = y.b.length + lensum ls := by simp [lensum]
    rcases List.mem_cons.1 h with rfl | h
    · omega
    · have := lensum_mem h; omega
theorem mt_step {ls ms : List BSl} {i : Nat} {x y : BSl} (h : (ls.take i).map (·.b) = (ms.take i).map (·.b)) (hx : ls[i]? = some x) (hy : ms[i]? = some y) (hb : x.b = y.b) : (ls.take (i + 1)).map (·.b) = (ms.take (i + 1)).map (·.b) := by
  rw [List.take_add_one, List.take_add_one, hx, hy, List.map_append, List.map_append, h]
  simp [hb]
theorem mb_of {ls ms : List BSl} {i : Nat} {x y : BSl} (h : ls.map (·.b) = ms.map (·.b)) (hx : ls[i]? = some x) (hy : ms[i]? = some y) : x.b = y.b := by
  have h1 : (ls.map (·.b))[i]? = some x.b := by rw [List.getElem?_map, hx]; rfl
  have h2 : (ms.map (·.b))[i]? = some y.b := by rw [List.getElem?_map, hy]; rfl
  rw [h, h2] at h1
  exact (Option.some.inj h1).symm
theorem tagApart_end {s t : ByteArray} {ls ms : List BSl} {sm : Bool} {i : Nat} (hb1 : ¬ imgBad s.size ls.length) (hb2 : ¬ imgBad t.size ms.length) (hl : lensum ls ≤ 2000) (hm : lensum ms ≤ 2000)
    (hsm : sm = true → s = t ∧ ls.length = ms.length ∧ i ≤ ls.length ∧ (ls.take i).map (·.b) = (ms.take i).map (·.b)) (hsf : sm = false → ¬ (s = t ∧ ls.map (·.b) = ms.map (·.b))) (he : sm = true → ls.length ≤ i) :
    (sm == decide (imgL (sB s) ls = imgL (sB t) ms)) = true := by
  have key := img_iff hb1 hb2 (fun x hx => by have := lensum_mem hx; omega) (fun x hx => by have := lensum_mem hx; omega)
  cases sm with
  | false => rw [decide_eq_false (fun e => hsf rfl (key.1 e))]; rfl
  | true =>
    obtain ⟨a, b, c, d⟩ := hsm rfl
    have hi := he rfl
    rw [List.take_of_length_le hi, List.take_of_length_le (by omega)] at d
    rw [decide_eq_true (key.2 ⟨a, d⟩)]; rfl
theorem str_yes {s t : ByteArray} (h : (s == t) = true) : s = t := (MapKept.bytes_beq s t).1 h
theorem str_no {s t : ByteArray} (h : (s == t) = false) : s ≠ t := fun e => by rw [(MapKept.bytes_beq s t).2 e] at h; cases h
end Go.Alm

namespace Go.Alm
open Go Go.RowKit
section
variable {P : Program} {a : Act} {w : World} {o : Oper}
theorem run_eq_str (b : Bool) (t : Nat) (x y : Operand) (s1 s2 : ByteArray) (ho : eqlOf o.op = some (b, t, x, y))
    (hx : a.eval x = .string s1) (hy : a.eval y = .string s2) : (execOp a.eval o).run P w = .ok (.value (.bool (cond b (s1 == s2) (!(s1 == s2))))) w := by
  unfold eqlOf at ho
  split at ho
  · rename_i t' x' y' yt hop
    simp only [Option.some.injEq, Prod.mk.injEq] at ho
    obtain ⟨rfl, rfl, rfl, rfl⟩ := ho
    unfold execOp
    simp [hop, hx, hy, eqGuard, binOp, Op.stringOp, beq_toListBytes]
  · rename_i t' x' y' yt hop
    simp only [Option.some.injEq, Prod.mk.injEq] at ho
    obtain ⟨rfl, rfl, rfl, rfl⟩ := ho
    unfold execOp
    simp [hop, hx, hy, eqGuard, binOp, Op.stringOp, beq_toListBytes]
  · cases ho
end
end Go.Alm

/- Strings: out of bytes, as bytes, and walked rune by rune as long as these are of one byte. -/
namespace Go.Alm
open Go Go.RowKit
def toStr (l : List Nat) : ByteArray := ⟨(l.map UInt8.ofNat).toArray⟩
theorem sB_toStr {l : List Nat} (h : Byt l) : sB (toStr l) = l := by
  unfold sB toStr
  rw [List.map_map]
  have : l.map (UInt8.toNat ∘ UInt8.ofNat) = l.map id := List.map_congr_left fun x hx => by
    have := h x hx
    simp only [Function.comp, id, UInt8.toNat_ofNat']
    omega
  rw [this, List.map_id]
theorem toStr_sB (s : ByteArray) : toStr (sB s) = s := sB_inj (sB_toStr (sB_byt s))
theorem toStr_size (l : List Nat) : (toStr l).size = l.length := by show (List.map UInt8.ofNat l).toArray.size = l.length; simp
theorem foldl_push_nat : ∀ (l : List Nat) (r : ByteArray), (l.map (fun (b : Nat) => (b : Int))).foldl (fun r n => r.push (UInt8.ofNat n.toNat)) r = ⟨r.data ++ (l.map UInt8.ofNat).toArray⟩
  | [], r => by simp
  | b :: l, r => by
    simp only [List.map_cons, List.foldl_cons]
    rw [foldl_push_nat l]
    simp [ByteArray.push]
section
variable {P : Program} {Q : Exit → Act → World → Prop} {a : Act} {w : World} {o : Oper} {K : Act → World → Prop}
def convOf : Op → Option (Nat × Nat × Operand)
  | .convert s d x => some (s, d, x)
  | _ => none
theorem run_bytes_str (src dst e : Nat) (x : Operand) (ao : Option Addr) (n c : Nat) (l : List Nat) (ho : convOf o.op = some (src, dst, x)) (hs : P.underlying src = some (.slice e)) (he : P.underlying e = some (.int .u8)) (hd : P.underlying dst = some .string)
    (hx : a.eval x = .slice ao n c) (hR : Rd w ao (B l)) (hl : l.length = n) : (execOp a.eval o).run P w = .ok (.value (.string (toStr l))) w := by
  subst hl
  have hc : (convert src dst (.slice ao l.length c)).run P w = .ok (.string (toStr l)) w := by
    rw [run_convert_bytes_string w src dst e ao l.length c hs he hd]
    cases ao with
    | none =>
      have : l = [] := by
        cases l with
        | nil => rfl
        | cons b r => obtain ⟨_, h, _⟩ := hR 0 (.int .u8 (b : Int)) rfl; cases h
      subst this
      rfl
    | some ad =>
      have hcells : (loadCells ad l.length).run P w = .ok ((l.map (fun (b : Nat) => (b : Int))).map (Value.int .u8)).toArray w := by
        have h := run_loadCells_list (P := P) (w := w) ad (B l) (fun j v hj => by
          obtain ⟨ad', ha, hcell⟩ := hR j v hj
          cases ha
          exact hcell)
        rw [B_length] at h
        rw [h]
        simp [B]
      rw [run_bytesToString w ad l.length c _ hcells, foldl_push_nat]
      simp [toStr, ByteArray.empty, ByteArray.emptyWithCapacity]
      rfl
  unfold convOf at ho
  split at ho
  · rename_i s' d' x' hop
    simp only [Option.some.injEq, Prod.mk.injEq] at ho
    obtain ⟨rfl, rfl, rfl⟩ := ho
    unfold execOp
    simp only [hop, hx, Sem.run_bind, hc, Result.andThen_ok, Sem.run_pure]
  · cases ho
theorem op_str_bytes (src dst e : Nat) (x : Operand) (s : ByteArray) (ho : convOf o.op = some (src, dst, x)) (hs : P.underlying src = some .string) (hd : P.underlying dst = some (.slice e)) (he : P.underlying e = some (.int .u8)) (hx : a.eval x = .string s)
    (k : ∀ w' b n, Rd w' (some ⟨b, 0, none⟩) (B (sB s)) → b = w.heap.size → Fr w w' N0 → In w' (One b) → (sB s).length ≤ n → K (a.put o.dst (.slice (some ⟨b, 0, none⟩) (sB s).length n)) w') : OpW P o a w K Q := by
  rw [sB_length] at k
  unfold convOf at ho
  split at ho
  · rename_i s' d' x' hop
    simp only [Option.some.injEq, Prod.mk.injEq] at ho
    obtain ⟨rfl, rfl, rfl⟩ := ho
    have hr := run_bytes_of_string (P := P) w s' d' e s hs hd he
    obtain ⟨ob, hob⟩ : ∃ ob, ob = Obj.cells (bytesRow s (grownCap w s.size 0 e)) e ((bytesRow s (grownCap w s.size 0 e)).size, (bytesRow s (grownCap w s.size 0 e)).size + 1) := ⟨_, rfl⟩
    rw [← hob] at hr
    refine op_run _ (w.drew.alloc ob) (by unfold execOp; simp only [hop, hx, Sem.run_bind, hr, Result.andThen_ok, Sem.run_pure]) (k _ w.heap.size _ ?_ rfl (Fr.of_drew (Fr.alloc1 w.drew ob)) ?_ (grownCap_ge w s.size 0 e))
    · have hb := heap_alloc_new w.drew ob
      rw [hob] at hb
      rw [hob]
      refine Rd.of_cut hb 0 s.size ?_
      rw [List.drop_zero, bytesRow, Array.toList_append, List.take_left' (by rw [Array.length_toList, Array.size_map]; rfl)]
      rw [← sB_cells]
      simp [byteCells]
    · intro j hj
      rw [hj]
      show w.heap.size < (w.heap.push _).size
      simp
  · cases ho
/-! ### walking a string -/
def nextOf : Op → Option (Operand × Bool)
  | .next x b => some (x, b)
  | _ => none
theorem get!_sB {s : ByteArray} {k : Nat} (h : k < s.size) : (s.get! k).toNat = (sB s).getD k 0 := by
  have hk' : k < s.data.size := h
  have hk2 : k < s.data.toList.length := by simpa using hk'
  unfold sB
  rw [List.getD_eq_getElem?_getD, List.getElem?_map, List.getElem?_eq_getElem hk2]
  unfold ByteArray.get!
  simp [hk']
  rw [getElem!_pos s.data k hk']
theorem dec_low {s : ByteArray} {k : Nat} (h : k < s.size) (hb : (sB s).getD k 0 < 128) : Utf8.decode s k = ((sB s).getD k 0, 1) := by
  unfold Utf8.decode
  simp only [Nat.add_zero, get!_sB h]
  rw [if_pos (by omega)]
theorem dec_high {s : ByteArray} {k : Nat} (h : k < s.size) (hb : ¬ (sB s).getD k 0 < 128) : 128 ≤ (Utf8.decode s k).1 := by
  unfold Utf8.decode
  simp only [Nat.add_zero, get!_sB h]
  rw [if_neg (by omega)]
  unfold Utf8.runeError
  repeat' split
  all_goals first | omega | (simp_all; omega)
theorem op_next (x : Operand) (b pos : Nat) (s : ByteArray) (ho : nextOf o.op = some (x, true)) (hx : a.eval x = .pointer (some ⟨b, 0, none⟩)) (hb : w.heap[b]? = some (.stringIter s pos)) (hp : pos < s.size)
    (k : ∀ w', w'.heap[b]? = some (.stringIter s (pos + (Utf8.decode s pos).2)) → w'.heap.size = w.heap.size → Fr w w' (One b) → K (a.put o.dst (.tuple #[.bool true, .int .i64 (pos : Int), .int .i32 ((Utf8.decode s pos).1 : Int)])) w') : OpW P o a w K Q := by
  unfold nextOf at ho
  split at ho
  · rename_i x' b' hop
    simp only [Option.some.injEq, Prod.mk.injEq] at ho
    obtain ⟨rfl, rfl⟩ := ho
    have hlt := lt_of_get hb
    refine op_run _ { w with heap := w.heap.setIfInBounds b (.stringIter s (pos + (Utf8.decode s pos).2)) } ?_ (k _ (by simp [hlt]) (by simp) ⟨rfl, rfl, rfl, by simp, fun j _ hj => ?_⟩)
    · unfold execOp
      simp only [hop, hx, Instr.next, Sem.run_bind, getObj, Sem.run, hb, Result.andThen_ok, if_pos hp, setObj, hlt, if_true]
      rfl
    · have : b ≠ j := fun e => hj e.symm
      simp [this]
  · cases ho
theorem run_over (x : Operand) (b pos : Nat) (s : ByteArray) (ho : nextOf o.op = some (x, true)) (hx : a.eval x = .pointer (some ⟨b, 0, none⟩)) (hb : w.heap[b]? = some (.stringIter s pos)) (hp : ¬ pos < s.size) : (execOp a.eval o).run P w = .ok (.value (.tuple #[.bool false])) w := by
  unfold nextOf at ho
  split at ho
  · rename_i x' b' hop
    simp only [Option.some.injEq, Prod.mk.injEq] at ho
    obtain ⟨rfl, rfl⟩ := ho
    unfold execOp
    simp only [hop, hx, Instr.next, Sem.run_bind, getObj, Sem.run, hb, Result.andThen_ok, if_neg hp, Sem.run_pure]
  · cases ho
end
end Go.Alm

/- Layer 4: what is written of things, read back. -/
namespace Go.Alm
open Go Go.RowKit

theorem num_cons' (b : Nat) : ∀ (l : List Nat) (n : Nat), l.foldl (fun n b => n * 256 + b) (n * 256 + b) = n * 256 ^ (l.length + 1) + (b * 256 ^ l.length + num l) := by
  intro l
  induction l generalizing b with
  | nil => intro n; simp [num]
  | cons c l ih =>
    intro n
    rw [List.foldl_cons, ih c (n * 256 + b)]
    have h2 : num (c :: l) = c * 256 ^ l.length + num l := by
      have := ih c 0
      simpa [num] using this
    rw [h2, List.length_cons, Nat.add_mul, Nat.pow_succ 256 (l.length + 1), Nat.pow_succ 256 l.length]
    generalize 256 ^ l.length = q
    rw [Nat.mul_assoc n 256, Nat.mul_comm 256 (q * 256)]
    omega
theorem num_cons (b : Nat) (l : List Nat) : num (b :: l) = b * 256 ^ l.length + num l := by
  have := num_cons' b l 0
  simpa [num] using this
theorem num_putB (n : Nat) : ∀ k, num (putB n k k) = n % 256 ^ k
  | 0 => by simp [putB, num, Nat.mod_one]
  | k + 1 => by
    rw [putB_next, num_cons, putB_length, num_putB n k, Nat.mod_pow_succ, Nat.add_comm, Nat.mul_comm]

/-! ### a reader in front of what is there -/
theorem take_app {a b : List Nat} {m : Nat} (h : a.length = m) : (Rs.mk 0 (a ++ b)).take m = ⟨0, b⟩ ∧ (Rs.mk 0 (a ++ b)).out m = a := by
  subst h
  have hn : ¬ (a ++ b).length < a.length := by rw [List.length_append]; omega
  unfold Rs.take Rs.out
  simp only [if_neg hn, List.drop_left, List.take_left, and_self]
theorem hash_app {a b : List Nat} (h : a.length = 32) : (Rs.mk 0 (a ++ b)).hash = a := by
  unfold Rs.hash
  rw [if_neg (by simp; omega)]
  exact List.take_left' h
theorem take_cut {l : List Nat} {m : Nat} (h : l.length < m) : (Rs.mk 0 l).take m = ⟨3, []⟩ := by
  unfold Rs.take Rs.wrong
  simp [h]
theorem take_dead (m : Nat) : (Rs.mk 3 []).take m = ⟨3, []⟩ := by
  unfold Rs.take Rs.wrong
  simp
theorem textR_app {t b : List Nat} (h : t.length ≤ 255) : (Rs.mk 0 (textW t ++ b)).textR 255 = ⟨0, b⟩ ∧ (Rs.mk 0 (textW t ++ b)).text 255 = t := by
  have e : textW t = putB t.length 1 1 ++ t := if_pos h
  have h1 := take_app (a := putB t.length 1 1) (b := t ++ b) (m := 1) (putB_length _ _ _)
  have h2 : (Rs.mk 0 (textW t ++ b)).num 1 = t.length := by
    rw [e, List.append_assoc]
    unfold Rs.num
    rw [h1.2, num_putB]
    omega
  have h3 : (Rs.mk 0 (textW t ++ b)).text1 255 = ⟨0, t ++ b⟩ := by
    unfold Rs.text1
    rw [h2, if_neg (by omega), e, List.append_assoc, h1.1]
  have h4 := take_app (a := t) (b := b) (m := t.length) rfl
  constructor
  · unfold Rs.textR
    rw [h3, if_pos rfl, h2, h4.1]
  · unfold Rs.text
    rw [h3, if_pos rfl, h2, h4.2]
theorem textR_cut {t : List Nat} {c : Nat} (h : t.length ≤ 255) (hc : c < (textW t).length) : (Rs.mk 0 ((textW t).take c)).textR 255 = ⟨3, []⟩ := by
  have e : textW t = putB t.length 1 1 ++ t := if_pos h
  rw [e] at hc ⊢
  rw [List.length_append, putB_length] at hc
  rcases Nat.eq_zero_or_pos c with rfl | hp
  · rfl
  · obtain ⟨d, rfl⟩ : ∃ d, c = 1 + d := ⟨c - 1, by omega⟩
    have e2 : (putB t.length 1 1 ++ t).take (1 + d) = putB t.length 1 1 ++ t.take d := by
      rw [List.take_append, putB_length, List.take_of_length_le (by rw [putB_length]; omega)]
      congr 2
      omega
    rw [e2]
    have h1 := take_app (a := putB t.length 1 1) (b := t.take d) (m := 1) (putB_length _ _ _)
    have h2 : (Rs.mk 0 (putB t.length 1 1 ++ t.take d)).num 1 = t.length := by
      unfold Rs.num
      rw [h1.2, num_putB]
      omega
    have h3 : (Rs.mk 0 (putB t.length 1 1 ++ t.take d)).text1 255 = ⟨0, t.take d⟩ := by
      unfold Rs.text1
      rw [h2, if_neg (by omega), h1.1]
    unfold Rs.textR
    rw [h3, if_pos rfl, h2]
    exact take_cut (by rw [List.length_take]; omega)
theorem textR_dead : (Rs.mk 3 []).textR 255 = ⟨3, []⟩ := rfl

/-- One thing comes back. -/
theorem Thing.back {x : Thing} (h : x.Ok) (ho : x.okW = true) (b : List Nat) : x.r ⟨0, x.w ++ b⟩ = ⟨0, b⟩ ∧ x.okR ⟨0, x.w ++ b⟩ = true := by
  have hn := h.n
  unfold Thing.r Thing.okR Thing.w
  by_cases h0 : x.kind = 0
  · simp only [if_pos h0]
    have := take_app (a := putB (x.n % 256) 1 1) (b := b) (m := 1) (putB_length _ _ _)
    refine ⟨this.1, ?_⟩
    unfold Rs.num
    rw [this.2, num_putB]
    simp
  · simp only [if_neg h0]
    by_cases h1 : x.kind = 1
    · simp only [if_pos h1]
      have := take_app (a := putB (x.n % 4294967296) 4 4) (b := b) (m := 4) (putB_length _ _ _)
      refine ⟨this.1, ?_⟩
      unfold Rs.num
      rw [this.2, num_putB]
      simp
    · simp only [if_neg h1]
      by_cases h2 : x.kind = 2
      · simp only [if_pos h2]
        have := take_app (a := putB x.n 8 8) (b := b) (m := 8) (putB_length _ _ _)
        refine ⟨this.1, ?_⟩
        unfold Rs.num
        rw [this.2, num_putB, Nat.mod_eq_of_lt (by omega)]
        simp
      · simp only [if_neg h2]
        by_cases h3 : x.kind = 3
        · simp only [if_pos h3]
          have := take_app (a := x.h) (b := b) (m := 32) h.h
          refine ⟨this.1, ?_⟩
          rw [hash_app h.h]
          simp
        · simp only [if_neg h3]
          by_cases h4 : x.kind = 4
          · simp only [if_pos h4]
            unfold Thing.okW at ho
            rw [if_pos h4] at ho
            have := textR_app (b := b) (of_decide_eq_true ho)
            exact ⟨this.1, decide_eq_true this.2⟩
          · simp only [if_neg h4, List.nil_append]
            exact ⟨trivial, trivial⟩
theorem Thing.cutR {x : Thing} (h : x.Ok) (ho : x.okW = true) {c : Nat} (hc : c < x.w.length) : x.r ⟨0, x.w.take c⟩ = ⟨3, []⟩ := by
  unfold Thing.w at hc
  unfold Thing.r Thing.w
  by_cases h0 : x.kind = 0
  · simp only [if_pos h0] at hc ⊢
    rw [putB_length] at hc
    exact take_cut (by rw [List.length_take, putB_length]; omega)
  · simp only [if_neg h0] at hc ⊢
    by_cases h1 : x.kind = 1
    · simp only [if_pos h1] at hc ⊢
      rw [putB_length] at hc
      exact take_cut (by rw [List.length_take, putB_length]; omega)
    · simp only [if_neg h1] at hc ⊢
      by_cases h2 : x.kind = 2
      · simp only [if_pos h2] at hc ⊢
        rw [putB_length] at hc
        exact take_cut (by rw [List.length_take, putB_length]; omega)
      · simp only [if_neg h2] at hc ⊢
        by_cases h3 : x.kind = 3
        · simp only [if_pos h3] at hc ⊢
          rw [h.h] at hc
          exact take_cut (by rw [List.length_take, h.h]; omega)
        · simp only [if_neg h3] at hc ⊢
          by_cases h4 : x.kind = 4
          · simp only [if_pos h4] at hc ⊢
            unfold Thing.okW at ho
            rw [if_pos h4] at ho
            exact textR_cut (of_decide_eq_true ho) hc
          · simp only [if_neg h4] at hc
            simp at hc
theorem Thing.deadR (x : Thing) : x.r ⟨3, []⟩ = ⟨3, []⟩ := by
  unfold Thing.r
  repeat' split
  all_goals first | exact take_dead _ | rfl
def readT (r : Rs) (ts : List Thing) : Rs := ts.foldl (fun r x => Thing.r x r) r
theorem readT_snoc {r : Rs} {ts : List Thing} {k : Nat} {x : Thing} (hx : ts[k]? = some x) : readT r (ts.take (k + 1)) = x.r (readT r (ts.take k)) := by
  unfold readT
  rw [List.take_add_one, hx]
  simp
theorem readT_dead : ∀ ts : List Thing, readT ⟨3, []⟩ ts = ⟨3, []⟩
  | [] => rfl
  | x :: ts => by
    have : readT ⟨3, []⟩ (x :: ts) = readT (x.r ⟨3, []⟩) ts := rfl
    rw [this, x.deadR, readT_dead ts]
theorem readT_cut : ∀ {ts : List Thing} {c : Nat}, (∀ x ∈ ts, x.Ok) → (∀ x ∈ ts, x.okW = true) → c < (writeT ts).length → readT ⟨0, (writeT ts).take c⟩ ts = ⟨3, []⟩
  | [], c, _, _, hc => by simp [writeT] at hc
  | x :: ts, c, h, ho, hc => by
    have e : writeT (x :: ts) = x.w ++ writeT ts := rfl
    have e2 : ∀ r, readT r (x :: ts) = readT (x.r r) ts := fun _ => rfl
    rw [e] at hc ⊢
    rw [e2]
    rcases Nat.lt_or_ge c x.w.length with hl | hl
    · rw [List.take_append_of_le_length (by omega), Thing.cutR (h x (by simp)) (ho x (by simp)) hl, readT_dead]
    · obtain ⟨d, rfl⟩ : ∃ d, c = x.w.length + d := ⟨c - x.w.length, by omega⟩
      rw [List.take_length_add_append, (Thing.back (h x (by simp)) (ho x (by simp)) _).1]
      rw [List.length_append] at hc
      exact readT_cut (fun y hy => h y (by simp [hy])) (fun y hy => ho y (by simp [hy])) (by omega)
theorem writeT_drop {ts : List Thing} {k : Nat} {x : Thing} (hx : ts[k]? = some x) : writeT (ts.drop k) = x.w ++ writeT (ts.drop (k + 1)) := by
  obtain ⟨hk, rfl⟩ := List.getElem?_eq_some_iff.1 hx
  rw [List.drop_eq_getElem_cons hk]
  rfl
theorem rT_len {x : Thing} (r : Rs) : (x.r r).l.length ≤ r.l.length := by
  unfold Thing.r
  repeat' split
  all_goals first | exact take_len _ _ | exact textR_len _ _ | exact Nat.le_refl _
theorem rT_byt {x : Thing} {r : Rs} (h : Byt r.l) : Byt (x.r r).l := by
  unfold Thing.r
  repeat' split
  all_goals first | exact h.rtake _ | exact h.textR _ | exact h
theorem readT_len : ∀ (ts : List Thing) (r : Rs), (readT r ts).l.length ≤ r.l.length
  | [], _ => Nat.le_refl _
  | x :: ts, r => Nat.le_trans (readT_len ts (x.r r)) (rT_len r)
theorem readT_byt : ∀ (ts : List Thing) {r : Rs}, Byt r.l → Byt (readT r ts).l
  | [], _, h => h
  | _ :: ts, _, h => readT_byt ts (rT_byt h)
theorem Byt.app {a b : List Nat} (ha : Byt a) (hb : Byt b) : Byt (a ++ b) := fun x hx => by
  rcases List.mem_append.1 hx with h | h
  · exact ha x h
  · exact hb x h
theorem Byt.putB (n k j : Nat) : Byt (putB n k j) := fun x hx => by
  unfold Go.Alm.putB at hx
  obtain ⟨i, _, rfl⟩ := List.mem_map.1 hx
  exact Nat.mod_lt _ (by decide)
theorem Byt.textW {b : List Nat} (h : Byt b) : Byt (textW b) := by
  unfold Go.Alm.textW
  split
  · exact (Byt.putB _ _ _).app h
  · exact Byt.nil
theorem Thing.w_byt {x : Thing} (h : x.Ok) : Byt x.w := by
  unfold Thing.w
  repeat' split
  all_goals first | exact Byt.putB _ _ _ | exact h.hb | exact h.b.textW | exact Byt.nil
theorem writeT_byt : ∀ {ts : List Thing}, (∀ x ∈ ts, x.Ok) → Byt (writeT ts)
  | [], _ => Byt.nil
  | x :: ts, h => by
    have e : writeT (x :: ts) = x.w ++ writeT ts := rfl
    rw [e]
    exact (Thing.w_byt (h x (by simp))).app (writeT_byt fun y hy => h y (by simp [hy]))
/-- A text that is too long is not written. -/
theorem Thing.w_skip {x : Thing} (h : x.kind = 4) (h2 : ¬ x.b.length ≤ 255) : x.w = [] := by
  unfold Thing.w
  rw [if_neg (by omega), if_neg (by omega), if_neg (by omega), if_neg (by omega), if_pos h]
  exact if_neg h2
theorem Thing.okW_of {x : Thing} (h : x.kind ≠ 4 ∨ x.b.length ≤ 255) : x.okW = true := by
  unfold Thing.okW
  split
  · rename_i h4
    rcases h with h | h
    · exact absurd h4 h
    · exact decide_eq_true h
  · rfl
end Go.Alm

/- Reading, backwards: what was read, when nothing went wrong, are the bytes; and texts of a bound of their own. -/
namespace Go.Alm
open Go Go.RowKit
theorem Rs.take_ok {r : Rs} {m : Nat} (h : (r.take m).e = 0) : r.e = 0 ∧ m ≤ r.l.length ∧ r.take m = ⟨0, r.l.drop m⟩ ∧ r.out m = r.l.take m := by
  unfold Rs.take at h
  by_cases hm : r.l.length < m
  · exfalso
    rw [if_pos hm] at h
    unfold Rs.wrong at h
    split at h
    · simp at h
    · contradiction
  · rw [if_neg hm] at h
    simp only at h
    refine ⟨h, by omega, ?_, if_neg hm⟩
    unfold Rs.take
    rw [if_neg hm, h]
theorem num_inj : ∀ {a b : List Nat}, a.length = b.length → Byt a → Byt b → num a = num b → a = b
  | [], [], _, _, _, _ => rfl
  | [], _ :: _, h, _, _, _ => by simp at h
  | _ :: _, [], h, _, _, _ => by simp at h
  | x :: a, y :: b, h, ha, hb, e => by
    have hl : a.length = b.length := by simpa using h
    have ha' : Byt a := fun z hz => ha z (by simp [hz])
    have hb' : Byt b := fun z hz => hb z (by simp [hz])
    rw [num_cons, num_cons, hl] at e
    have h1 := num_lt a ha'
    have h2 := num_lt b hb'
    rw [hl] at h1
    have hp : 0 < 256 ^ b.length := Nat.pow_pos (by decide)
    have d1 : (x * 256 ^ b.length + num a) / 256 ^ b.length = x := by rw [Nat.add_comm, Nat.add_mul_div_right _ _ hp, Nat.div_eq_of_lt h1, Nat.zero_add]
    have d2 : (y * 256 ^ b.length + num b) / 256 ^ b.length = y := by rw [Nat.add_comm, Nat.add_mul_div_right _ _ hp, Nat.div_eq_of_lt h2, Nat.zero_add]
    rw [e, d2] at d1
    subst d1
    rw [num_inj hl ha' hb' (by omega)]
theorem putB_num {l : List Nat} (h : Byt l) : putB (num l) l.length l.length = l :=
  num_inj (putB_length _ _ _) (Byt.putB _ _ _) h (by rw [num_putB, Nat.mod_eq_of_lt (num_lt l h)])
theorem Rs.num_ok {r : Rs} {m : Nat} (hB : Byt r.l) (h : (r.take m).e = 0) : putB (r.num m) m m ++ (r.take m).l = r.l := by
  obtain ⟨_, h1, h2, h3⟩ := Rs.take_ok h
  have hl : (r.l.take m).length = m := by rw [List.length_take]; omega
  have hp := putB_num (hB.take m)
  rw [hl] at hp
  unfold Rs.num
  rw [h2, h3, hp]
  exact List.take_append_drop m r.l
theorem Rs.hash_ok {r : Rs} (h : (r.take 32).e = 0) : r.hash ++ (r.take 32).l = r.l := by
  obtain ⟨_, h1, h2, h3⟩ := Rs.take_ok h
  rw [h2]
  unfold Rs.hash
  rw [if_neg (by omega)]
  exact List.take_append_drop 32 r.l
theorem Rs.wrong_ne {r : Rs} {c : Nat} (hc : c ≠ 0) : (r.wrong c).e ≠ 0 := by
  unfold Rs.wrong
  split
  · exact hc
  · assumption
theorem Rs.text_ok {r : Rs} {m : Nat} (hB : Byt r.l) (_ : m ≤ 255) (h : (r.textR m).e = 0) :
    r.e = 0 ∧ (r.text m).length ≤ m ∧ putB (r.text m).length 1 1 ++ (r.text m ++ (r.textR m).l) = r.l := by
  have h1 : (r.text1 m).e = 0 := by
    by_cases h0 : (r.text1 m).e = 0
    · exact h0
    · unfold Rs.textR at h; rw [if_neg h0] at h; exact h
  have h2 : ¬ m < r.num 1 := fun hn => by
    unfold Rs.text1 at h1
    rw [if_pos hn] at h1
    exact Rs.wrong_ne (by decide) h1
  have h3 : r.text1 m = r.take 1 := if_neg h2
  have e1 : r.textR m = (r.take 1).take (r.num 1) := by unfold Rs.textR; rw [if_pos h1, h3]
  have e2 : r.text m = (r.take 1).out (r.num 1) := by unfold Rs.text; rw [if_pos h1, h3]
  rw [h3] at h1
  rw [e1] at h
  obtain ⟨a1, a2, a3, a4⟩ := Rs.take_ok h1
  obtain ⟨b1, b2, b3, b4⟩ := Rs.take_ok h
  have hn := Rs.num_ok hB h1
  rw [e1, e2, b4, b3]
  have hl : ((r.take 1).l.take (r.num 1)).length = r.num 1 := by rw [List.length_take]; omega
  rw [hl]
  refine ⟨a1, by omega, ?_⟩
  simp only
  rw [List.take_append_drop]
  exact hn
theorem Rs.end_ok {r : Rs} (h : r.end = 0) : r.e = 0 ∧ r.l = [] := by
  unfold Rs.end at h
  split at h
  · cases h
  · rename_i hn
    refine ⟨h, ?_⟩
    cases hl : r.l with
    | nil => rfl
    | cons x l => exact absurd ⟨h, by rw [hl]; simp⟩ hn
/-! ### texts of a bound -/
theorem num_one {n : Nat} (h : n < 256) (l : List Nat) : (Rs.mk 0 (putB n 1 1 ++ l)).num 1 = n := by
  unfold Rs.num
  rw [(take_app (putB_length _ _ _)).2, num_putB]
  omega
theorem textR_appm {t b : List Nat} {m : Nat} (h : t.length ≤ m) (hm : m ≤ 255) : (Rs.mk 0 (textW t ++ b)).textR m = ⟨0, b⟩ ∧ (Rs.mk 0 (textW t ++ b)).text m = t := by
  have hw : textW t ++ b = putB t.length 1 1 ++ (t ++ b) := by unfold textW; rw [if_pos (by omega), List.append_assoc]
  rw [hw]
  have hn := num_one (n := t.length) (by omega) (t ++ b)
  have h1 : (Rs.mk 0 (putB t.length 1 1 ++ (t ++ b))).text1 m = ⟨0, t ++ b⟩ := by
    unfold Rs.text1
    rw [hn, if_neg (by omega), (take_app (putB_length _ _ _)).1]
  constructor
  · unfold Rs.textR
    rw [h1, hn, if_pos rfl, (take_app rfl).1]
  · unfold Rs.text
    rw [h1, hn, if_pos rfl, (take_app rfl).2]
theorem num_app {n k : Nat} (hn : n < 256 ^ k) (b : List Nat) : (Rs.mk 0 (putB n k k ++ b)).num k = n := by
  unfold Rs.num
  rw [(take_app (putB_length _ _ _)).2, num_putB, Nat.mod_eq_of_lt hn]
theorem num_app1 {n k : Nat} (hn : n < 256 ^ k) : (Rs.mk 0 (putB n k k)).num k = n := by
  have := num_app hn []
  rwa [List.append_nil] at this
theorem take_app1 {a : List Nat} {m : Nat} (h : a.length = m) : (Rs.mk 0 a).take m = ⟨0, []⟩ := by
  have := (take_app (b := []) h).1
  rwa [List.append_nil] at this
theorem text_le (r : Rs) (m : Nat) : (r.text m).length ≤ r.l.length := text_len r m
theorem text_bound {r : Rs} {m : Nat} (hB : Byt r.l) : (r.text m).length ≤ 255 := by
  have hn := Rs.num_lt hB (Nat.le_refl 1)
  unfold Rs.text
  split
  · have := out_length_le (r.text1 m) (r.num 1); omega
  · simp
theorem Byt.text {r : Rs} (h : Byt r.l) (m : Nat) : Byt (r.text m) := by
  have h1 : Byt (r.text1 m).l := by
    unfold Rs.text1; split
    · exact (h.rtake 1).wrong 4
    · exact h.rtake 1
  unfold Rs.text; split
  · exact h1.out _
  · exact Byt.nil
end Go.Alm

/- Layer 14, plainly: which names are right; an account's bytes; what is read of bytes. -/
namespace Go.Alm
open Go Go.RowKit
def ltr (b : Nat) : Bool := Nat.ble 97 b && Nat.ble b 122
def rightS (s : ByteArray) : Bool := decide (0 < s.size) && decide (s.size ≤ 8) && (sB s).all ltr
theorem ltr_iff {b : Nat} : ltr b = true ↔ 97 ≤ b ∧ b ≤ 122 := by simp [ltr]
theorem all_step {l : List Nat} {k : Nat} (h : (l.take k).all ltr = true) (hk : k < l.length) (hb : 97 ≤ l.getD k 0 ∧ l.getD k 0 ≤ 122) : (l.take (k + 1)).all ltr = true := by
  rw [take_snoc l k hk, List.all_append, h]
  simp only [List.all_cons, List.all_nil, Bool.and_true, Bool.true_and]
  exact ltr_iff.2 hb
theorem right_no {s : ByteArray} {k : Nat} (hk : k < s.size) (hb : ¬ (97 ≤ (sB s).getD k 0 ∧ (sB s).getD k 0 ≤ 122)) : rightS s = false := by
  have : (sB s).all ltr = false := by
    cases h : (sB s).all ltr with
    | false => rfl
    | true =>
      have hk' : k < (sB s).length := by rw [sB_length]; exact hk
      have h1 := List.all_eq_true.1 h ((sB s)[k]) (List.getElem_mem hk')
      have e : (sB s).getD k 0 = (sB s)[k] := by simp [hk']
      rw [e] at hb
      exact absurd (ltr_iff.1 h1) hb
  unfold rightS
  rw [this, Bool.and_false]
theorem right_size {s : ByteArray} (h : ¬ (0 < s.size ∧ s.size ≤ 8)) : rightS s = false := by
  unfold rightS
  rcases Nat.lt_or_ge 0 s.size with h1 | h1
  · rw [decide_eq_false (show ¬ s.size ≤ 8 from fun h2 => h ⟨h1, h2⟩)]; simp
  · rw [decide_eq_false (show ¬ 0 < s.size by omega)]; simp
theorem right_yes {s : ByteArray} {k : Nat} (h : ((sB s).take k).all ltr = true) (hk : s.size ≤ k) (h1 : 0 < s.size) (h2 : s.size ≤ 8) : rightS s = true := by
  rw [List.take_of_length_le (by rw [sB_length]; exact hk)] at h
  unfold rightS
  rw [h, decide_eq_true h1, decide_eq_true h2]; rfl
theorem right_spec {s : ByteArray} (h : rightS s = true) : 0 < s.size ∧ s.size ≤ 8 ∧ (sB s).all ltr = true := by
  unfold rightS at h
  simp only [Bool.and_eq_true, decide_eq_true_eq] at h
  exact ⟨h.1.1, h.1.2, h.2⟩
theorem empty_size {s : ByteArray} (h : s ≠ (⟨#[]⟩ : ByteArray)) : 0 < s.size := by
  rcases Nat.eq_zero_or_pos s.size with h0 | h0
  · exfalso
    apply h
    have : s.data.size = 0 := h0
    have h2 : s.data = #[] := Array.eq_empty_of_size_eq_zero this
    cases s
    simp_all
  · exact h0
theorem empty_eq {s : ByteArray} (h : s = (⟨#[]⟩ : ByteArray)) : s.size = 0 := by subst h; rfl
section
variable {P : Program} {Q : Exit → Act → World → Prop} {a : Act} {w : World} {o : Oper} {K : Act → World → Prop}
theorem op_next_low (x : Operand) (b pos : Nat) (s : ByteArray) (ho : nextOf o.op = some (x, true)) (hx : a.eval x = .pointer (some ⟨b, 0, none⟩)) (hb : w.heap[b]? = some (.stringIter s pos)) (hp : pos < s.size) (hl : (sB s).getD pos 0 < 128)
    (k : ∀ w', w'.heap[b]? = some (.stringIter s (pos + 1)) → w'.heap.size = w.heap.size → Fr w w' (One b) → K (a.put o.dst (.tuple #[.bool true, .int .i64 (pos : Int), .int .i32 (((sB s).getD pos 0 : Nat) : Int)])) w') : OpW P o a w K Q := by
  refine op_next x b pos s ho hx hb hp ?_
  rw [dec_low hp hl]
  exact k
theorem op_next_high (x : Operand) (b pos : Nat) (s : ByteArray) (ho : nextOf o.op = some (x, true)) (hx : a.eval x = .pointer (some ⟨b, 0, none⟩)) (hb : w.heap[b]? = some (.stringIter s pos)) (hp : pos < s.size) (hl : ¬ (sB s).getD pos 0 < 128)
    (k : ∀ w' c p, 128 ≤ c → w'.heap[b]? = some (.stringIter s p) → w'.heap.size = w.heap.size → Fr w w' (One b) → K (a.put o.dst (.tuple #[.bool true, .int .i64 (pos : Int), .int .i32 ((c : Nat) : Int)])) w') : OpW P o a w K Q :=
  op_next x b pos s ho hx hb hp fun w' h1 h2 h3 => k w' _ _ (dec_high hp hl) h1 h2 h3
end
/-- An account's bytes. -/
def accL (s : ByteArray) (bal non : Nat) : List Nat := textW (sB s) ++ putB bal 8 8 ++ putB non 4 4
def accB (s : ByteArray) (bal non : Nat) : List Nat := if rightS s = true then accL s bal non else []
def accE (s : ByteArray) : Nat := if rightS s = true then 0 else 1
theorem accL_len {s : ByteArray} {bal non : Nat} : (accL s bal non).length ≤ 300 := by
  unfold accL
  rw [List.length_append, List.length_append, putB_length, putB_length]
  have : (textW (sB s)).length ≤ 256 := by
    unfold textW; split
    · rw [List.length_append, putB_length]; omega
    · simp
  omega
theorem accB_len {s : ByteArray} {bal non : Nat} : (accB s bal non).length ≤ 300 := by
  unfold accB; split
  · exact accL_len
  · simp
end Go.Alm

namespace Go.Alm
open Go Go.RowKit
/-- How far a walk over a string is from its end. -/
def itPos (b : Nat) (w : World) : Nat := match w.heap[b]? with | some (.stringIter s p) => s.size - p | _ => 0
theorem itPos_lt {b p p' : Nat} {s : ByteArray} {w w' : World} (h : w.heap[b]? = some (.stringIter s p)) (h' : w'.heap[b]? = some (.stringIter s p')) (h1 : p < p') (h2 : p < s.size) : itPos b w' < itPos b w := by
  unfold itPos; rw [h, h']; simp only; omega
end Go.Alm

namespace Go.Alm
open Go Go.RowKit
theorem accB_yes {s : ByteArray} {bal non : Nat} (h : rightS s = true) : accB s bal non = accL s bal non := if_pos h
theorem accB_no {s : ByteArray} {bal non : Nat} (h : rightS s = false) : accB s bal non = [] := if_neg (by rw [h]; decide)
theorem accE_yes {s : ByteArray} (h : rightS s = true) : accE s = 0 := if_pos h
theorem accE_no {s : ByteArray} (h : rightS s = false) : accE s = 1 := if_neg (by rw [h]; decide)
theorem accE_ne {s : ByteArray} (h : ((accE s : Nat) : Int) ≠ 0) : rightS s = false := by
  cases hr : rightS s with
  | false => rfl
  | true => rw [accE_yes hr] at h; exact absurd rfl h
theorem accE_eq {s : ByteArray} (h : ((accE s : Nat) : Int) = 0) : rightS s = true := by
  cases hr : rightS s with
  | true => rfl
  | false => rw [accE_no hr] at h; simp at h
theorem accL_ref {s : ByteArray} {bal non : Nat} (h : rightS s = true) : [s.size] ++ sB s ++ putB bal 8 8 ++ putB non 4 4 = accL s bal non := by
  have h2 := right_spec h
  unfold accL textW
  rw [if_pos (by rw [sB_length]; omega), putB_one (by rw [sB_length]; omega), sB_length]
theorem accL_byt (s : ByteArray) (bal non : Nat) : Byt (accL s bal non) := by
  have hp : ∀ n k j, Byt (putB n k j) := fun n k j x hx => by
    unfold Go.Alm.putB at hx
    obtain ⟨i, _, rfl⟩ := List.mem_map.1 hx
    exact Nat.mod_lt _ (by decide)
  unfold accL
  refine (Byt.cat ?_ (hp _ _ _)).cat (hp _ _ _)
  unfold textW
  split
  · exact (hp _ _ _).cat (sB_byt s)
  · exact Byt.nil
theorem accB_byt (s : ByteArray) (bal non : Nat) : Byt (accB s bal non) := by
  unfold accB; split
  · exact accL_byt s bal non
  · exact Byt.nil
def accS : ByteArray := ⟨#[97, 99, 99, 111, 117, 110, 116]⟩
def accH (s : ByteArray) (bal non : Nat) : List Nat := if rightS s = true then tag1 (sB accS) (accB s bal non) else List.replicate 32 0
theorem accH_length (s : ByteArray) (bal non : Nat) : (accH s bal non).length = 32 := by
  unfold accH; split
  · exact tagL_length _ _
  · simp
theorem accH_byt (s : ByteArray) (bal non : Nat) : Byt (accH s bal non) := by
  unfold accH; split
  · exact tagL_byt _ _
  · intro x hx; have := List.eq_of_mem_replicate hx; omega
end Go.Alm

namespace Go.Alm
open Go Go.RowKit
theorem accH_yes {s : ByteArray} {bal non : Nat} (h : rightS s = true) : accH s bal non = tag1 (sB accS) (accB s bal non) := if_pos h
theorem accH_no {s : ByteArray} {bal non : Nat} (h : rightS s = false) : accH s bal non = List.replicate 32 0 := if_neg (by rw [h]; decide)
def empS : ByteArray := ⟨#[101, 109, 112, 116, 121]⟩
def accNone : List Nat := tagL (sB empS) []
theorem accNone_length : accNone.length = 32 := tagL_length _ _
theorem accNone_byt : Byt accNone := tagL_byt _ _
/-- An account. -/
structure Acct where
  s : ByteArray
  bal : Nat
  non : Nat
structure Acct.Ok (a : Acct) : Prop where
  s : a.s.size ≤ maxLen
  bal : a.bal < 18446744073709551616
  non : a.non < 4294967296
def Acct.cells (a : Acct) : Array Value := #[.string a.s, .int .u64 (a.bal : Int), .int .u32 (a.non : Int)]
def acct0 : Acct := ⟨⟨#[]⟩, 0, 0⟩
/-- What is read of bytes. -/
abbrev accQ1 (l : List Nat) : Rs := (Rs.mk 0 l).textR 8
abbrev accQ2 (l : List Nat) : Rs := ((Rs.mk 0 l).textR 8).take 8
abbrev accQ3 (l : List Nat) : Rs := (((Rs.mk 0 l).textR 8).take 8).take 4
abbrev accN (l : List Nat) : ByteArray := toStr ((Rs.mk 0 l).text 8)
def accF (l : List Nat) : Nat := if (accQ3 l).end = 0 then (if rightS (accN l) = true then 0 else 2) else (accQ3 l).end
def accRd (l : List Nat) : Acct := if accF l = 0 then ⟨accN l, (accQ1 l).num 8, (accQ2 l).num 4⟩ else acct0
theorem accF_a {l : List Nat} (h : (accQ3 l).end = 0) (hr : rightS (accN l) = true) : accF l = 0 ∧ accRd l = ⟨accN l, (accQ1 l).num 8, (accQ2 l).num 4⟩ := by
  have : accF l = 0 := by unfold accF; rw [if_pos h, if_pos hr]
  exact ⟨this, if_pos this⟩
theorem accF_b {l : List Nat} (h : (accQ3 l).end = 0) (hr : rightS (accN l) = false) : accF l = 2 ∧ accRd l = acct0 := by
  have : accF l = 2 := by unfold accF; rw [if_pos h, if_neg (by rw [hr]; decide)]
  exact ⟨this, if_neg (by rw [this]; decide)⟩
theorem accF_c {l : List Nat} (h : (accQ3 l).end ≠ 0) : accF l = (accQ3 l).end ∧ accRd l = acct0 := by
  have : accF l = (accQ3 l).end := by unfold accF; rw [if_neg h]
  exact ⟨this, if_neg (by rw [this]; exact h)⟩
theorem accF_zero {l : List Nat} (h : accF l = 0) : (accQ3 l).end = 0 ∧ rightS (accN l) = true := by
  by_cases h1 : (accQ3 l).end = 0
  · refine ⟨h1, ?_⟩
    cases hr : rightS (accN l) with
    | true => rfl
    | false => rw [(accF_b h1 hr).1] at h; cases h
  · rw [(accF_c h1).1] at h; exact absurd h h1
theorem accRd_ok {l : List Nat} (hB : Byt l) : (accRd l).Ok := by
  unfold accRd
  split
  · have hB1 : Byt (accQ1 l).l := Byt.textR (r := ⟨0, l⟩) hB 8
    refine ⟨?_, ?_, ?_⟩
    · simp only [toStr_size]
      have := text_bound (r := ⟨0, l⟩) (m := 8) hB
      simp only [maxLen]; omega
    · exact Rs.num_lt hB1 (Nat.le_refl 8)
    · exact Rs.num_lt (hB1.rtake 8) (Nat.le_refl 4)
  · exact ⟨by decide, by decide, by decide⟩
theorem Acct.wf {a : Acct} (h : a.Ok) : WfA a.cells := WfA.lit (l := [.string a.s, .int .u64 (a.bal : Int), .int .u32 (a.non : Int)]) ⟨h.s, wf_n64 h.bal, wf_n32 h.non, trivial⟩
theorem Acct.inj {a b : Acct} (h : a.cells = b.cells) : a = b := by
  obtain ⟨s, m, n⟩ := a
  obtain ⟨s', m', n'⟩ := b
  simp only [Acct.cells, Array.mk.injEq, List.cons.injEq, Value.string.injEq, Value.int.injEq, true_and, and_true] at h
  obtain ⟨rfl, h2, h3⟩ := h
  have : m = m' := by omega
  subst this
  have : n = n' := by omega
  subst this
  rfl
theorem Acct.eq_iff {s t : ByteArray} {m n p q : Nat} : (#[Value.string s, .int .u64 (m : Int), .int .u32 (n : Int)] = #[Value.string t, .int .u64 (p : Int), .int .u32 (q : Int)]) ↔ s = t ∧ m = p ∧ n = q := by
  constructor
  · intro h
    have := Acct.inj (a := ⟨s, m, n⟩) (b := ⟨t, p, q⟩) h
    simp only [Acct.mk.injEq] at this
    exact this
  · rintro ⟨rfl, rfl, rfl⟩; rfl
/-! ### there and back -/
theorem sB_right {s : ByteArray} (h : rightS s = true) : (sB s).length ≤ 8 := by rw [sB_length]; exact (right_spec h).2.1
theorem acc_read {s : ByteArray} {bal non : Nat} (h : rightS s = true) (hb : bal < 18446744073709551616) (hn : non < 4294967296) : accF (accB s bal non) = 0 ∧ accRd (accB s bal non) = ⟨s, bal, non⟩ := by
  have hl : accB s bal non = textW (sB s) ++ (putB bal 8 8 ++ putB non 4 4) := by rw [accB_yes h]; unfold accL; rw [List.append_assoc]
  have h1 := textR_appm (b := putB bal 8 8 ++ putB non 4 4) (sB_right h) (by decide : 8 ≤ 255)
  have q1 : accQ1 (accB s bal non) = ⟨0, putB bal 8 8 ++ putB non 4 4⟩ := by unfold accQ1; rw [hl, h1.1]
  have q2 : accQ2 (accB s bal non) = ⟨0, putB non 4 4⟩ := by
    show (accQ1 (accB s bal non)).take 8 = _
    rw [q1, (take_app (putB_length _ _ _)).1]
  have q3 : accQ3 (accB s bal non) = ⟨0, []⟩ := by
    show (accQ2 (accB s bal non)).take 4 = _
    rw [q2, take_app1 (putB_length _ _ _)]
  have n1 : accN (accB s bal non) = s := by unfold accN; rw [hl, h1.2, toStr_sB]
  have he : (accQ3 (accB s bal non)).end = 0 := by rw [q3]; rfl
  have := accF_a he (by rw [n1]; exact h)
  refine ⟨this.1, ?_⟩
  rw [this.2, n1, q1, q2, num_app (by omega), num_app1 (by omega)]
theorem acc_back {l : List Nat} (hB : Byt l) (h : accF l = 0) : rightS (accRd l).s = true ∧ accB (accRd l).s (accRd l).bal (accRd l).non = l := by
  obtain ⟨he, hr⟩ := accF_zero h
  have hd := (accF_a he hr).2
  rw [hd]
  refine ⟨hr, ?_⟩
  have hB1 : Byt (accQ1 l).l := Byt.textR (r := ⟨0, l⟩) hB 8
  obtain ⟨e3, l3⟩ := Rs.end_ok he
  have n3 := Rs.num_ok (hB1.rtake 8) e3
  have e2 := (Rs.take_ok e3).1
  have n2 := Rs.num_ok hB1 e2
  have e1 := (Rs.take_ok e2).1
  obtain ⟨_, t1, t2⟩ := Rs.text_ok (r := ⟨0, l⟩) hB (by decide) e1
  simp only
  rw [accB_yes hr]
  unfold accL
  rw [sB_toStr (Byt.text (r := ⟨0, l⟩) hB 8)]
  unfold textW
  rw [if_pos (by omega)]
  rw [l3, List.append_nil] at n3
  rw [← n3] at n2
  rw [← n2] at t2
  simp only [List.append_assoc] at t2 ⊢
  exact t2
theorem acc_inj {s t : ByteArray} {m n p q : Nat} (h : rightS s = true) (h' : rightS t = true) (hm : m < 18446744073709551616) (hn : n < 4294967296) (hp : p < 18446744073709551616) (hq : q < 4294967296) :
    (s = t ∧ m = p ∧ n = q) ↔ accB s m n = accB t p q := by
  constructor
  · rintro ⟨rfl, rfl, rfl⟩; rfl
  · intro e
    have h1 := (acc_read h hm hn).2
    rw [e, (acc_read h' hp hq).2] at h1
    simp only [Acct.mk.injEq] at h1
    exact ⟨h1.1.symm, h1.2.1.symm, h1.2.2.symm⟩
theorem accL_length {s : ByteArray} {bal non : Nat} (h : rightS s = true) : (accB s bal non).length = s.size + 13 := by
  have := right_spec h
  rw [accB_yes h]
  unfold accL textW
  rw [if_pos (by rw [sB_length]; omega)]
  simp only [List.length_append, putB_length, sB_length]
  omega
theorem acc_short {s : ByteArray} {bal non : Nat} (h : rightS s = true) : accF (((accB s bal non).drop 0).take ((accB s bal non).length - 1)) = 3 := by
  have hl : accB s bal non = textW (sB s) ++ (putB bal 8 8 ++ putB non 4 4) := by rw [accB_yes h]; unfold accL; rw [List.append_assoc]
  have hs := right_spec h
  have hw : (textW (sB s)).length = s.size + 1 := by
    unfold textW
    rw [if_pos (by rw [sB_length]; omega)]
    simp only [List.length_append, putB_length, sB_length]
    omega
  have hc : ((accB s bal non).drop 0).take ((accB s bal non).length - 1) = textW (sB s) ++ (putB bal 8 8 ++ (putB non 4 4).take 3) := by
    rw [accL_length h, List.drop_zero, hl, List.take_append, hw, List.take_of_length_le (by omega), List.take_append, putB_length, List.take_of_length_le (by rw [putB_length]; omega)]
    congr 3
    omega
  rw [hc]
  have h1 := textR_appm (b := putB bal 8 8 ++ (putB non 4 4).take 3) (sB_right h) (by decide : 8 ≤ 255)
  have q3 : accQ3 (textW (sB s) ++ (putB bal 8 8 ++ (putB non 4 4).take 3)) = ⟨3, []⟩ := by
    unfold accQ3
    rw [h1.1, (take_app (putB_length _ _ _)).1, take_cut (by rw [List.length_take, putB_length]; omega)]
  have he : (accQ3 (textW (sB s) ++ (putB bal 8 8 ++ (putB non 4 4).take 3))).end = 3 := by rw [q3]; rfl
  rw [(accF_c (by rw [he]; decide)).1, he]
theorem acc_long {s : ByteArray} {bal non : Nat} (h : rightS s = true) (b : Nat) : accF (accB s bal non ++ [b]) = 4 := by
  have hl : accB s bal non ++ [b] = textW (sB s) ++ (putB bal 8 8 ++ (putB non 4 4 ++ [b])) := by rw [accB_yes h]; unfold accL; simp only [List.append_assoc]
  rw [hl]
  have h1 := textR_appm (b := putB bal 8 8 ++ (putB non 4 4 ++ [b])) (sB_right h) (by decide : 8 ≤ 255)
  have q3 : accQ3 (textW (sB s) ++ (putB bal 8 8 ++ (putB non 4 4 ++ [b]))) = ⟨0, [b]⟩ := by
    unfold accQ3
    rw [h1.1, (take_app (putB_length _ _ _)).1, (take_app (putB_length _ _ _)).1]
  have he : (accQ3 (textW (sB s) ++ (putB bal 8 8 ++ (putB non 4 4 ++ [b])))).end = 4 := by rw [q3]; rfl
  rw [(accF_c (by rw [he]; decide)).1, he]
theorem acc_iff (s : ByteArray) : ((((accE s : Nat) : Int) == 0) == rightS s) = true := by
  unfold accE
  cases rightS s <;> rfl
end Go.Alm
