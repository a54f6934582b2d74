/- Layer 3, plainly: the image of a name and parts, and its digest; strings. -/
import Derived.Test.YtmnehhpfbmoahaaDoorBss
import Derived.Test.YtmnehhpfbmoahaaDoorShb
namespace Go.Alm
open Go Go.RowKit

/-- A string's bytes. -/
def sB (s : ByteArray) : List Nat := s.data.toList.map UInt8.toNat
theorem sB_length (s : ByteArray) : (sB s).length = s.size := by unfold sB; rw [List.length_map]; rfl
theorem sB_byt (s : ByteArray) : Byt (sB s) := fun x hx => by
  obtain ⟨u, _, rfl⟩ := List.mem_map.1 hx
  exact u.toNat_lt
theorem sB_cells (s : ByteArray) : byteCells s = B (sB s) := by
  simp [byteCells, sB, B]
/-- A part as it is written. -/
def partL (b : List Nat) : List Nat := putB b.length 4 4 ++ b
def partsL (ls : List BSl) : List Nat := ls.flatMap fun x => partL x.b
def headL (nm : List Nat) (n : Nat) : List Nat := nm.length :: nm ++ [n]
/-- The image; why there is none. -/
def imgBad (a n : Nat) : Prop := 255 < a ∨ 255 < n
instance (a n : Nat) : Decidable (imgBad a n) := by unfold imgBad; exact inferInstance
def imgE (a n : Nat) : Nat := if imgBad a n then 4 else 0
def imgL (nm : List Nat) (ls : List BSl) : List Nat := if imgBad nm.length ls.length then [] else headL nm ls.length ++ partsL ls
def tagL (nm : List Nat) (ls : List BSl) : List Nat := if imgBad nm.length ls.length then List.replicate 32 0 else shaL (imgL nm ls)
theorem tagL_length (nm : List Nat) (ls : List BSl) : (tagL nm ls).length = 32 := by
  unfold tagL; split
  · simp
  · exact shaL_length _
theorem tagL_byt (nm : List Nat) (ls : List BSl) : Byt (tagL nm ls) := by
  unfold tagL; split
  · intro x hx; have := List.eq_of_mem_replicate hx; omega
  · exact shaL_byt _
theorem imgL_ok {nm : List Nat} {ls : List BSl} (h : ¬ imgBad nm.length ls.length) : imgL nm ls = headL nm ls.length ++ partsL ls := if_neg h
theorem partL_length (b : List Nat) : (partL b).length = b.length + 4 := by simp [partL, putB_length]; omega
theorem partsL_snoc {ls : List BSl} {k : Nat} {x : BSl} (hx : ls[k]? = some x) : partsL (ls.take (k + 1)) = partsL (ls.take k) ++ partL x.b := by
  unfold partsL
  rw [List.take_add_one, hx]
  simp
theorem partsL_le (ls : List BSl) (k : Nat) : (partsL (ls.take k)).length ≤ (partsL ls).length := by
  have h : partsL ls = partsL (ls.take k) ++ partsL (ls.drop k) := by
    unfold partsL
    rw [← List.flatMap_append, List.take_append_drop]
  rw [h, List.length_append]
  omega
theorem headL_length (nm : List Nat) (n : Nat) : (headL nm n).length = nm.length + 2 := by simp [headL]
theorem imgL_le (nm : List Nat) (ls : List BSl) : (imgL nm ls).length ≤ 257 + (partsL ls).length := by
  unfold imgL
  by_cases h : imgBad nm.length ls.length
  · rw [if_pos h]; simp
  · rw [if_neg h, List.length_append, headL_length]; unfold imgBad at h; omega
theorem partsL_byt {ls : List BSl} (h : ∀ x ∈ ls, x.Ok) : Byt (partsL ls) := fun b hb => by
  obtain ⟨x, hx, hb⟩ := List.mem_flatMap.1 hb
  rcases List.mem_append.1 hb with h1 | h1
  · unfold putB at h1
    obtain ⟨i, _, rfl⟩ := List.mem_map.1 h1
    exact Nat.mod_lt _ (by decide)
  · exact (h x hx).b b h1
theorem imgL_byt {s : ByteArray} {ls : List BSl} (h : ∀ x ∈ ls, x.Ok) : Byt (imgL (sB s) ls) := by
  unfold imgL
  split
  · exact Byt.nil
  · rename_i hb
    unfold imgBad at hb
    refine Byt.cat ?_ (partsL_byt h)
    intro b hb'
    unfold headL at hb'
    rcases List.mem_append.1 hb' with h1 | h1
    · rcases List.mem_cons.1 h1 with h2 | h2
      · omega
      · exact sB_byt s b h2
    · rcases List.mem_cons.1 h1 with h2 | h2
      · omega
      · cases h2
theorem put_step4 {n k : Nat} (hk : k < 4) : IntKind.u8.wrap (Int.fdiv (n : Int) (2 ^ (min ((8 : Int) * ((3 - k : Nat) : Int)).toNat 64))) = ((n / 2 ^ (8 * (4 - 1 - k)) % 256 : Nat) : Int) := by
  have e1 : ((8 : Int) * ((3 - k : Nat) : Int)).toNat = 8 * (4 - 1 - k) := by omega
  have e2 : min (8 * (4 - 1 - k)) 64 = 8 * (4 - 1 - k) := by omega
  rw [e1, e2, wrap_u8]
  generalize 8 * (4 - 1 - k) = e
  have hp : ((2 : Int) ^ e) = ((2 ^ e : Nat) : Int) := by simp
  rw [hp, Int.fdiv_eq_ediv_of_nonneg _ (Int.natCast_nonneg _)]
  rfl
theorem four_L (n : Nat) : [n / 16777216 % 256, n / 65536 % 256, n / 256 % 256, n % 256] = putB n 4 4 := by
  simp [putB, List.range_succ]
section
variable {P : Program} {a : Act} {w : World} {o : Oper}
theorem run_index_str (t : Nat) (x i : Operand) (s : ByteArray) (kd : IntKind) (k : Nat) (ho : indexOf o.op = some (t, x, i)) (ht : P.underlying t = some .string) (hx : a.eval x = .string s) (hi : a.eval i = .int kd k) (hk : k < s.size) :
    (execOp a.eval o).run P w = .ok (.value (.int .u8 (((sB s).getD k 0 : Nat) : Int))) w := by
  unfold indexOf at ho
  split at ho
  · rename_i t' x' i' hop
    simp only [Option.some.injEq, Prod.mk.injEq] at ho
    obtain ⟨rfl, rfl, rfl⟩ := ho
    have hg : s[((k : Nat) : Int).toNat]? = some s[k] := by
      rw [Int.toNat_natCast]
      exact getElem?_pos s k hk
    have h0 : (0 : Int) ≤ (k : Int) := Int.natCast_nonneg k
    have hv : (s[k]).toNat = (sB s).getD k 0 := by
      have hk' : k < s.data.size := hk
      have hk2 : k < s.data.toList.length := by simpa using hk'
      unfold sB
      rw [List.getD_eq_getElem?_getD, List.getElem?_map, List.getElem?_eq_getElem hk2]
      rfl
    unfold execOp
    simp only [hop, hx, hi, Instr.index, asIntOf, Sem.run_bind, Sem.run_pure, Result.andThen_ok, run_underlying ht, if_pos h0, hg, hv]
  · cases ho
end
/-! ### rows of rows that are made here -/
theorem RowsAt.none (w : World) : RowsAt N0 w Option.none [] := ⟨Rd.nil _ _, fun _ h => (by cases h), Sub.nil, fun _ h => (by cases h), fun _ h => (by cases h), In.n0⟩
theorem RowsAt.one {w : World} {b t : Nat} {c : Array Value} {fz : Nat × Nat} {ao : Option Addr} {cap : Nat} {l : List Nat} {S : Nat → Prop} (hb : w.heap[b]? = some (.cells c t fz)) (hc : c = #[.slice ao l.length cap]) (hR : Rd w ao (B l)) (hS : Sub (Ar ao (B l)) S) (hi : In w S) (hB : Byt l) (hlc : l.length ≤ cap) (hcm : cap ≤ maxLen) :
    RowsAt (Or2 (One b) S) w (some ⟨b, 0, Option.none⟩) [⟨ao, cap, l⟩] := by
  subst hc
  refine ⟨?_, ?_, ?_, ?_, ?_, ?_⟩
  · have := Rd.of_blkN hb 0
    exact this
  · intro x hx; rw [List.mem_singleton.1 hx]; exact hR
  · rintro k ⟨_, ad, h, rfl⟩
    cases h
    exact .inl rfl
  · intro x hx; rw [List.mem_singleton.1 hx]; exact fun k hk => .inr (hS k hk)
  · intro x hx; rw [List.mem_singleton.1 hx]; exact ⟨hB, hlc, hcm⟩
  · intro k hk
    rcases hk with hk | hk
    · rw [hk]; exact lt_of_get hb
    · exact hi k hk
end Go.Alm

namespace Go.Alm
open Go Go.RowKit
theorem img_start (s : ByteArray) (ls : List BSl) (n : Nat) : #[Value.int .u8 (s.size : Int)].toList ++ byteCells s ++ #[Value.int .u8 (n : Int)].toList = B (headL (sB s) n ++ partsL (ls.take 0)) := by
  rw [sB_cells]
  unfold headL partsL
  rw [sB_length]
  simp [B]
theorem imgE_ne {a n : Nat} (h : ((imgE a n : Nat) : Int) ≠ 0) : imgBad a n := by
  unfold imgE at h
  split at h
  · assumption
  · exact absurd rfl h
theorem imgE_eq {a n : Nat} (h : ((imgE a n : Nat) : Int) = 0) : ¬ imgBad a n := by
  unfold imgE at h
  split at h
  · simp at h
  · assumption
end Go.Alm
