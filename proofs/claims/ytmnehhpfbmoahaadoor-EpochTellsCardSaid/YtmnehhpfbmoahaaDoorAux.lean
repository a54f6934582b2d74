/- Small helps for printed walks. -/
import Derived.Test.YtmnehhpfbmoahaaDoorSl
namespace Go.Alm
open Go Go.RowKit

section
variable {Q : Exit → Act → World → Prop} {K : Act → World → Prop} {a : Act} {w : World}
theorem then_n (h : K a w) : Exit.then K Q .normal a w := h
theorem then_r (h : Q .ret a w) : Exit.then K Q .ret a w := h
theorem then_e {id : Nat} (h : Q (.exit id) a w) : Exit.then K Q (.exit id) a w := h
theorem blk_n {id : Nat} (h : Q .normal a w) : Exit.inBlock id Q .normal a w := h
theorem blk_r {id : Nat} (h : Q .ret a w) : Exit.inBlock id Q .ret a w := h
theorem blk_hit {id : Nat} (h : Q .normal a w) : Exit.inBlock id Q (.exit id) a w := by simp [Exit.inBlock, h]
theorem blk_miss {id id' : Nat} (hn : Nat.beq id' id = false) (h : Q (.exit id') a w) : Exit.inBlock id Q (.exit id') a w := by
  have : id' ≠ id := fun e => by subst e; simp at hn
  simp [Exit.inBlock, this, h]
end

/-- How far a counter is from its end. -/
def cnt (N s : Nat) (a : Act) : Nat := N - (intOf (a.eval (.tmp s))).toNat
theorem cnt_lt {N s : Nat} {a a' : Act} (k k' : Int) (h : a.eval (.tmp s) = .int .i64 k) (h' : a'.eval (.tmp s) = .int .i64 k') (h0 : k.toNat < N) (h1 : k.toNat < k'.toNat) : cnt N s a' < cnt N s a := by
  unfold cnt
  rw [h, h']
  simp only [intOf]
  omega

theorem wrapN_i64 {x : Int} (h1 : -9223372036854775808 ≤ x) (h2 : x ≤ 9223372036854775807) : IntKind.i64.wrap x = x := IntWalk.i64_in x ⟨h1, h2⟩
theorem wrapN_u8 {x : Int} (h1 : 0 ≤ x) (h2 : x < 256) : IntKind.u8.wrap x = x := by rw [IntKind.wrap_u8' x]; omega
theorem wrapN_u32 {x : Int} (h1 : 0 ≤ x) (h2 : x < 4294967296) : IntKind.u32.wrap x = x := by rw [IntKind.wrap_u32' x]; omega
theorem wrapN_u64 {x : Int} (h1 : 0 ≤ x) (h2 : x < 18446744073709551616) : IntKind.u64.wrap x = x := by
  rw [show IntKind.u64.wrap x = x % 18446744073709551616 from by simp [IntKind.wrap, IntKind.bits, IntKind.signed]]
  omega
theorem wrap_u8 (x : Int) : IntKind.u8.wrap x = x % 256 := IntKind.wrap_u8' x
theorem wrap_u32 (x : Int) : IntKind.u32.wrap x = x % 4294967296 := IntKind.wrap_u32' x
theorem wrap_u64 (x : Int) : IntKind.u64.wrap x = x % 18446744073709551616 := by simp [IntKind.wrap, IntKind.bits, IntKind.signed]

section
variable {P : Program} {Q : Exit → Act → World → Prop} {a : Act} {w : World} {o : Oper}

/-- An index into a slice or behind an array's address. -/
def idxAOf : Op → Option (Nat × Operand × Operand)
  | .indexAddr t x i => some (t, x, i)
  | _ => none
def elemSz (P : Program) (t : Nat) : Option Nat := match P.underlying t with
  | some (.slice e) => sizeT P e
  | some (.array _ e) => sizeT P e
  | _ => none
def isSl (P : Program) (t : Nat) : Bool := match P.underlying t with | some (.slice _) => true | _ => false
def arrLen (P : Program) (t : Nat) : Option Nat := match P.underlying t with | some (.array n _) => some n | _ => none

theorem run_idx_sl (t : Nat) (x i : Operand) (sz : Nat) (ad : Addr) (n c : Nat) (kd : IntKind) (k : Nat) (ho : idxAOf o.op = some (t, x, i)) (hs : isSl P t = true) (hz : elemSz P t = some sz)
    (hx : a.eval x = .slice (some ad) n c) (hi : a.eval i = .int kd k) (hk : k < n) : (execOp a.eval o).run P w = .ok (.value (.pointer (some (ad.add (k * sz))))) w := by
  unfold idxAOf at ho
  split at ho
  · rename_i t' x' i' hop
    simp only [Option.some.injEq, Prod.mk.injEq] at ho
    obtain ⟨rfl, rfl, rfl⟩ := ho
    unfold isSl at hs
    split at hs
    · rename_i e ht
      have hz' : sizeT P e = some sz := by unfold elemSz at hz; rw [ht] at hz; exact hz
      have hk' : (k : Int) < (n : Int) := by omega
      unfold execOp
      simp [hop, hx, hi, Instr.indexAt, asIntOf, run_underlying ht, hk', run_sizeOf hz']
      intro hge; omega
    · cases hs
  · cases ho

theorem run_idx_arr (t : Nat) (x i : Operand) (sz b off n : Nat) (kd : IntKind) (k : Nat) (ho : idxAOf o.op = some (t, x, i)) (hn : arrLen P t = some n) (hz : elemSz P t = some sz)
    (hx : a.eval x = .pointer (some ⟨b, off, none⟩)) (hi : a.eval i = .int kd k) (hk : k < n) : (execOp a.eval o).run P w = .ok (.value (.pointer (some ⟨b, off + k * sz, none⟩))) w := by
  unfold idxAOf at ho
  split at ho
  · rename_i t' x' i' hop
    simp only [Option.some.injEq, Prod.mk.injEq] at ho
    obtain ⟨rfl, rfl, rfl⟩ := ho
    unfold arrLen at hn
    split at hn
    · rename_i m e ht
      simp only [Option.some.injEq] at hn
      subst hn
      have hz' : sizeT P e = some sz := by unfold elemSz at hz; rw [ht] at hz; exact hz
      have hk' : (k : Int) < (m : Int) := by omega
      have hadd : (⟨b, off, none⟩ : Addr).add (k * sz) = ⟨b, off + k * sz, none⟩ := by unfold Addr.add; split <;> simp_all
      unfold execOp
      simp [hop, hx, hi, Instr.indexAt, Instr.sureAddr, asIntOf, run_underlying ht, hk', run_sizeOf hz', hadd]
      intro hge; omega
    · cases hn
  · cases ho
end
end Go.Alm

namespace Go.Alm
open Go Go.RowKit
section
variable {P : Program} {Q : Exit → Act → World → Prop} {a : Act} {w : World} {o : Oper}
theorem Rd.of_blk {w : World} {b t : Nat} {c : Array Value} {fz : Nat × Nat} (hb : w.heap[b]? = some (.cells c t fz)) : Rd w (some ⟨b, 0, none⟩) c.toList := fun j u hj => by
  refine ⟨_, rfl, ?_⟩
  have hadd : (⟨b, 0, none⟩ : Addr).add j = ⟨b, j, none⟩ := by unfold Addr.add; split <;> simp_all
  rw [hadd, cell_of_row w b j c t fz hb]
  simpa using hj
theorem Rd.of_blkN {w : World} {b t : Nat} {c : Array Value} {fz : Nat × Nat} (hb : w.heap[b]? = some (.cells c t fz)) (off : Nat) : Rd w (some ⟨b, off, none⟩) (c.toList.drop off) := fun j u hj => by
  refine ⟨_, rfl, ?_⟩
  have hadd : (⟨b, off, none⟩ : Addr).add j = ⟨b, off + j, none⟩ := by unfold Addr.add; split <;> simp_all
  rw [hadd, cell_of_row w b (off + j) c t fz hb]
  rw [List.getElem?_drop] at hj
  simpa using hj

theorem Rd.of_cut {w : World} {b t : Nat} {c : Array Value} {fz : Nat × Nat} (hb : w.heap[b]? = some (.cells c t fz)) (off n : Nat) {xs : List Value} (hx : (c.toList.drop off).take n = xs) : Rd w (some ⟨b, off, none⟩) xs := hx ▸ (Rd.of_blkN hb off).take n
def binOf : Op → Option (BinOp × Operand × Operand)
  | .binOp b _ x y _ => some (b, x, y)
  | _ => none
theorem run_shr (x y : Operand) {k k' : IntKind} (A B : Int) (ho : binOf o.op = some (.shr, x, y)) (hx : a.eval x = .int k A) (hy : a.eval y = .int k' B) (hB : 0 ≤ B) :
    (execOp a.eval o).run P w = .ok (.value (.int k (A.fdiv (2 ^ (min B.toNat k.bits))))) w := by
  unfold binOf at ho
  split at ho
  · rename_i b t x' y' u hop
    simp only [Option.some.injEq, Prod.mk.injEq] at ho
    obtain ⟨rfl, rfl, rfl⟩ := ho
    have hn : ¬ B < 0 := by omega
    unfold execOp
    simp [hop, hx, hy, eqGuard, binOp, Op.shift, hn]
  · cases ho
theorem run_shl (x y : Operand) {k k' : IntKind} (A B : Int) (ho : binOf o.op = some (.shl, x, y)) (hx : a.eval x = .int k A) (hy : a.eval y = .int k' B) (hB : 0 ≤ B) :
    (execOp a.eval o).run P w = .ok (.value (.int k (k.wrap (A * 2 ^ (min B.toNat k.bits))))) w := by
  unfold binOf at ho
  split at ho
  · rename_i b t x' y' u hop
    simp only [Option.some.injEq, Prod.mk.injEq] at ho
    obtain ⟨rfl, rfl, rfl⟩ := ho
    have hn : ¬ B < 0 := by omega
    unfold execOp
    simp [hop, hx, hy, eqGuard, binOp, Op.shift, hn]
  · cases ho
end

theorem rem_nat (m d : Nat) : (m : Int).tmod (d : Int) = ((m % d : Nat) : Int) := (Int.ofNat_tmod m d).symm
theorem quo_u64 {m d : Nat} (h : m < 18446744073709551616) : IntKind.u64.wrap ((m : Int).tdiv (d : Int)) = ((m / d : Nat) : Int) := by
  rw [← Int.ofNat_tdiv]
  exact wrapN_u64 (Int.natCast_nonneg _) (by have := Nat.div_le_self m d; omega)
theorem quo_u32 {m d : Nat} (h : m < 4294967296) : IntKind.u32.wrap ((m : Int).tdiv (d : Int)) = ((m / d : Nat) : Int) := by
  rw [← Int.ofNat_tdiv]
  exact wrapN_u32 (Int.natCast_nonneg _) (by have := Nat.div_le_self m d; omega)
theorem quo_i64 {m d : Nat} (h : m < 9223372036854775808) : IntKind.i64.wrap ((m : Int).tdiv (d : Int)) = ((m / d : Nat) : Int) := by
  rw [← Int.ofNat_tdiv]
  exact wrapN_i64 (Int.le_trans (by decide) (Int.natCast_nonneg _)) (by have := Nat.div_le_self m d; omega)

theorem ones {l : List Value} (h : (l.all fun u => u.oneCell') = true) : ∀ u ∈ l, u.oneCell' = true := fun u hu => List.all_eq_true.1 h u hu

/-! ### bytes -/
/-- A digest's cells. -/
def hv (l : List Nat) : Array Value := ((List.range 32).map fun i => Value.int .u8 ((l.getD i 0 : Nat) : Int)).toArray
/-- Bytes as cells. -/
def B (l : List Nat) : List Value := l.map fun (n : Nat) => .int .u8 (n : Int)
theorem B_append (l m : List Nat) : B (l ++ m) = B l ++ B m := by simp [B]
theorem B_length (l : List Nat) : (B l).length = l.length := by simp [B]
theorem B_one {l : List Nat} : ∀ u ∈ B l, u.oneCell' = true := by
  intro u hu
  obtain ⟨n, _, rfl⟩ := List.mem_map.1 hu
  rfl
theorem B_get (l : List Nat) (j : Nat) (h : j < l.length) : (B l)[j]? = some (.int .u8 (l[j] : Nat)) := by simp [B, h]
theorem hv_B {l : List Nat} (h : l.length = 32) : (hv l).toList = B l := by
  unfold hv B
  apply List.ext_getElem
  · simp [h]
  · intro i h1 h2
    simp only [List.toList_toArray, List.length_map, List.length_range] at h1
    simp [show i < l.length by omega]
theorem Row.bytes {w : World} {e n : Nat} {v : Value} {l : List Nat} (h : Row w e 1 v n (B l)) : n = l.length := by have := h.length; simp [B_length] at this; omega
end Go.Alm
