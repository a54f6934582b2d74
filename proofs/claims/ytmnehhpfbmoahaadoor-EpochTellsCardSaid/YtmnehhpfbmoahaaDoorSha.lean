/- The digest, plainly; what its walks need of numbers of 32 bits. -/
import Derived.Test.YtmnehhpfbmoahaaDoorEqs
namespace Go.Alm
open Go Go.RowKit

abbrev W32 := BitVec 32

/-! ### operations -/
theorem toNat_cast (a : W32) : BitVec.ofInt 32 (a.toNat : Int) = a := by
  rw [BitVec.ofInt_natCast]
  apply BitVec.eq_of_toNat_eq
  rw [BitVec.toNat_ofNat]
  have := a.isLt
  omega
theorem wrap_toNat (a : W32) : IntKind.u32.wrap (a.toNat : Int) = (a.toNat : Int) := wrapN_u32 (by omega) (by have := a.isLt; omega)
theorem bv_and (a b : W32) : IntKind.u32.wrap ((BitVec.ofInt 32 (a.toNat : Int) &&& BitVec.ofInt 32 (b.toNat : Int)).toNat : Int) = ((a &&& b).toNat : Int) := by rw [toNat_cast, toNat_cast, wrap_toNat]
theorem bv_or (a b : W32) : IntKind.u32.wrap ((BitVec.ofInt 32 (a.toNat : Int) ||| BitVec.ofInt 32 (b.toNat : Int)).toNat : Int) = ((a ||| b).toNat : Int) := by rw [toNat_cast, toNat_cast, wrap_toNat]
theorem bv_xor (a b : W32) : IntKind.u32.wrap ((BitVec.ofInt 32 (a.toNat : Int) ^^^ BitVec.ofInt 32 (b.toNat : Int)).toNat : Int) = ((a ^^^ b).toNat : Int) := by rw [toNat_cast, toNat_cast, wrap_toNat]
theorem bv_not (a : W32) : IntKind.u32.wrap ((BitVec.ofInt 32 4294967295 ^^^ BitVec.ofInt 32 (a.toNat : Int)).toNat : Int) = ((~~~a).toNat : Int) := by
  have e : BitVec.ofInt 32 4294967295 = BitVec.allOnes 32 := by decide
  rw [toNat_cast, e, BitVec.allOnes_xor, wrap_toNat]
theorem bv_add (a b : W32) : IntKind.u32.wrap ((a.toNat : Int) + (b.toNat : Int)) = ((a + b).toNat : Int) := by
  rw [wrap_u32, BitVec.toNat_add]; omega
theorem bv_sub (a b : W32) : IntKind.u32.wrap ((a.toNat : Int) - (b.toNat : Int)) = ((a - b).toNat : Int) := by
  have := a.isLt; have := b.isLt
  rw [wrap_u32, BitVec.toNat_sub]; omega
theorem bv_shr (a : W32) (n : Nat) : Int.fdiv (a.toNat : Int) (2 ^ n) = ((a >>> n).toNat : Int) := by
  rw [Int.fdiv_eq_ediv_of_nonneg _ (by exact Int.le_of_lt (Int.pow_pos (by decide))), BitVec.toNat_ushiftRight, Nat.shiftRight_eq_div_pow]
  simp
theorem bv_shl (a : W32) (n : Nat) : IntKind.u32.wrap ((a.toNat : Int) * 2 ^ n) = ((a <<< n).toNat : Int) := by
  rw [wrap_u32, BitVec.toNat_shiftLeft, Nat.shiftLeft_eq]
  simp

/-! ### the digest -/
def turn (x : W32) (k : Nat) : W32 := x >>> k ||| x <<< ((32 - k) % 32)
def sg (x : W32) (a b c : Nat) : W32 := turn x a ^^^ turn x b ^^^ turn x c
def sh (x : W32) (a b c : Nat) : W32 := turn x a ^^^ turn x b ^^^ x >>> c
/-- A block's number. -/
def wd (q : List Nat) (t : Nat) : W32 := BitVec.ofNat 32 (num ((q.drop (4 * t)).take 4))
def wnx (w : List W32) (t : Nat) : W32 := sh (w.getD (t - 2) 0) 17 19 10 + w.getD (t - 7) 0 + sh (w.getD (t - 15) 0) 7 18 3 + w.getD (t - 16) 0
def wS (q : List Nat) : Nat → List W32
  | 0 => List.replicate 64 0
  | t + 1 => (wS q t).set t (if t < 16 then wd q t else wnx (wS q t) t)
def KL : List W32 := [0x428a2f98, 0x71374491, 0xb5c0fbcf, 0xe9b5dba5, 0x3956c25b, 0x59f111f1, 0x923f82a4, 0xab1c5ed5, 0xd807aa98, 0x12835b01, 0x243185be, 0x550c7dc3, 0x72be5d74, 0x80deb1fe, 0x9bdc06a7, 0xc19bf174,
  0xe49b69c1, 0xefbe4786, 0x0fc19dc6, 0x240ca1cc, 0x2de92c6f, 0x4a7484aa, 0x5cb0a9dc, 0x76f988da, 0x983e5152, 0xa831c66d, 0xb00327c8, 0xbf597fc7, 0xc6e00bf3, 0xd5a79147, 0x06ca6351, 0x14292967,
  0x27b70a85, 0x2e1b2138, 0x4d2c6dfc, 0x53380d13, 0x650a7354, 0x766a0abb, 0x81c2c92e, 0x92722c85, 0xa2bfe8a1, 0xa81a664b, 0xc24b8b70, 0xc76c51a3, 0xd192e819, 0xd6990624, 0xf40e3585, 0x106aa070,
  0x19a4c116, 0x1e376c08, 0x2748774c, 0x34b0bcb5, 0x391c0cb3, 0x4ed8aa4a, 0x5b9cca4f, 0x682e6ff3, 0x748f82ee, 0x78a5636f, 0x84c87814, 0x8cc70208, 0x90befffa, 0xa4506ceb, 0xbef9a3f7, 0xc67178f2]
def IL : List W32 := [0x6a09e667, 0xbb67ae85, 0x3c6ef372, 0xa54ff53a, 0x510e527f, 0x9b05688c, 0x1f83d9ab, 0x5be0cd19]
def chs (S : List W32) : W32 := S.getD 4 0 &&& S.getD 5 0 ^^^ ~~~S.getD 4 0 &&& S.getD 6 0
def maj (S : List W32) : W32 := S.getD 0 0 &&& S.getD 1 0 ^^^ S.getD 0 0 &&& S.getD 2 0 ^^^ S.getD 1 0 &&& S.getD 2 0
def one (W S : List W32) (t : Nat) : W32 := S.getD 7 0 + sg (S.getD 4 0) 6 11 25 + chs S + KL.getD t 0 + W.getD t 0
def two (S : List W32) : W32 := sg (S.getD 0 0) 2 13 22 + maj S
def rd1 (W S : List W32) (t : Nat) : List W32 := [one W S t + two S, S.getD 0 0, S.getD 1 0, S.getD 2 0, S.getD 3 0 + one W S t, S.getD 4 0, S.getD 5 0, S.getD 6 0]
def rdN (W S : List W32) : Nat → List W32
  | 0 => S
  | t + 1 => rd1 W (rdN W S t) t
/-- The first of a list's numbers with another one's added. -/
def addN (S R : List W32) (k : Nat) : List W32 := (List.range 8).map fun i => if i < k then S.getD i 0 + R.getD i 0 else S.getD i 0
def compress (S : List W32) (q : List Nat) : List W32 := addN S (rdN (wS q 64) S 64) 8

/-! ### arrays of numbers -/
def hw (l : List W32) : Array Value := ((List.range 64).map fun i => Value.int .u32 ((l.getD i 0).toNat : Int)).toArray
def hw8 (l : List W32) : Array Value := #[.int .u32 ((l.getD 0 0).toNat : Int), .int .u32 ((l.getD 1 0).toNat : Int), .int .u32 ((l.getD 2 0).toNat : Int), .int .u32 ((l.getD 3 0).toNat : Int), .int .u32 ((l.getD 4 0).toNat : Int), .int .u32 ((l.getD 5 0).toNat : Int), .int .u32 ((l.getD 6 0).toNat : Int), .int .u32 ((l.getD 7 0).toNat : Int)]
def hq (l : List Nat) : Array Value := ((List.range 64).map fun i => Value.int .u8 ((l.getD i 0 : Nat) : Int)).toArray
/-- A hasher's cells. -/
def hsC (S : List W32) (q : List Nat) (n : Nat) : Array Value := hw8 S ++ hq q ++ #[.int .u64 (n : Int)]
theorem hw8_eq (l : List W32) : hw8 l = ((List.range 8).map fun i => Value.int .u32 ((l.getD i 0).toNat : Int)).toArray := rfl
theorem hw_get (l : List W32) (k : Nat) (h : k < 64) : (hw l)[0 + k * 1]? = some (.int .u32 ((l.getD k 0).toNat : Int)) := by simp [hw, h]
theorem hw8_get (l : List W32) (k : Nat) (h : k < 8) : (hw8 l)[0 + k * 1]? = some (.int .u32 ((l.getD k 0).toNat : Int)) := by simp [hw8_eq, h]
theorem get_app {a b : Array Value} {k n : Nat} {v : Value} (hs : a.size = n) (hk : k < n) (h : a[0 + k * 1]? = some v) : (a ++ b)[0 + k * 1]? = some v := by
  rw [Array.getElem?_append_left (by omega)]; exact h
theorem spl_map {n k : Nat} {f g : Nat → Value} (hk : k < n) (v : Value) (hv : v = g k) (he : ∀ i, i < n → i ≠ k → g i = f i) :
    spl ((List.range n).map f).toArray (0 + k * 1) #[v] = ((List.range n).map g).toArray := by
  subst hv
  unfold spl
  have e0 : 0 + k * 1 = k := by omega
  have hl : ((List.range n).map f).length = n := by simp
  have e1 : ((List.range n).map f).toArray.toList.take (0 + k * 1) ++ #[g k].toList ++ ((List.range n).map f).toArray.toList.drop (0 + k * 1 + #[g k].size) = ((List.range n).map f).set k (g k) := by
    rw [e0, List.set_eq_take_append_cons_drop, if_pos (by rw [hl]; exact hk)]
    simp
  rw [e1]
  congr 1
  apply List.ext_getElem?
  intro i
  by_cases hi : i < n
  · by_cases hik : i = k
    · subst hik; simp [hi]
    · rw [List.getElem?_set_ne (fun e => hik e.symm)]; simp [hi, he i hi hik]
  · rw [List.getElem?_eq_none (by simpa using hi), List.getElem?_eq_none (by simpa using hi)]
theorem spl_app {a b c : Array Value} {k n : Nat} {v : Value} (hs : a.size = n) (hk : k < n) (h : spl a (0 + k * 1) #[v] = c) : spl (a ++ b) (0 + k * 1) #[v] = c ++ b := by
  subst h
  unfold spl
  apply Array.toList_inj.1
  have e0 : 0 + k * 1 = k := by omega
  have hk' : k < a.toList.length := by simp; omega
  simp only [Array.toList_append, e0]
  rw [List.take_append_of_le_length (by omega), List.drop_append_of_le_length (by simp; omega)]
  simp
theorem wS_length (q : List Nat) : ∀ t, (wS q t).length = 64
  | 0 => by simp [wS]
  | t + 1 => by rw [wS, List.length_set]; exact wS_length q t
theorem getD_set {l : List W32} {k i : Nat} {x : W32} (hk : k < l.length) : (l.set k x).getD i 0 = if i = k then x else l.getD i 0 := by
  simp only [List.getD_eq_getElem?_getD, List.getElem?_set]
  by_cases h : k = i
  · subst h; simp [hk]
  · rw [if_neg h, if_neg (fun e => h e.symm)]
theorem hw_set {l : List W32} {k : Nat} {x : W32} (hl : l.length = 64) (hk : k < 64) : spl (hw l) (0 + k * 1) #[.int .u32 (x.toNat : Int)] = hw (l.set k x) :=
  spl_map hk _ (by rw [getD_set (by omega), if_pos rfl]) fun i _ h => by rw [getD_set (by omega), if_neg h]
theorem addN_get {S R : List W32} {k i : Nat} (h : i < 8) : (addN S R k).getD i 0 = if i < k then S.getD i 0 + R.getD i 0 else S.getD i 0 := by
  unfold addN
  simp [h]
theorem hw8_add {S R : List W32} {k : Nat} (hk : k < 8) : spl (hw8 (addN S R k)) (0 + k * 1) #[.int .u32 ((((addN S R k).getD k 0) + R.getD k 0).toNat : Int)] = hw8 (addN S R (k + 1)) := by
  rw [hw8_eq, hw8_eq]
  refine spl_map hk _ ?_ fun i hi h => ?_
  · rw [addN_get hk, addN_get hk, if_neg (by omega), if_pos (by omega)]
  · rw [addN_get hi, addN_get hi]
    by_cases h1 : i < k
    · rw [if_pos h1, if_pos (by omega)]
    · rw [if_neg h1, if_neg (by omega)]

/-! ### a block's numbers -/
theorem wd_step {q : List Nat} (hB : Byt q) {t k : Nat} (hk : k < 4) (hq : 4 * t + 4 ≤ q.length) :
    BitVec.ofNat 32 (num (((q.drop (4 * t)).take 4).take k)) <<< 8 ||| BitVec.ofNat 32 (((q.drop (4 * t)).take 4).getD k 0) = BitVec.ofNat 32 (num (((q.drop (4 * t)).take 4).take (k + 1))) := by
  have hb : Byt ((q.drop (4 * t)).take 4) := (hB.drop _).take 4
  have hlen : ((q.drop (4 * t)).take 4).length = 4 := by rw [List.length_take, List.length_drop]; omega
  generalize (q.drop (4 * t)).take 4 = p at hb hlen ⊢
  have h1 := num_take_lt hb (k := k) (N := 3) (by omega)
  have h2 := getD_lt hb k
  apply BitVec.eq_of_toNat_eq
  rw [BitVec.toNat_or, BitVec.toNat_shiftLeft, BitVec.toNat_ofNat, BitVec.toNat_ofNat, BitVec.toNat_ofNat, take_snoc p k (by omega), num_snoc]
  have e1 : num (p.take k) % 2 ^ 32 = num (p.take k) := Nat.mod_eq_of_lt (by omega)
  have e2 : p.getD k 0 % 2 ^ 32 = p.getD k 0 := Nat.mod_eq_of_lt (by omega)
  have e3 : num (p.take k) <<< 8 % 2 ^ 32 = num (p.take k) <<< 8 := Nat.mod_eq_of_lt (by rw [Nat.shiftLeft_eq]; omega)
  rw [e1, e2, e3, ← Nat.shiftLeft_add_eq_or_of_lt (by omega), Nat.shiftLeft_eq]
  omega
theorem conv_u32 {c : Nat} (h : c < 256) : IntKind.u32.wrap ((c : Nat) : Int) = ((BitVec.ofNat 32 c).toNat : Int) := by
  rw [wrapN_u32 (by omega) (by omega), BitVec.toNat_ofNat]
  omega
theorem and31 {k : Nat} (h : k < 32) : IntKind.i64.wrap ((BitVec.ofInt 64 (k : Int) &&& BitVec.ofInt 64 (31 : Int)).toNat : Int) = (k : Int) := by
  have e : (BitVec.ofInt 64 (k : Int) &&& BitVec.ofInt 64 (31 : Int)).toNat = k := by
    rw [BitVec.toNat_and, BitVec.ofInt_natCast, BitVec.toNat_ofNat]
    have e2 : (BitVec.ofInt 64 (31 : Int)).toNat = 2 ^ 5 - 1 := by decide
    rw [e2, Nat.and_two_pow_sub_one_eq_mod]
    omega
  rw [e]
  exact wrapN_i64 (by omega) (by omega)
theorem and31' {k : Nat} (h : k < 32) : IntKind.i64.wrap ((BitVec.ofInt 64 ((32 : Int) - (k : Int)) &&& BitVec.ofInt 64 (31 : Int)).toNat : Int) = (((32 - k) % 32 : Nat) : Int) := by
  have e0 : (32 : Int) - (k : Int) = ((32 - k : Nat) : Int) := by omega
  have e : (BitVec.ofInt 64 ((32 - k : Nat) : Int) &&& BitVec.ofInt 64 (31 : Int)).toNat = (32 - k) % 32 := by
    rw [BitVec.toNat_and, BitVec.ofInt_natCast, BitVec.toNat_ofNat]
    have e2 : (BitVec.ofInt 64 (31 : Int)).toNat = 2 ^ 5 - 1 := by decide
    rw [e2, Nat.and_two_pow_sub_one_eq_mod]
    omega
  rw [e0, e]
  exact wrapN_i64 (by omega) (by omega)
theorem shr_turn (x : W32) {k : Nat} (h : k < 32) : Int.fdiv (x.toNat : Int) (2 ^ (min ((k : Int)).toNat 32)) = ((x >>> k).toNat : Int) := by
  rw [show min ((k : Int)).toNat 32 = k from by omega]
  exact bv_shr x k
theorem shl_turn (x : W32) {k : Nat} (h : k < 32) : IntKind.u32.wrap ((x.toNat : Int) * 2 ^ (min ((k : Nat) : Int).toNat 32)) = ((x <<< k).toNat : Int) := by
  rw [show min ((k : Int)).toNat 32 = k from by omega]
  exact bv_shl x k

/-! ### what was taken -/
def stN (l : List Nat) : Nat → List W32
  | 0 => IL
  | j + 1 => compress (stN l j) ((l.drop (64 * j)).take 64)
def stL (l : List Nat) : List W32 := stN l (l.length / 64)
/-- The bytes that are no block yet. -/
def tailL (l : List Nat) : List Nat := l.drop (64 * (l.length / 64))
theorem stN_app (l x : List Nat) : ∀ j, 64 * j ≤ l.length → stN (l ++ x) j = stN l j
  | 0, _ => rfl
  | j + 1, h => by
    rw [stN, stN, stN_app l x j (by omega), List.drop_append_of_le_length (by omega), List.take_append_of_le_length (by rw [List.length_drop]; omega)]
theorem tailL_length (l : List Nat) : (tailL l).length = l.length % 64 := by unfold tailL; rw [List.length_drop]; omega
theorem stL_lt {l x : List Nat} (h : l.length % 64 + x.length < 64) : stL (l ++ x) = stL l ∧ tailL (l ++ x) = tailL l ++ x := by
  have e : (l ++ x).length / 64 = l.length / 64 := by rw [List.length_append]; omega
  unfold stL tailL
  rw [e]
  exact ⟨stN_app l x _ (by omega), List.drop_append_of_le_length (by omega)⟩
theorem stL_full {l x : List Nat} (h : l.length % 64 + x.length = 64) : stL (l ++ x) = compress (stL l) (tailL l ++ x) ∧ tailL (l ++ x) = [] := by
  have e : (l ++ x).length / 64 = l.length / 64 + 1 := by rw [List.length_append]; omega
  constructor
  · unfold stL
    rw [e, stN, stN_app l x _ (by omega), List.drop_append_of_le_length (by omega)]
    unfold tailL
    rw [List.take_of_length_le (by rw [List.length_append, List.length_drop]; omega)]
  · unfold tailL
    rw [e]
    exact List.drop_eq_nil_of_le (by rw [List.length_append]; omega)
/-- A hasher: its block. -/
structure HsAt (tH : Nat) (w : World) (b : Nat) (l q : List Nat) : Prop where
  blk : w.heap[b]? = some (.cells (hsC (stL l) q l.length) tH (0, 0))
  len : q.length = 64
  byt : Byt q
  tail : q.take (l.length % 64) = tailL l
theorem HsAt.keep {tH : Nat} {w w' : World} {b : Nat} {l q : List Nat} {S : Nat → Prop} (h : HsAt tH w b l q) (F : Fr w w' S) (d : Dis (One b) S) : HsAt tH w' b l q := ⟨F.keep h.blk d, h.len, h.byt, h.tail⟩
theorem HsAt.in {tH : Nat} {w : World} {b : Nat} {l q : List Nat} (h : HsAt tH w b l q) : In w (One b) := In.one h.blk

/-! ### what stands behind -/
def padL (n : Nat) : List Nat := 128 :: List.replicate ((119 - n % 64) % 64) 0 ++ putB (8 * n) 8 8
def outB (S : List W32) : List Nat := (List.range 32).map fun i => (S.getD (i / 4) 0 >>> (8 * (3 - i % 4))).toNat % 256
def shaL (l : List Nat) : List Nat := outB (stL (l ++ padL l.length))
theorem shaL_length (l : List Nat) : (shaL l).length = 32 := by simp [shaL, outB]
theorem outB_byt (S : List W32) : Byt (outB S) := fun x hx => by
  obtain ⟨i, _, rfl⟩ := List.mem_map.1 hx
  exact Nat.mod_lt _ (by decide)
theorem shaL_byt (l : List Nat) : Byt (shaL l) := outB_byt _
theorem padL_length (n : Nat) : (padL n).length ≤ 72 := by simp [padL, putB_length]; omega

/-! ### the reference's ways -/
def rot1 (n : W32) : W32 := BitVec.ofNat 32 (n.toNat / 2 + 2147483648 * (n.toNat % 2))
def rotN (x : W32) : Nat → W32
  | 0 => x
  | k + 1 => rot1 (rotN x k)
theorem rot1_bit (n : W32) (j : Nat) (h : j < 32) : (rot1 n).getLsbD j = n.getLsbD ((j + 1) % 32) := by
  have hn := n.isLt
  unfold rot1
  rw [BitVec.getLsbD_ofNat, decide_eq_true h, Bool.true_and]
  have e : n.toNat / 2 + 2147483648 * (n.toNat % 2) = 2 ^ 31 * (n.toNat % 2) + n.toNat / 2 := by omega
  rw [e, Nat.testBit_two_pow_mul_add _ (by omega)]
  split
  · rename_i h1
    rw [Nat.testBit_div_two, Nat.mod_eq_of_lt (by omega)]
    rfl
  · rename_i h1
    have : j = 31 := by omega
    subst this
    have e2 : n.toNat % 2 = n.toNat % 2 ^ 1 := rfl
    rw [e2, Nat.testBit_mod_two_pow]
    rfl
theorem rotN_bit (x : W32) : ∀ (k j : Nat), j < 32 → (rotN x k).getLsbD j = x.getLsbD ((j + k) % 32)
  | 0, j, h => by rw [rotN, Nat.add_zero, Nat.mod_eq_of_lt h]
  | k + 1, j, h => by
    rw [rotN, rot1_bit _ _ h, rotN_bit x k _ (Nat.mod_lt _ (by decide))]
    congr 1
    omega
theorem rotN_eq (x : W32) {k : Nat} (h : k < 32) : rotN x k = turn x k := by
  apply BitVec.eq_of_getLsbD_eq
  intro j hj
  rw [rotN_bit x k j hj]
  unfold turn
  rw [BitVec.getLsbD_or, BitVec.getLsbD_ushiftRight, BitVec.getLsbD_shiftLeft, decide_eq_true hj, Bool.true_and]
  rcases Nat.eq_zero_or_pos k with rfl | hp
  · simp [Nat.mod_eq_of_lt hj]
  · rw [Nat.mod_eq_of_lt (show 32 - k < 32 by omega)]
    rcases Nat.lt_or_ge (j + k) 32 with h1 | h1
    · rw [Nat.mod_eq_of_lt h1, decide_eq_true (show j < 32 - k by omega), Nat.add_comm k j]
      simp
    · rw [decide_eq_false (show ¬ j < 32 - k by omega), BitVec.getLsbD_of_ge x (k + j) (by omega)]
      have e : (j + k) % 32 = j - (32 - k) := by omega
      simp [e]
theorem ch_ref (f g i : W32) : (f &&& g) + ((4294967295#32 - f) &&& i) = f &&& g ^^^ ~~~f &&& i := by
  have e : (4294967295#32 - f) = ~~~f := by
    have h := BitVec.allOnes_sub_eq_not f
    exact h
  rw [e]
  have hz : (f &&& g) &&& (~~~f &&& i) = 0#32 := by
    apply BitVec.eq_of_getLsbD_eq
    intro j hj
    simp only [BitVec.getLsbD_and, BitVec.getLsbD_not, hj, decide_true, Bool.true_and, BitVec.getLsbD_zero]
    cases f.getLsbD j <;> simp
  rw [BitVec.add_eq_or_of_and_eq_zero _ _ hz]
  apply BitVec.eq_of_getLsbD_eq
  intro j hj
  simp only [BitVec.getLsbD_and, BitVec.getLsbD_not, BitVec.getLsbD_or, BitVec.getLsbD_xor, hj, decide_true, Bool.true_and]
  cases f.getLsbD j <;> simp
theorem maj_ref (a c d : W32) : (a &&& c) ||| (a &&& d) ||| (c &&& d) = a &&& c ^^^ a &&& d ^^^ c &&& d := by
  apply BitVec.eq_of_getLsbD_eq
  intro j _
  simp only [BitVec.getLsbD_and, BitVec.getLsbD_or, BitVec.getLsbD_xor]
  cases a.getLsbD j <;> cases c.getLsbD j <;> cases d.getLsbD j <;> rfl
theorem bv_quo (x : W32) (k : Nat) : ((x.toNat / 2 ^ k : Nat) : Int) = ((x >>> k).toNat : Int) := by
  rw [BitVec.toNat_ushiftRight, Nat.shiftRight_eq_div_pow]
end Go.Alm

namespace Go.Alm
open Go Go.RowKit
theorem wS_zero (q : List Nat) : ∀ t j, t ≤ j → (wS q t).getD j 0 = 0
  | 0, j, _ => by
    unfold wS
    rw [List.getD_eq_getElem?_getD, List.getElem?_replicate]
    split <;> rfl
  | t + 1, j, h => by
    unfold wS
    rcases Nat.lt_or_ge t 64 with h1 | h1
    · rw [getD_set (by rw [wS_length]; exact h1), if_neg (by omega)]
      exact wS_zero q t j (by omega)
    · rw [List.set_eq_of_length_le (by rw [wS_length]; exact h1)]
      exact wS_zero q t j (by omega)
theorem hw_set0 {q p : List Nat} {t : Nat} (h : t < 64) : hw ((wS q t).set t (BitVec.ofNat 32 (num (p.take 0)))) = hw (wS q t) := by
  unfold hw
  congr 1
  apply List.map_congr_left
  intro i _
  rw [getD_set (by rw [wS_length]; exact h)]
  split
  · rename_i e
    subst e
    rw [wS_zero q i i (Nat.le_refl _)]
    rfl
  · rfl
end Go.Alm

namespace Go.Alm
open Go Go.RowKit
theorem size72 (S : List W32) (q : List Nat) : (hw8 S ++ hq q).size = 72 := by rw [Array.size_append]; simp [hw8, hq]
theorem hsC_size (S : List W32) (q : List Nat) (n : Nat) : (hsC S q n).size = 73 := by unfold hsC; rw [Array.size_append, size72]; rfl
theorem hsC_get (S : List W32) (q : List Nat) (n k : Nat) (h : k < 8) : (hsC S q n)[0 + k * 1]? = some (.int .u32 ((S.getD k 0).toNat : Int)) :=
  get_app (n := 72) (size72 S q) (by omega) (get_app (n := 8) rfl (by omega) (hw8_get S k h))
theorem hsC_add {S R : List W32} {q : List Nat} {n k : Nat} (hk : k < 8) : spl (hsC (addN S R k) q n) (0 + k * 1) #[.int .u32 ((((addN S R k).getD k 0) + R.getD k 0).toNat : Int)] = hsC (addN S R (k + 1)) q n :=
  spl_app (n := 72) (size72 _ q) (by omega) (spl_app (n := 8) rfl (by omega) (hw8_add hk))
/-- Bytes laid over others from a place on. -/
def putQ (q : List Nat) (at' : Nat) (b : List Nat) : List Nat := q.take at' ++ b.take (64 - at') ++ q.drop (at' + min b.length (64 - at'))
theorem putQ_length {q b : List Nat} {a : Nat} (hq : q.length = 64) (ha : a < 64) : (putQ q a b).length = 64 := by
  unfold putQ
  simp only [List.length_append, List.length_take, List.length_drop]
  omega
theorem putQ_byt {q b : List Nat} {a : Nat} (hq : Byt q) (hb : Byt b) : Byt (putQ q a b) := fun x hx => by
  unfold putQ at hx
  rcases List.mem_append.1 hx with h | h
  · rcases List.mem_append.1 h with h | h
    · exact hq.take _ x h
    · exact hb.take _ x h
  · exact hq.drop _ x h
theorem hq_arr {q : List Nat} (h : q.length = 64) : hq q = (B q).toArray := by
  apply Array.toList_inj.1
  unfold hq B
  apply List.ext_getElem?
  intro i
  by_cases hi : i < 64
  · simp [hi, h]
  · simp [hi, h]
theorem hsC_copy {S : List W32} {q b : List Nat} {n a : Nat} (hq' : q.length = 64) (ha : a < 64) : spl (hsC S q n) (8 + a * 1) ((B b).take (64 - a)).toArray = hsC S (putQ q a b) n := by
  unfold hsC
  rw [hq_arr hq', hq_arr (putQ_length hq' ha)]
  unfold spl putQ
  apply Array.toList_inj.1
  have h8 : (hw8 S).toList.length = 8 := rfl
  have hb : (B q).length = 64 := by rw [B_length, hq']
  simp only [Array.toList_append, Nat.mul_one, List.append_assoc]
  rw [← List.take_append_drop 8 ((hw8 S).toList ++ _), List.take_left' h8, List.drop_left' h8]
  have e1 : ((hw8 S).toList ++ ((B q) ++ [Value.int .u64 (n : Int)])).take (8 + a) = (hw8 S).toList ++ (B q).take a := by
    rw [List.take_append, h8, List.take_of_length_le (by omega), show 8 + a - 8 = a by omega, List.take_append_of_le_length (by omega)]
  have hm : ((B b).take (64 - a)).length = min b.length (64 - a) := by rw [List.length_take, B_length]; omega
  have e2 : ((hw8 S).toList ++ ((B q) ++ [Value.int .u64 (n : Int)])).drop (8 + a + ((B b).take (64 - a)).toArray.size) = (B q).drop (a + min b.length (64 - a)) ++ [Value.int .u64 (n : Int)] := by
    rw [List.size_toArray, hm, Nat.add_assoc, ← List.drop_drop, List.drop_left' h8, List.drop_append_of_le_length (by omega)]
  simp only [B_append, B_take, B_drop] at *
  rw [e1, e2]
  simp
theorem take_drop_min (b : List Nat) (X : Nat) : b.take X ++ b.drop (min b.length X) = b := by
  rcases Nat.le_total b.length X with h | h
  · rw [Nat.min_eq_left h, List.take_of_length_le h, List.drop_length, List.append_nil]
  · rw [Nat.min_eq_right h, List.take_append_drop]
theorem putQ_take {m q b : List Nat} (hq : q.length = 64) (ht : q.take (m.length % 64) = tailL m) : (putQ q (m.length % 64) b).take (m.length % 64 + min b.length (64 - m.length % 64)) = tailL m ++ b.take (64 - m.length % 64) := by
  unfold putQ
  rw [ht]
  refine List.take_left' ?_
  rw [List.length_append, tailL_length, List.length_take]
  omega
theorem write_mix {m q b : List Nat} (hq : q.length = 64) (ht : q.take (m.length % 64) = tailL m) (h : m.length % 64 + min b.length (64 - m.length % 64) = 64) :
    compress (stL m) (putQ q (m.length % 64) b) = stL (m ++ b.take (64 - m.length % 64)) ∧ (putQ q (m.length % 64) b).take ((m ++ b.take (64 - m.length % 64)).length % 64) = tailL (m ++ b.take (64 - m.length % 64)) := by
  have hf := stL_full (l := m) (x := b.take (64 - m.length % 64)) (by rw [List.length_take]; omega)
  have hp := putQ_take (b := b) hq ht
  rw [h, List.take_of_length_le (by rw [putQ_length hq (by omega)]; omega)] at hp
  constructor
  · rw [hf.1, ← hp]
  · rw [hf.2]
    have : (m ++ b.take (64 - m.length % 64)).length % 64 = 0 := by rw [List.length_append, List.length_take]; omega
    rw [this, List.take_zero]
theorem write_more {m q b : List Nat} (hq : q.length = 64) (ht : q.take (m.length % 64) = tailL m) (h : m.length % 64 + min b.length (64 - m.length % 64) ≠ 64) :
    stL m = stL (m ++ b.take (64 - m.length % 64)) ∧ (putQ q (m.length % 64) b).take ((m ++ b.take (64 - m.length % 64)).length % 64) = tailL (m ++ b.take (64 - m.length % 64)) := by
  have hf := stL_lt (l := m) (x := b.take (64 - m.length % 64)) (by rw [List.length_take]; omega)
  have hp := putQ_take (b := b) hq ht
  refine ⟨hf.1.symm, ?_⟩
  rw [hf.2, ← hp]
  congr 1
  rw [List.length_append, List.length_take]
  omega
/-- How long a slice in a slot is. -/
def lenA (s : Nat) (a : Act) : Nat := match a.eval (.tmp s) with | .slice _ n _ => n | _ => 0
theorem lenA_lt {s : Nat} {a a' : Act} {x x' : Option Addr} {n n' c c' : Nat} (h : a.eval (.tmp s) = .slice x n c) (h' : a'.eval (.tmp s) = .slice x' n' c') (hn : n' < n) : lenA s a' < lenA s a := by
  unfold lenA; rw [h, h']; exact hn
/-- A slice has room for what it has. -/
def capOk (v : Value) : Prop := match v with | .slice _ n c => n ≤ c | _ => True
theorem padz (z : Nat) : B (128 :: List.replicate (z + 1) 0) = B (128 :: List.replicate z 0) ++ [Value.int .u8 0] := by
  rw [List.replicate_succ', ← List.cons_append, B_append]
  rfl
theorem put_step8 {n k : Nat} (hk : k < 8) : IntKind.u8.wrap (Int.fdiv ((n : Int) * 8) (2 ^ (min ((8 : Int) * ((7 - k : Nat) : Int)).toNat 64))) = ((8 * n / 2 ^ (8 * (8 - 1 - k)) % 256 : Nat) : Int) := by
  have e1 : ((8 : Int) * ((7 - k : Nat) : Int)).toNat = 8 * (8 - 1 - k) := by omega
  have e2 : min (8 * (8 - 1 - k)) 64 = 8 * (8 - 1 - k) := by omega
  have e3 : (n : Int) * 8 = ((8 * n : Nat) : Int) := by omega
  rw [e1, e2, e3, wrap_u8]
  generalize 8 * (8 - 1 - k) = e
  have hp : ((2 : Int) ^ e) = ((2 ^ e : Nat) : Int) := by simp
  rw [hp, Int.fdiv_eq_ediv_of_nonneg _ (Int.natCast_nonneg _)]
  rfl
theorem outB_get (S : List W32) {i : Nat} (h : i < 32) : (outB S).getD i 0 = (S.getD (i / 4) 0 >>> (8 * (3 - i % 4))).toNat % 256 := by
  unfold outB
  simp [h]
theorem outB_length (S : List W32) : (outB S).length = 32 := by simp [outB]
theorem fillB_all {o : List Nat} (h : o.length = 32) : fillB o 32 = o := by
  unfold fillB
  rw [List.take_of_length_le (by omega)]
  simp
theorem fillB_zero (o : List Nat) : fillB o 0 = List.replicate 32 0 := by simp [fillB]
theorem padL_eq {n z k : Nat} (hz : z = (119 - n % 64) % 64) (hk : k = 8) : 128 :: List.replicate z 0 ++ putB (8 * n) 8 k = padL n := by
  subst hz; subst hk; rfl
theorem HsAt.made {tH : Nat} {w : World} {b : Nat} (h : w.heap[b]? = some (.cells (hsC IL (List.replicate 64 0) 0) tH (0, 0))) : HsAt tH w b [] (List.replicate 64 0) :=
  ⟨h, rfl, fun x hx => by have := List.eq_of_mem_replicate hx; omega, rfl⟩
end Go.Alm

namespace Go.Alm
open Go Go.RowKit
theorem rem_nat2 {x : Int} {n m : Nat} (h : x = (n : Int)) : x.tmod (m : Int) = ((n % m : Nat) : Int) := by subst h; exact rem_nat n m
theorem padL_byt (n : Nat) : Byt (padL n) := fun x hx => by
  unfold padL at hx
  rcases List.mem_append.1 hx with h | h
  · rcases List.mem_cons.1 h with h | h
    · omega
    · have := List.eq_of_mem_replicate h; omega
  · unfold Go.Alm.putB at h
    obtain ⟨i, _, rfl⟩ := List.mem_map.1 h
    exact Nat.mod_lt _ (by decide)
theorem Byt.cat {a b : List Nat} (ha : Byt a) (hb : Byt b) : Byt (a ++ b) := fun x hx => by
  rcases List.mem_append.1 hx with h | h
  · exact ha x h
  · exact hb x h
/-- How far a slice in a slot is from a length. -/
def lenZ (N s : Nat) (a : Act) : Nat := N - lenA s a
theorem lenZ_lt {N s : Nat} {a a' : Act} {x x' : Option Addr} {n n' c c' : Nat} (h : a.eval (.tmp s) = .slice x n c) (h' : a'.eval (.tmp s) = .slice x' n' c') (hn : n < n') (hN : n < N) : lenZ N s a' < lenZ N s a := by
  unfold lenZ lenA; rw [h, h']; simp only; omega
end Go.Alm
