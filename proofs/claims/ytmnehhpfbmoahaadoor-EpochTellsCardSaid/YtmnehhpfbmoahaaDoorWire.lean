/- The plain side of the wire: numbers as bytes. -/
import Derived.Test.YtmnehhpfbmoahaaDoorCut
namespace Go.Alm
open Go Go.RowKit

/-- The first `k` of a number's `size` bytes, the highest first. -/
def putB (n size k : Nat) : List Nat := (List.range k).map fun i => n / 2 ^ (8 * (size - 1 - i)) % 256
theorem putB_succ (n size k : Nat) : putB n size (k + 1) = putB n size k ++ [n / 2 ^ (8 * (size - 1 - k)) % 256] := by simp [putB, List.range_succ]
theorem putB_length (n size k : Nat) : (putB n size k).length = k := by simp [putB]

/-- What a writer may touch. -/
def wrS (b : Nat) (v : Value) : Nat → Prop := Or2 (One b) (Own v)
/-- A writer: its block holds a row of its own. -/
structure WrAt (t8 tw : Nat) (w : World) (b : Nat) (v : Value) (l : List Nat) : Prop where
  blk : w.heap[b]? = some (.cells #[v] tw (0, 0))
  row : Row w t8 1 v l.length (B l)
  dis : Dis (Own v) (One b)
theorem WrAt.keep {t8 tw : Nat} {w w' : World} {b : Nat} {v : Value} {l : List Nat} {S : Nat → Prop} (h : WrAt t8 tw w b v l) (F : Fr w w' S) (hd : Dis (wrS b v) S) : WrAt t8 tw w' b v l :=
  ⟨F.keep h.blk fun k hk => hd k (.inl hk), h.row.keep F fun k hk => hd k (.inr hk), h.dis⟩
theorem WrAt.in {t8 tw : Nat} {w : World} {b : Nat} {v : Value} {l : List Nat} (h : WrAt t8 tw w b v l) : In w (wrS b v) := fun k hk => by
  rcases hk with hk | hk
  · rw [hk]; exact lt_of_get h.blk
  · exact h.row.lt k hk

/-- One step of writing a number. -/
theorem put_step {n size k : Nat} (hk : k < size) (hs : size ≤ 8) : IntKind.u8.wrap (Int.fdiv (n : Int) (2 ^ (min (8 * ((size : Int) - 1 - (k : Int))).toNat 64))) = ((n / 2 ^ (8 * (size - 1 - k)) % 256 : Nat) : Int) := by
  have e1 : (8 * ((size : Int) - 1 - (k : Int))).toNat = 8 * (size - 1 - k) := by omega
  have e2 : min (8 * (size - 1 - k)) 64 = 8 * (size - 1 - k) := by omega
  rw [e1, e2, wrap_u8]
  generalize 8 * (size - 1 - k) = e
  have hp : ((2 : Int) ^ e) = ((2 ^ e : Nat) : Int) := by simp
  rw [hp, Int.fdiv_eq_ediv_of_nonneg _ (Int.natCast_nonneg _)]
  rfl

/-- A text as it is written. -/
def textW (bs : List Nat) : List Nat := if bs.length ≤ 255 then putB bs.length 1 1 ++ bs else []

/-! ### readers -/
/-- A reader: what went wrong, and what is left. -/
structure Rs where
  e : Nat
  l : List Nat
def Rs.wrong (r : Rs) (c : Nat) : Rs := if r.e = 0 then ⟨c, []⟩ else r
def Rs.take (r : Rs) (m : Nat) : Rs := if r.l.length < m then r.wrong 3 else ⟨r.e, r.l.drop m⟩
def Rs.out (r : Rs) (m : Nat) : List Nat := if r.l.length < m then [] else r.l.take m
/-- A number out of its bytes. -/
def num (l : List Nat) : Nat := l.foldl (fun n b => n * 256 + b) 0
def Rs.num (r : Rs) (m : Nat) : Nat := Go.Alm.num (r.out m)
def Rs.hash (r : Rs) : List Nat := if r.l.length < 32 then List.replicate 32 0 else r.l.take 32
/-- What a text is behind its length. -/
def Rs.text1 (r : Rs) (most : Nat) : Rs := if most < r.num 1 then (r.take 1).wrong 4 else r.take 1
def Rs.text (r : Rs) (most : Nat) : List Nat := if (r.text1 most).e = 0 then (r.text1 most).out (r.num 1) else []
def Rs.textR (r : Rs) (most : Nat) : Rs := if (r.text1 most).e = 0 then (r.text1 most).take (r.num 1) else r.text1 most
def Rs.end (r : Rs) : Nat := if r.e = 0 ∧ 0 < r.l.length then 4 else r.e
/-- Bytes. -/
def Byt (l : List Nat) : Prop := ∀ b ∈ l, b < 256
theorem Byt.drop {l : List Nat} (h : Byt l) (m : Nat) : Byt (l.drop m) := fun b hb => h b (List.mem_of_mem_drop hb)
theorem Byt.take {l : List Nat} (h : Byt l) (m : Nat) : Byt (l.take m) := fun b hb => h b (List.mem_of_mem_take hb)
theorem Byt.nil : Byt [] := fun _ h => by cases h
theorem Byt.wrong {r : Rs} (h : Byt r.l) (c : Nat) : Byt (r.wrong c).l := by
  unfold Rs.wrong; split
  · exact Byt.nil
  · exact h
theorem Byt.rtake {r : Rs} (h : Byt r.l) (m : Nat) : Byt (r.take m).l := by
  unfold Rs.take; split
  · exact h.wrong 3
  · exact h.drop m
theorem Byt.out {r : Rs} (h : Byt r.l) (m : Nat) : Byt (r.out m) := by
  unfold Rs.out; split
  · exact Byt.nil
  · exact h.take m
theorem out_length_le (r : Rs) (m : Nat) : (r.out m).length ≤ m := by
  unfold Rs.out; split <;> simp <;> omega

def rrS (b : Nat) (ao : Option Addr) (r : Rs) : Nat → Prop := Or2 (One b) (Ar ao (B r.l))
structure RrAt (tr : Nat) (w : World) (b : Nat) (ao : Option Addr) (cap : Nat) (r : Rs) : Prop where
  blk : w.heap[b]? = some (.cells #[.slice ao r.l.length cap, .int .i64 (r.e : Int)] tr (0, 0))
  cap : r.l.length ≤ cap
  rd : Rd w ao (B r.l)
  dis : Dis (Ar ao (B r.l)) (One b)
theorem RrAt.keep {tr : Nat} {w w' : World} {b : Nat} {ao : Option Addr} {cap : Nat} {r : Rs} {S : Nat → Prop} (h : RrAt tr w b ao cap r) (F : Fr w w' S) (hd : Dis (rrS b ao r) S) : RrAt tr w' b ao cap r :=
  ⟨F.keep h.blk hd.left, h.cap, h.rd.keep' F hd.right, h.dis⟩
theorem RrAt.in {tr : Nat} {w : World} {b : Nat} {ao : Option Addr} {cap : Nat} {r : Rs} (h : RrAt tr w b ao cap r) : In w (rrS b ao r) := fun k hk => by
  rcases hk with hk | hk
  · rw [hk]; exact lt_of_get h.blk
  · exact h.rd.in k hk
theorem SlF_nil (xs : List Value) : SlF (.slice none 0 0) xs = N0 := by
  funext k
  simp [SlF, Ar, N0]
theorem B_take (l : List Nat) (n : Nat) : B (l.take n) = (B l).take n := by simp [B]
theorem B_drop (l : List Nat) (n : Nat) : B (l.drop n) = (B l).drop n := by simp [B]
theorem B_ne {l m : List Nat} (h : m ≠ [] → l ≠ []) : B m ≠ [] → B l ≠ [] := fun hm hl => by
  have : l = [] := by simpa [B] using hl
  exact h (fun e => hm (by simp [B, e])) this
/-- An array and a list, shut. -/
theorem num_snoc (l : List Nat) (b : Nat) : num (l ++ [b]) = num l * 256 + b := by simp [num]
theorem num_lt' : ∀ (l : List Nat) (n N : Nat), Byt l → n < N → l.foldl (fun n b => n * 256 + b) n < N * 256 ^ l.length
  | [], n, N, _, h => by simpa using h
  | b :: l, n, N, hB, h => by
    have hb : b < 256 := hB b (by simp)
    have h1 := num_lt' l (n * 256 + b) (N * 256) (fun x hx => hB x (by simp [hx])) (by omega)
    simp only [List.foldl_cons, List.length_cons]
    rw [Nat.pow_succ, Nat.mul_comm (256 ^ l.length) 256, ← Nat.mul_assoc]
    exact h1
theorem num_lt (l : List Nat) (h : Byt l) : num l < 256 ^ l.length := by
  have := num_lt' l 0 1 h (by decide)
  simpa [num] using this
end Go.Alm

namespace Go.Alm
open Go Go.RowKit
theorem getD_lt {l : List Nat} (h : Byt l) (k : Nat) : l.getD k 0 < 256 := by
  rcases Nat.lt_or_ge k l.length with hk | hk
  · have : l.getD k 0 = l[k] := by simp [hk]
    rw [this]; exact h _ (List.getElem_mem hk)
  · have : l.getD k 0 = 0 := by simp [List.getElem?_eq_none hk]
    omega
theorem take_snoc (l : List Nat) (k : Nat) (h : k < l.length) : l.take (k + 1) = l.take k ++ [l.getD k 0] := by
  rw [List.take_add_one]
  simp [h]
theorem num_take_lt {l : List Nat} (h : Byt l) {k N : Nat} (hk : k ≤ N) : num (l.take k) < 256 ^ N := by
  refine Nat.lt_of_lt_of_le (num_lt _ (h.take k)) (Nat.pow_le_pow_right (by decide) ?_)
  rw [List.length_take]; omega
theorem shl_step {a : Nat} (h : a < 256 ^ 7) : IntKind.u64.wrap ((a : Int) * 2 ^ 8) = ((a * 256 : Nat) : Int) := by
  rw [wrap_u64]
  have : (2 : Int) ^ 8 = 256 := by decide
  rw [this]
  omega
theorem or_step {a b : Nat} (h : a < 256 ^ 7) (hb : b < 256) : ((BitVec.ofInt 64 ((a * 256 : Nat) : Int) ||| BitVec.ofInt 64 (b : Int)).toNat : Int) = ((a * 256 + b : Nat) : Int) := by
  congr 1
  rw [BitVec.toNat_or]
  have e1 : (BitVec.ofInt 64 ((a * 256 : Nat) : Int)).toNat = a * 256 := by rw [BitVec.ofInt_natCast, BitVec.toNat_ofNat]; omega
  have e2 : (BitVec.ofInt 64 (b : Int)).toNat = b := by rw [BitVec.ofInt_natCast, BitVec.toNat_ofNat]; omega
  rw [e1, e2]
  have e3 : a * 256 = a <<< 8 := by rw [Nat.shiftLeft_eq]
  rw [e3, Nat.shiftLeft_add_eq_or_of_lt (by omega)]
theorem num_step {l : List Nat} (h : Byt l) {k : Nat} (hk : k < l.length) (h8 : k < 8) :
    ((BitVec.ofInt 64 ((num (l.take k) * 256 : Nat) : Int) ||| BitVec.ofInt 64 ((l.getD k 0 : Nat) : Int)).toNat : Int) = ((num (l.take (k + 1)) : Nat) : Int) := by
  rw [or_step (num_take_lt h (by omega)) (getD_lt h k), take_snoc l k hk, num_snoc]
theorem num_step' {l : List Nat} (h : Byt l) {k : Nat} (hk : k < l.length) (h8 : k < 8) :
    IntKind.u64.wrap ((BitVec.ofInt 64 ((num (l.take k) * 256 : Nat) : Int) ||| BitVec.ofInt 64 ((l.getD k 0 : Nat) : Int)).toNat : Int) = ((num (l.take (k + 1)) : Nat) : Int) := by
  rw [num_step h hk h8]
  have := num_take_lt h (k := k + 1) (N := 8) (by omega)
  exact wrapN_u64 (by omega) (by omega)
theorem Row.ar {w : World} {e sz n c : Nat} {ao : Option Addr} {xs : List Value} (h : Row w e sz (.slice ao n c) n xs) : Sub (Ar ao xs) (Own (.slice ao n c)) := by
  obtain ⟨ao', cap, hv, _, _, _, ho⟩ := h.read
  cases hv
  rintro k ⟨_, ad, rfl, rfl⟩
  exact (ho ad rfl).1
theorem Row.rd {w : World} {e sz n c : Nat} {ao : Option Addr} {xs : List Value} (h : Row w e sz (.slice ao n c) n xs) : Rd w ao xs := by
  obtain ⟨ao', cap, hv, _, _, hR, _⟩ := h.read
  cases hv
  exact hR
theorem Row.le {w : World} {e sz n c : Nat} {ao : Option Addr} {xs : List Value} (h : Row w e sz (.slice ao n c) n xs) : n ≤ c := by
  obtain ⟨ao', cap, hv, hc, _, _, _⟩ := h.read
  cases hv
  exact hc
theorem Row.src {P : Program} {w : World} {tx e e' sz n : Nat} {v : Value} {xs : List Value} (hk : P.underlying tx = some (.slice e')) (h : Row w e sz v n xs) (hs : 0 < sz) (h1 : ∀ u ∈ xs, u.oneCell' = true) : Src P sz tx v n xs w := by
  obtain ⟨ao, cap, rfl, _, _, hR, _⟩ := h.read
  exact Rd.src hk hR h.length hs h1
theorem RrAt.made {tr t8 : Nat} {w : World} {b : Nat} {ao : Option Addr} {c : Nat} {l : List Nat} (hb : w.heap[b]? = some (.cells #[.slice ao l.length c, .int .i64 0] tr (0, 0))) (hr : Row w t8 1 (.slice ao l.length c) l.length (B l))
    (d : Dis (Own (.slice ao l.length c)) (One b)) : RrAt tr w b ao c ⟨0, l⟩ := ⟨hb, hr.le, hr.rd, hr.ar.dis d⟩
theorem Rs.num_lt {r : Rs} (h : Byt r.l) {m N : Nat} (hm : m ≤ N) : r.num m < 256 ^ N :=
  Nat.lt_of_lt_of_le (Go.Alm.num_lt _ (h.out m)) (Nat.pow_le_pow_right (by decide) (Nat.le_trans (out_length_le r m) hm))
theorem hash_copy {r : Rs} {z : Array Value} (hz : z = hv (List.replicate 32 0)) : spl z 0 ((B (r.out 32)).take 32).toArray = hv r.hash := by
  subst hz
  unfold Rs.out Rs.hash
  split
  · rfl
  · rename_i h
    have h32 : (r.l.take 32).length = 32 := by rw [List.length_take]; omega
    have e : ((B (r.l.take 32)).take 32).toArray = hv (r.l.take 32) := by
      rw [List.take_of_length_le (by rw [B_length, h32]; exact Nat.le_refl _), ← hv_B h32, Array.toArray_toList]
    rw [e]
    rfl
theorem hash_length (r : Rs) : r.hash.length = 32 := by
  unfold Rs.hash; split
  · rfl
  · rw [List.length_take]; omega
theorem Rd.cutB {w : World} {ao : Option Addr} {l : List Nat} (h : Rd w ao (B l)) (lo n m : Nat) (hm : m = lo → n = 0) : Rd w (cutA ao lo m 1) (B ((l.drop lo).take n)) := by
  have h := Rd.cut h lo n m 1 hm
  rwa [Nat.mul_one, Nat.mul_one, ← B_drop, ← B_take] at h
theorem Sub.cutB {ao : Option Addr} {l : List Nat} {lo n m : Nat} : Sub (Ar (cutA ao lo m 1) (B ((l.drop lo).take n))) (Ar ao (B l)) := Sub.cut (B_ne fun h e => h (by rw [e, List.drop_nil, List.take_nil]))
theorem pow2_8 (k : Nat) : (2 : Nat) ^ (8 * k) = 256 ^ k := by rw [Nat.pow_mul]
theorem putB_next (n k : Nat) : putB n (k + 1) (k + 1) = n / 256 ^ k % 256 :: putB n k k := by
  unfold putB
  rw [List.range_succ_eq_map, List.map_cons, List.map_map]
  have e0 : 8 * (k + 1 - 1 - 0) = 8 * k := by omega
  rw [e0, pow2_8]
  congr 1
  apply List.map_congr_left
  intro i _
  have e : 8 * (k + 1 - 1 - (i + 1)) = 8 * (k - 1 - i) := by omega
  simp only [Function.comp, Nat.succ_eq_add_one, e]
/-- What is left of a number behind so many bytes. -/
def lowQ (n : Nat) : Nat → Nat
  | 0 => n
  | k + 1 => lowQ n k / 256
theorem lowQ_eq (n : Nat) : ∀ k, lowQ n k = n / 256 ^ k
  | 0 => by simp [lowQ]
  | k + 1 => by rw [lowQ, lowQ_eq n k, Nat.div_div_eq_div_mul, Nat.pow_succ]
theorem lowQ_le (n k : Nat) : lowQ n k ≤ n := by rw [lowQ_eq]; exact Nat.div_le_self _ _
theorem put_head (n k : Nat) : #[Value.int .u8 ((lowQ n k % 256 : Nat) : Int)].toList ++ B (putB n k k) = B (putB n (k + 1) (k + 1)) := by rw [putB_next, lowQ_eq]; rfl

/-- The reference's reader: where it is; what went wrong. -/
structure Rf where
  at' : Nat
  e : Nat
/-- The reader that it is. -/
def Rf.r (l : List Nat) (q : Rf) : Rs := ⟨q.e, if q.e = 0 then l.drop q.at' else []⟩
theorem rf_dead {l : List Nat} {a e : Nat} (h : e ≠ 0) (m : Nat) : (Rf.r l ⟨a, e⟩).take m = Rf.r l ⟨a, e⟩ ∧ (Rf.r l ⟨a, e⟩).out m = [] := by
  have hr : Rf.r l ⟨a, e⟩ = ⟨e, []⟩ := by simp [Rf.r, h]
  rw [hr]
  constructor
  · unfold Rs.take Rs.wrong; simp [h]
  · unfold Rs.out; simp
theorem rf_short {l : List Nat} {a e m : Nat} (he : e = 0) (h : l.length - a < m) : (Rf.r l ⟨a, e⟩).take m = Rf.r l ⟨a, 3⟩ ∧ (Rf.r l ⟨a, e⟩).out m = [] := by
  subst he
  have hr : Rf.r l ⟨a, 0⟩ = ⟨0, l.drop a⟩ := by simp [Rf.r]
  rw [hr]
  constructor
  · unfold Rs.take Rs.wrong; simp [h, Rf.r]
  · unfold Rs.out; simp [h]
theorem rf_take {l : List Nat} {a e m : Nat} (he : e = 0) (h : ¬ l.length - a < m) : (Rf.r l ⟨a, e⟩).take m = Rf.r l ⟨a + m, e⟩ ∧ (Rf.r l ⟨a, e⟩).out m = (l.drop a).take m := by
  subst he
  have hr : Rf.r l ⟨a, 0⟩ = ⟨0, l.drop a⟩ := by simp [Rf.r]
  rw [hr]
  constructor
  · unfold Rs.take; simp [h, Rf.r, List.drop_drop]
  · unfold Rs.out; simp [h]
theorem Byt.rf {l : List Nat} (h : Byt l) (q : Rf) : Byt (Rf.r l q).l := by
  unfold Rf.r
  simp only
  split
  · exact h.drop _
  · exact Byt.nil
theorem num_step2 {l : List Nat} {k : Nat} (hk : k < l.length) (hb : Byt l) (h8 : k < 8) : IntKind.u64.wrap (((256 * num (l.take k) : Nat) : Int) + ((l.getD k 0 : Nat) : Int)) = ((num (l.take (k + 1)) : Nat) : Int) := by
  have e : num (l.take (k + 1)) = num (l.take k) * 256 + l.getD k 0 := by rw [take_snoc l k hk, num_snoc]
  have h1 := num_take_lt hb (k := k) (N := 7) (by omega)
  have h2 := getD_lt hb k
  rw [e]
  rw [wrapN_u64 (by omega) (by omega)]
  omega
theorem take_eq_step {l m : List Nat} {k : Nat} (h : l.take k = m.take k) (h1 : k < l.length) (h2 : k < m.length) (hb : l.getD k 0 = m.getD k 0) : l.take (k + 1) = m.take (k + 1) := by
  rw [take_snoc l k h1, take_snoc m k h2, h, hb]
/-- A digest's first bytes; then zeros. -/
def fillB (o : List Nat) (k : Nat) : List Nat := o.take k ++ List.replicate (32 - k) 0
theorem fillB_length {o : List Nat} {k : Nat} (h : k ≤ o.length) (h2 : k ≤ 32) : (fillB o k).length = 32 := by
  unfold fillB; rw [List.length_append, List.length_take, List.length_replicate]; omega
theorem fillB_step {o : List Nat} {k : Nat} (h : k < o.length) (h2 : k < 32) : (fillB o k).set k (o.getD k 0) = fillB o (k + 1) := by
  unfold fillB
  have e : 32 - k = (32 - (k + 1)) + 1 := by omega
  rw [List.set_append_right _ _ (by rw [List.length_take]; omega), List.length_take, take_snoc o k h, e, List.replicate_succ]
  have e2 : k - min k o.length = 0 := by omega
  rw [e2]
  simp
theorem fill_hash (r : Rs) : fillB (r.out 32) (r.out 32).length = r.hash := by
  unfold fillB Rs.out Rs.hash
  split
  · simp
  · rename_i h
    have : (r.l.take 32).length = 32 := by rw [List.length_take]; omega
    rw [this, List.take_take]
    simp
theorem hv_set {l : List Nat} {k x : Nat} (hl : l.length = 32) (hk : k < 32) : spl (hv l) (0 + k * 1) #[.int .u8 (x : Int)] = hv (l.set k x) := by
  have h1 := hv_B hl
  have h2 : (hv (l.set k x)).toList = B (l.set k x) := hv_B (by simpa using hl)
  apply Array.toList_inj.1
  rw [h2]
  unfold spl
  rw [h1]
  have e : 0 + k * 1 = k := by omega
  rw [e]
  have hk' : k < l.length := by omega
  rw [List.set_eq_take_append_cons_drop, if_pos hk']
  simp [B]
theorem rf_len {l : List Nat} {a e : Nat} (h : e = 0) : (Rf.r l ⟨a, e⟩).l.length = l.length - a := by simp [Rf.r, h]
theorem rf_len0 {l : List Nat} {a e : Nat} (h : e ≠ 0) : (Rf.r l ⟨a, e⟩).l.length = 0 := by simp [Rf.r, h]
theorem rf_e {l : List Nat} {a e : Nat} : (Rf.r l ⟨a, e⟩).e = e := rfl
theorem rf_textA {l : List Nat} {Q : Rs} {a e m : Nat} (h : Rf.r l ⟨a, e⟩ = Q.take 1) (he : e = 0) (hm : m < Q.num 1) : Q.textR m = Rf.r l ⟨a, 4⟩ ∧ Q.text m = [] ∧ (Rf.r l ⟨a, 4⟩).take (Q.num 1) = Rf.r l ⟨a, 4⟩ ∧ (Rf.r l ⟨a, 4⟩).out (Q.num 1) = [] := by
  have h1 : Q.text1 m = ⟨4, []⟩ := by
    unfold Rs.text1; rw [if_pos hm, ← h]; simp [Rs.wrong, Rf.r, he]
  have h2 : Rf.r l ⟨a, 4⟩ = ⟨4, []⟩ := by simp [Rf.r]
  refine ⟨?_, ?_, (rf_dead (by decide) _).1, (rf_dead (by decide) _).2⟩
  · unfold Rs.textR; rw [h1, h2]; rfl
  · unfold Rs.text; rw [h1]; rfl
theorem rf_textB {l : List Nat} {Q : Rs} {a e m : Nat} (h : Rf.r l ⟨a, e⟩ = Q.take 1) (he : e = 0) (hm : ¬ m < Q.num 1) : Q.textR m = (Rf.r l ⟨a, e⟩).take (Q.num 1) ∧ Q.text m = (Rf.r l ⟨a, e⟩).out (Q.num 1) := by
  have h1 : Q.text1 m = Rf.r l ⟨a, e⟩ := by unfold Rs.text1; rw [if_neg hm, ← h]
  have h2 : (Rf.r l ⟨a, e⟩).e = 0 := he
  constructor
  · unfold Rs.textR; rw [h1, if_pos h2]
  · unfold Rs.text; rw [h1, if_pos h2]
theorem rf_textC {l : List Nat} {Q : Rs} {a e m : Nat} (h : Rf.r l ⟨a, e⟩ = Q.take 1) (he : e ≠ 0) : Q.textR m = (Rf.r l ⟨a, e⟩).take (Q.num 1) ∧ Q.text m = (Rf.r l ⟨a, e⟩).out (Q.num 1) := by
  have h1 : Q.text1 m = Rf.r l ⟨a, e⟩ := by
    unfold Rs.text1; rw [← h]
    split
    · unfold Rs.wrong; rw [if_neg (show ¬ (Rf.r l ⟨a, e⟩).e = 0 from he)]
    · rfl
  have h2 : ¬ (Rf.r l ⟨a, e⟩).e = 0 := he
  rw [(rf_dead he _).1, (rf_dead he _).2]
  constructor
  · unfold Rs.textR; rw [h1, if_neg h2]
  · unfold Rs.text; rw [h1, if_neg h2]
theorem rf_endA {l : List Nat} {a e : Nat} (he : e = 0) (h : a < l.length) : (Rf.r l ⟨a, e⟩).end = 4 := by
  unfold Rs.end
  rw [if_pos ⟨he, by rw [rf_len he]; omega⟩]
theorem rf_endB {l : List Nat} {a e : Nat} (h : ¬ (e = 0 ∧ a < l.length)) : (Rf.r l ⟨a, e⟩).end = e := by
  unfold Rs.end
  rw [if_neg]
  · rfl
  · rintro ⟨he, h1⟩
    have he : e = 0 := he
    rw [rf_len he] at h1
    exact h ⟨he, by omega⟩
theorem putB_one {n : Nat} (h : n < 256) : putB n 1 1 = [n] := by
  have : n / 2 ^ 0 % 256 = n := by simp; omega
  simp [putB, this]
  omega
theorem Byt.hash {r : Rs} (h : Byt r.l) : Byt r.hash := by
  unfold Rs.hash; split
  · intro b hb; have := List.eq_of_mem_replicate hb; omega
  · exact h.take 32
theorem wrong_len (r : Rs) (c : Nat) : (r.wrong c).l.length ≤ r.l.length := by unfold Rs.wrong; split <;> simp
theorem take_len (r : Rs) (m : Nat) : (r.take m).l.length ≤ r.l.length := by
  unfold Rs.take; split
  · exact wrong_len r 3
  · simp
theorem out_len (r : Rs) (m : Nat) : (r.out m).length ≤ r.l.length := by unfold Rs.out; split <;> simp <;> omega
theorem text1_len (r : Rs) (m : Nat) : (r.text1 m).l.length ≤ r.l.length := by
  unfold Rs.text1; split
  · exact Nat.le_trans (wrong_len _ _) (take_len r 1)
  · exact take_len r 1
theorem text_len (r : Rs) (m : Nat) : (r.text m).length ≤ r.l.length := by
  unfold Rs.text; split
  · exact Nat.le_trans (out_len _ _) (text1_len r m)
  · simp
theorem textR_len (r : Rs) (m : Nat) : (r.textR m).l.length ≤ r.l.length := by
  unfold Rs.textR; split
  · exact Nat.le_trans (take_len _ _) (text1_len r m)
  · exact text1_len r m
theorem Row.appB {w : World} {e n m : Nat} {v : Value} {a b : List Nat} {xs : List Value} (h : Row w e 1 v (n + m) (B a ++ xs)) (hx : xs = B b) : Row w e 1 v (a ++ b).length (B (a ++ b)) := by
  subst hx
  rw [← B_append] at h
  have hl := h.length
  rw [B_length] at hl
  rw [hl]
  simpa using h
theorem WrAt.nil {t8 tw : Nat} {w : World} {b : Nat} (h : w.heap[b]? = some (.cells #[.slice none 0 0] tw (0, 0))) : WrAt t8 tw w b (.slice none 0 0) [] := ⟨h, Row.nil _ _ _, by rw [Own_nil]; exact Dis.n0'⟩
theorem New.wrNil {w : World} {S : Nat → Prop} {b : Nat} (h : New w S (One b)) : New w S (wrS b (.slice none 0 0)) := by
  unfold wrS; rw [Own_nil]; exact New.two h (fun _ h => h.elim)
theorem Dis.wrNil {T : Nat → Prop} {b : Nat} (h : Dis (One b) T) : Dis (wrS b (.slice none 0 0)) T := by
  unfold wrS; rw [Own_nil]; exact Dis.or h Dis.n0'
theorem SlV.of_blk {w : World} {b t off n cap : Nat} {c : Array Value} {fz : Nat × Nat} {l : List Nat} (hb : w.heap[b]? = some (.cells c t fz)) (hl : (c.toList.drop off).take l.length = B l) : SlV w (.slice (some ⟨b, off, none⟩) n cap) n (B l) :=
  ⟨_, _, rfl, by rw [← hl]; exact (Rd.of_blkN hb off).take _⟩
theorem Sub.arOne {b off : Nat} {xs : List Value} : Sub (Ar (some ⟨b, off, none⟩) xs) (One b) := by
  rintro k ⟨_, ad, h, rfl⟩
  cases h
  rfl
theorem Byt.all {l : List Nat} (h : l.all (fun b => Nat.blt b 256) = true) : Byt l := fun b hb => by
  have := List.all_eq_true.1 h b hb
  simpa using this
end Go.Alm
