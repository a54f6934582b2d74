/- Plain lemmas and laws of the machine that the walks use; without conditions of their own. -/
import Derived.Test.YtokdfjelilhekaaDoorLib1
import Derived.DeepKeys
import Derived.DataBytes
import Derived.ProofKit
import Derived.OpenShut
import Derived.Laws.MakeOwn
import Derived.KernelRfl
/- The plain side of the wire: numbers as bytes. -/
namespace Go.Alm
open Go Go.RowKit

/-- The first `k` of a number's `size` bytes, the highest first. -/
def putB (n size k : Nat) : List Nat := (List.range k).map fun i => n / 2 ^ (8 * (size - 1 - i)) % 256
theorem putB_succ (n size k : Nat) : putB n size (k + 1) = putB n size k ++ [n / 2 ^ (8 * (size - 1 - k)) % 256] := by simp [putB, List.range_succ]
theorem putB_length (n size k : Nat) : (putB n size k).length = k := by simp [putB]

/-- What a writer may touch. -/
def wrS (b : Nat) (v : Value) : Nat → Prop := Or2 (One b) (Own v)
/-- A writer: its block holds a row of its own. -/
structure WrAt (t8 tw : Nat) (w : World) (b : Nat) (v : Value) (l : List Nat) : Prop where
  blk : w.heap[b]? = some (.cells #[v] tw (0, 0))
  row : Row w t8 1 v l.length (B l)
  dis : Dis (Own v) (One b)
theorem WrAt.keep {t8 tw : Nat} {w w' : World} {b : Nat} {v : Value} {l : List Nat} {S : Nat → Prop} (h : WrAt t8 tw w b v l) (F : Fr w w' S) (hd : Dis (wrS b v) S) : WrAt t8 tw w' b v l :=
  ⟨F.keep h.blk fun k hk => hd k (.inl hk), h.row.keep F fun k hk => hd k (.inr hk), h.dis⟩
theorem WrAt.in {t8 tw : Nat} {w : World} {b : Nat} {v : Value} {l : List Nat} (h : WrAt t8 tw w b v l) : In w (wrS b v) := fun k hk => by
  rcases hk with hk | hk
  · rw [hk]; exact lt_of_get h.blk
  · exact h.row.lt k hk

/-- One step of writing a number. -/
theorem put_step {n size k : Nat} (hk : k < size) (hs : size ≤ 8) : IntKind.u8.wrap (Int.fdiv (n : Int) (2 ^ (min (8 * ((size : Int) - 1 - (k : Int))).toNat 64))) = ((n / 2 ^ (8 * (size - 1 - k)) % 256 : Nat) : Int) := by
  have e1 : (8 * ((size : Int) - 1 - (k : Int))).toNat = 8 * (size - 1 - k) := by omega
  have e2 : min (8 * (size - 1 - k)) 64 = 8 * (size - 1 - k) := by omega
  rw [e1, e2, wrap_u8]
  generalize 8 * (size - 1 - k) = e
  have hp : ((2 : Int) ^ e) = ((2 ^ e : Nat) : Int) := by simp
  rw [hp, Int.fdiv_eq_ediv_of_nonneg _ (Int.natCast_nonneg _)]
  rfl

/-- A text as it is written. -/
def textW (bs : List Nat) : List Nat := if bs.length ≤ 255 then putB bs.length 1 1 ++ bs else []

/-! ### readers -/
/-- A reader: what went wrong, and what is left. -/
structure Rs where
  e : Nat
  l : List Nat
def Rs.wrong (r : Rs) (c : Nat) : Rs := if r.e = 0 then ⟨c, []⟩ else r
def Rs.take (r : Rs) (m : Nat) : Rs := if r.l.length < m then r.wrong 3 else ⟨r.e, r.l.drop m⟩
def Rs.out (r : Rs) (m : Nat) : List Nat := if r.l.length < m then [] else r.l.take m
/-- A number out of its bytes. -/
def num (l : List Nat) : Nat := l.foldl (fun n b => n * 256 + b) 0
def Rs.num (r : Rs) (m : Nat) : Nat := Go.Alm.num (r.out m)
def Rs.hash (r : Rs) : List Nat := if r.l.length < 32 then List.replicate 32 0 else r.l.take 32
/-- What a text is behind its length. -/
def Rs.text1 (r : Rs) (most : Nat) : Rs := if most < r.num 1 then (r.take 1).wrong 4 else r.take 1
def Rs.text (r : Rs) (most : Nat) : List Nat := if (r.text1 most).e = 0 then (r.text1 most).out (r.num 1) else []
def Rs.textR (r : Rs) (most : Nat) : Rs := if (r.text1 most).e = 0 then (r.text1 most).take (r.num 1) else r.text1 most
def Rs.end (r : Rs) : Nat := if r.e = 0 ∧ 0 < r.l.length then 4 else r.e
/-- Bytes. -/
def Byt (l : List Nat) : Prop := ∀ b ∈ l, b < 256
theorem Byt.drop {l : List Nat} (h : Byt l) (m : Nat) : Byt (l.drop m) := fun b hb => h b (List.mem_of_mem_drop hb)
theorem Byt.take {l : List Nat} (h : Byt l) (m : Nat) : Byt (l.take m) := fun b hb => h b (List.mem_of_mem_take hb)
theorem Byt.nil : Byt [] := fun _ h => by cases h
theorem Byt.wrong {r : Rs} (h : Byt r.l) (c : Nat) : Byt (r.wrong c).l := by
  unfold Rs.wrong; split
  · exact Byt.nil
  · exact h
theorem Byt.rtake {r : Rs} (h : Byt r.l) (m : Nat) : Byt (r.take m).l := by
  unfold Rs.take; split
  · exact h.wrong 3
  · exact h.drop m
theorem Byt.out {r : Rs} (h : Byt r.l) (m : Nat) : Byt (r.out m) := by
  unfold Rs.out; split
  · exact Byt.nil
  · exact h.take m
theorem out_length_le (r : Rs) (m : Nat) : (r.out m).length ≤ m := by
  unfold Rs.out; split <;> simp <;> omega

def rrS (b : Nat) (ao : Option Addr) (r : Rs) : Nat → Prop := Or2 (One b) (Ar ao (B r.l))
structure RrAt (tr : Nat) (w : World) (b : Nat) (ao : Option Addr) (cap : Nat) (r : Rs) : Prop where
  blk : w.heap[b]? = some (.cells #[.slice ao r.l.length cap, .int .i64 (r.e : Int)] tr (0, 0))
  cap : r.l.length ≤ cap
  rd : Rd w ao (B r.l)
  dis : Dis (Ar ao (B r.l)) (One b)
theorem RrAt.keep {tr : Nat} {w w' : World} {b : Nat} {ao : Option Addr} {cap : Nat} {r : Rs} {S : Nat → Prop} (h : RrAt tr w b ao cap r) (F : Fr w w' S) (hd : Dis (rrS b ao r) S) : RrAt tr w' b ao cap r :=
  ⟨F.keep h.blk hd.left, h.cap, h.rd.keep' F hd.right, h.dis⟩
theorem RrAt.in {tr : Nat} {w : World} {b : Nat} {ao : Option Addr} {cap : Nat} {r : Rs} (h : RrAt tr w b ao cap r) : In w (rrS b ao r) := fun k hk => by
  rcases hk with hk | hk
  · rw [hk]; exact lt_of_get h.blk
  · exact h.rd.in k hk
theorem SlF_nil (xs : List Value) : SlF (.slice none 0 0) xs = N0 := by
  funext k
  simp [SlF, Ar, N0]
theorem B_take (l : List Nat) (n : Nat) : B (l.take n) = (B l).take n := by simp [B]
theorem B_drop (l : List Nat) (n : Nat) : B (l.drop n) = (B l).drop n := by simp [B]
theorem B_ne {l m : List Nat} (h : m ≠ [] → l ≠ []) : B m ≠ [] → B l ≠ [] := fun hm hl => by
  have : l = [] := by simpa [B] using hl
  exact h (fun e => hm (by simp [B, e])) this
/-- An array and a list, shut. -/
theorem num_snoc (l : List Nat) (b : Nat) : num (l ++ [b]) = num l * 256 + b := by simp [num]
theorem num_lt' : ∀ (l : List Nat) (n N : Nat), Byt l → n < N → l.foldl (fun n b => n * 256 + b) n < N * 256 ^ l.length
  | [], n, N, _, h => by simpa using h
  | b :: l, n, N, hB, h => by
    have hb : b < 256 := hB b (by simp)
    have h1 := num_lt' l (n * 256 + b) (N * 256) (fun x hx => hB x (by simp [hx])) (by omega)
    simp only [List.foldl_cons, List.length_cons]
    rw [Nat.pow_succ, Nat.mul_comm (256 ^ l.length) 256, ← Nat.mul_assoc]
    exact h1
theorem num_lt (l : List Nat) (h : Byt l) : num l < 256 ^ l.length := by
  have := num_lt' l 0 1 h (by decide)
  simpa [num] using this
end Go.Alm

namespace Go.Alm
open Go Go.RowKit
theorem getD_lt {l : List Nat} (h : Byt l) (k : Nat) : l.getD k 0 < 256 := by
  rcases Nat.lt_or_ge k l.length with hk | hk
  · have : l.getD k 0 = l[k] := by simp [hk]
    rw [this]; exact h _ (List.getElem_mem hk)
  · have : l.getD k 0 = 0 := by simp [List.getElem?_eq_none hk]
    omega
theorem take_snoc (l : List Nat) (k : Nat) (h : k < l.length) : l.take (k + 1) = l.take k ++ [l.getD k 0] := by
  rw [List.take_add_one]
  simp [h]
theorem num_take_lt {l : List Nat} (h : Byt l) {k N : Nat} (hk : k ≤ N) : num (l.take k) < 256 ^ N := by
  refine Nat.lt_of_lt_of_le (num_lt _ (h.take k)) (Nat.pow_le_pow_right (by decide) ?_)
  rw [List.length_take]; omega
theorem shl_step {a : Nat} (h : a < 256 ^ 7) : IntKind.u64.wrap ((a : Int) * 2 ^ 8) = ((a * 256 : Nat) : Int) := by
  rw [wrap_u64]
  have : (2 : Int) ^ 8 = 256 := by decide
  rw [this]
  omega
theorem or_step {a b : Nat} (h : a < 256 ^ 7) (hb : b < 256) : ((BitVec.ofInt 64 ((a * 256 : Nat) : Int) ||| BitVec.ofInt 64 (b : Int)).toNat : Int) = ((a * 256 + b : Nat) : Int) := by
  congr 1
  rw [BitVec.toNat_or]
  have e1 : (BitVec.ofInt 64 ((a * 256 : Nat) : Int)).toNat = a * 256 := by rw [BitVec.ofInt_natCast, BitVec.toNat_ofNat]; omega
  have e2 : (BitVec.ofInt 64 (b : Int)).toNat = b := by rw [BitVec.ofInt_natCast, BitVec.toNat_ofNat]; omega
  rw [e1, e2]
  have e3 : a * 256 = a <<< 8 := by rw [Nat.shiftLeft_eq]
  rw [e3, Nat.shiftLeft_add_eq_or_of_lt (by omega)]
theorem num_step {l : List Nat} (h : Byt l) {k : Nat} (hk : k < l.length) (h8 : k < 8) :
    ((BitVec.ofInt 64 ((num (l.take k) * 256 : Nat) : Int) ||| BitVec.ofInt 64 ((l.getD k 0 : Nat) : Int)).toNat : Int) = ((num (l.take (k + 1)) : Nat) : Int) := by
  rw [or_step (num_take_lt h (by omega)) (getD_lt h k), take_snoc l k hk, num_snoc]
theorem num_step' {l : List Nat} (h : Byt l) {k : Nat} (hk : k < l.length) (h8 : k < 8) :
    IntKind.u64.wrap ((BitVec.ofInt 64 ((num (l.take k) * 256 : Nat) : Int) ||| BitVec.ofInt 64 ((l.getD k 0 : Nat) : Int)).toNat : Int) = ((num (l.take (k + 1)) : Nat) : Int) := by
  rw [num_step h hk h8]
  have := num_take_lt h (k := k + 1) (N := 8) (by omega)
  exact wrapN_u64 (by omega) (by omega)
theorem Row.ar {w : World} {e sz n c : Nat} {ao : Option Addr} {xs : List Value} (h : Row w e sz (.slice ao n c) n xs) : Sub (Ar ao xs) (Own (.slice ao n c)) := by
  obtain ⟨ao', cap, hv, _, _, _, ho⟩ := h.read
  cases hv
  rintro k ⟨_, ad, rfl, rfl⟩
  exact (ho ad rfl).1
theorem Row.rd {w : World} {e sz n c : Nat} {ao : Option Addr} {xs : List Value} (h : Row w e sz (.slice ao n c) n xs) : Rd w ao xs := by
  obtain ⟨ao', cap, hv, _, _, hR, _⟩ := h.read
  cases hv
  exact hR
theorem Row.le {w : World} {e sz n c : Nat} {ao : Option Addr} {xs : List Value} (h : Row w e sz (.slice ao n c) n xs) : n ≤ c := by
  obtain ⟨ao', cap, hv, hc, _, _, _⟩ := h.read
  cases hv
  exact hc
theorem Row.src {P : Program} {w : World} {tx e e' sz n : Nat} {v : Value} {xs : List Value} (hk : P.underlying tx = some (.slice e')) (h : Row w e sz v n xs) (hs : 0 < sz) (h1 : ∀ u ∈ xs, u.oneCell' = true) : Src P sz tx v n xs w := by
  obtain ⟨ao, cap, rfl, _, _, hR, _⟩ := h.read
  exact Rd.src hk hR h.length hs h1
theorem RrAt.made {tr t8 : Nat} {w : World} {b : Nat} {ao : Option Addr} {c : Nat} {l : List Nat} (hb : w.heap[b]? = some (.cells #[.slice ao l.length c, .int .i64 0] tr (0, 0))) (hr : Row w t8 1 (.slice ao l.length c) l.length (B l))
    (d : Dis (Own (.slice ao l.length c)) (One b)) : RrAt tr w b ao c ⟨0, l⟩ := ⟨hb, hr.le, hr.rd, hr.ar.dis d⟩
theorem Rs.num_lt {r : Rs} (h : Byt r.l) {m N : Nat} (hm : m ≤ N) : r.num m < 256 ^ N :=
  Nat.lt_of_lt_of_le (Go.Alm.num_lt _ (h.out m)) (Nat.pow_le_pow_right (by decide) (Nat.le_trans (out_length_le r m) hm))
theorem hash_copy {r : Rs} {z : Array Value} (hz : z = hv (List.replicate 32 0)) : spl z 0 ((B (r.out 32)).take 32).toArray = hv r.hash := by
  subst hz
  unfold Rs.out Rs.hash
  split
  · rfl
  · rename_i h
    have h32 : (r.l.take 32).length = 32 := by rw [List.length_take]; omega
    have e : ((B (r.l.take 32)).take 32).toArray = hv (r.l.take 32) := by
      rw [List.take_of_length_le (by rw [B_length, h32]; exact Nat.le_refl _), ← hv_B h32, Array.toArray_toList]
    rw [e]
    rfl
theorem hash_length (r : Rs) : r.hash.length = 32 := by
  unfold Rs.hash; split
  · rfl
  · rw [List.length_take]; omega
theorem Rd.cutB {w : World} {ao : Option Addr} {l : List Nat} (h : Rd w ao (B l)) (lo n m : Nat) (hm : m = lo → n = 0) : Rd w (cutA ao lo m 1) (B ((l.drop lo).take n)) := by
  have h := Rd.cut h lo n m 1 hm
  rwa [Nat.mul_one, Nat.mul_one, ← B_drop, ← B_take] at h
theorem Sub.cutB {ao : Option Addr} {l : List Nat} {lo n m : Nat} : Sub (Ar (cutA ao lo m 1) (B ((l.drop lo).take n))) (Ar ao (B l)) := Sub.cut (B_ne fun h e => h (by rw [e, List.drop_nil, List.take_nil]))
theorem pow2_8 (k : Nat) : (2 : Nat) ^ (8 * k) = 256 ^ k := by rw [Nat.pow_mul]
theorem putB_next (n k : Nat) : putB n (k + 1) (k + 1) = n / 256 ^ k % 256 :: putB n k k := by
  unfold putB
  rw [List.range_succ_eq_map, List.map_cons, List.map_map]
  have e0 : 8 * (k + 1 - 1 - 0) = 8 * k := by omega
  rw [e0, pow2_8]
  congr 1
  apply List.map_congr_left
  intro i _
  have e : 8 * (k + 1 - 1 - (i + 1)) = 8 * (k - 1 - i) := by omega
  simp only [Function.comp, Nat.succ_eq_add_one, e]
/-- What is left of a number behind so many bytes. -/
def lowQ (n : Nat) : Nat → Nat
  | 0 => n
  | k + 1 => lowQ n k / 256
theorem lowQ_eq (n : Nat) : ∀ k, lowQ n k = n / 256 ^ k
  | 0 => by simp [lowQ]
  | k + 1 => by rw [lowQ, lowQ_eq n k, Nat.div_div_eq_div_mul, Nat.pow_succ]
theorem lowQ_le (n k : Nat) : lowQ n k ≤ n := by rw [lowQ_eq]; exact Nat.div_le_self _ _
theorem put_head (n k : Nat) : #[Value.int .u8 ((lowQ n k % 256 : Nat) : Int)].toList ++ B (putB n k k) = B (putB n (k + 1) (k + 1)) := by rw [putB_next, lowQ_eq]; rfl

/-- The reference's reader: where it is; what went wrong. -/
structure Rf where
  at' : Nat
  e : Nat
/-- The reader that it is. -/
def Rf.r (l : List Nat) (q : Rf) : Rs := ⟨q.e, if q.e = 0 then l.drop q.at' else []⟩
theorem rf_dead {l : List Nat} {a e : Nat} (h : e ≠ 0) (m : Nat) : (Rf.r l ⟨a, e⟩).take m = Rf.r l ⟨a, e⟩ ∧ (Rf.r l ⟨a, e⟩).out m = [] := by
  have hr : Rf.r l ⟨a, e⟩ = ⟨e, []⟩ := by simp [Rf.r, h]
  rw [hr]
  constructor
  · unfold Rs.take Rs.wrong; simp [h]
  · unfold Rs.out; simp
theorem rf_short {l : List Nat} {a e m : Nat} (he : e = 0) (h : l.length - a < m) : (Rf.r l ⟨a, e⟩).take m = Rf.r l ⟨a, 3⟩ ∧ (Rf.r l ⟨a, e⟩).out m = [] := by
  subst he
  have hr : Rf.r l ⟨a, 0⟩ = ⟨0, l.drop a⟩ := by simp [Rf.r]
  rw [hr]
  constructor
  · unfold Rs.take Rs.wrong; simp [h, Rf.r]
  · unfold Rs.out; simp [h]
theorem rf_take {l : List Nat} {a e m : Nat} (he : e = 0) (h : ¬ l.length - a < m) : (Rf.r l ⟨a, e⟩).take m = Rf.r l ⟨a + m, e⟩ ∧ (Rf.r l ⟨a, e⟩).out m = (l.drop a).take m := by
  subst he
  have hr : Rf.r l ⟨a, 0⟩ = ⟨0, l.drop a⟩ := by simp [Rf.r]
  rw [hr]
  constructor
  · unfold Rs.take; simp [h, Rf.r, List.drop_drop]
  · unfold Rs.out; simp [h]
theorem Byt.rf {l : List Nat} (h : Byt l) (q : Rf) : Byt (Rf.r l q).l := by
  unfold Rf.r
  simp only
  split
  · exact h.drop _
  · exact Byt.nil
theorem num_step2 {l : List Nat} {k : Nat} (hk : k < l.length) (hb : Byt l) (h8 : k < 8) : IntKind.u64.wrap (((256 * num (l.take k) : Nat) : Int) + ((l.getD k 0 : Nat) : Int)) = ((num (l.take (k + 1)) : Nat) : Int) := by
  have e : num (l.take (k + 1)) = num (l.take k) * 256 + l.getD k 0 := by rw [take_snoc l k hk, num_snoc]
  have h1 := num_take_lt hb (k := k) (N := 7) (by omega)
  have h2 := getD_lt hb k
  rw [e]
  rw [wrapN_u64 (by omega) (by omega)]
  omega
theorem take_eq_step {l m : List Nat} {k : Nat} (h : l.take k = m.take k) (h1 : k < l.length) (h2 : k < m.length) (hb : l.getD k 0 = m.getD k 0) : l.take (k + 1) = m.take (k + 1) := by
  rw [take_snoc l k h1, take_snoc m k h2, h, hb]
/-- A digest's first bytes; then zeros. -/
def fillB (o : List Nat) (k : Nat) : List Nat := o.take k ++ List.replicate (32 - k) 0
theorem fillB_length {o : List Nat} {k : Nat} (h : k ≤ o.length) (h2 : k ≤ 32) : (fillB o k).length = 32 := by
  unfold fillB; rw [List.length_append, List.length_take, List.length_replicate]; omega
theorem fillB_step {o : List Nat} {k : Nat} (h : k < o.length) (h2 : k < 32) : (fillB o k).set k (o.getD k 0) = fillB o (k + 1) := by
  unfold fillB
  have e : 32 - k = (32 - (k + 1)) + 1 := by omega
  rw [List.set_append_right _ _ (by rw [List.length_take]; omega), List.length_take, take_snoc o k h, e, List.replicate_succ]
  have e2 : k - min k o.length = 0 := by omega
  rw [e2]
  simp
theorem fill_hash (r : Rs) : fillB (r.out 32) (r.out 32).length = r.hash := by
  unfold fillB Rs.out Rs.hash
  split
  · simp
  · rename_i h
    have : (r.l.take 32).length = 32 := by rw [List.length_take]; omega
    rw [this, List.take_take]
    simp
theorem hv_set {l : List Nat} {k x : Nat} (hl : l.length = 32) (hk : k < 32) : spl (hv l) (0 + k * 1) #[.int .u8 (x : Int)] = hv (l.set k x) := by
  have h1 := hv_B hl
  have h2 : (hv (l.set k x)).toList = B (l.set k x) := hv_B (by simpa using hl)
  apply Array.toList_inj.1
  rw [h2]
  unfold spl
  rw [h1]
  have e : 0 + k * 1 = k := by omega
  rw [e]
  have hk' : k < l.length := by omega
  rw [List.set_eq_take_append_cons_drop, if_pos hk']
  simp [B]
theorem rf_len {l : List Nat} {a e : Nat} (h : e = 0) : (Rf.r l ⟨a, e⟩).l.length = l.length - a := by simp [Rf.r, h]
theorem rf_len0 {l : List Nat} {a e : Nat} (h : e ≠ 0) : (Rf.r l ⟨a, e⟩).l.length = 0 := by simp [Rf.r, h]
theorem rf_e {l : List Nat} {a e : Nat} : (Rf.r l ⟨a, e⟩).e = e := rfl
theorem rf_textA {l : List Nat} {Q : Rs} {a e m : Nat} (h : Rf.r l ⟨a, e⟩ = Q.take 1) (he : e = 0) (hm : m < Q.num 1) : Q.textR m = Rf.r l ⟨a, 4⟩ ∧ Q.text m = [] ∧ (Rf.r l ⟨a, 4⟩).take (Q.num 1) = Rf.r l ⟨a, 4⟩ ∧ (Rf.r l ⟨a, 4⟩).out (Q.num 1) = [] := by
  have h1 : Q.text1 m = ⟨4, []⟩ := by
    unfold Rs.text1; rw [if_pos hm, ← h]; simp [Rs.wrong, Rf.r, he]
  have h2 : Rf.r l ⟨a, 4⟩ = ⟨4, []⟩ := by simp [Rf.r]
  refine ⟨?_, ?_, (rf_dead (by decide) _).1, (rf_dead (by decide) _).2⟩
  · unfold Rs.textR; rw [h1, h2]; rfl
  · unfold Rs.text; rw [h1]; rfl
theorem rf_textB {l : List Nat} {Q : Rs} {a e m : Nat} (h : Rf.r l ⟨a, e⟩ = Q.take 1) (he : e = 0) (hm : ¬ m < Q.num 1) : Q.textR m = (Rf.r l ⟨a, e⟩).take (Q.num 1) ∧ Q.text m = (Rf.r l ⟨a, e⟩).out (Q.num 1) := by
  have h1 : Q.text1 m = Rf.r l ⟨a, e⟩ := by unfold Rs.text1; rw [if_neg hm, ← h]
  have h2 : (Rf.r l ⟨a, e⟩).e = 0 := he
  constructor
  · unfold Rs.textR; rw [h1, if_pos h2]
  · unfold Rs.text; rw [h1, if_pos h2]
theorem rf_textC {l : List Nat} {Q : Rs} {a e m : Nat} (h : Rf.r l ⟨a, e⟩ = Q.take 1) (he : e ≠ 0) : Q.textR m = (Rf.r l ⟨a, e⟩).take (Q.num 1) ∧ Q.text m = (Rf.r l ⟨a, e⟩).out (Q.num 1) := by
  have h1 : Q.text1 m = Rf.r l ⟨a, e⟩ := by
    unfold Rs.text1; rw [← h]
    split
    · unfold Rs.wrong; rw [if_neg (show ¬ (Rf.r l ⟨a, e⟩).e = 0 from he)]
    · rfl
  have h2 : ¬ (Rf.r l ⟨a, e⟩).e = 0 := he
  rw [(rf_dead he _).1, (rf_dead he _).2]
  constructor
  · unfold Rs.textR; rw [h1, if_neg h2]
  · unfold Rs.text; rw [h1, if_neg h2]
theorem rf_endA {l : List Nat} {a e : Nat} (he : e = 0) (h : a < l.length) : (Rf.r l ⟨a, e⟩).end = 4 := by
  unfold Rs.end
  rw [if_pos ⟨he, by rw [rf_len he]; omega⟩]
theorem rf_endB {l : List Nat} {a e : Nat} (h : ¬ (e = 0 ∧ a < l.length)) : (Rf.r l ⟨a, e⟩).end = e := by
  unfold Rs.end
  rw [if_neg]
  · rfl
  · rintro ⟨he, h1⟩
    have he : e = 0 := he
    rw [rf_len he] at h1
    exact h ⟨he, by omega⟩
theorem putB_one {n : Nat} (h : n < 256) : putB n 1 1 = [n] := by
  have : n / 2 ^ 0 % 256 = n := by simp; omega
  simp [putB]
  omega
theorem Byt.hash {r : Rs} (h : Byt r.l) : Byt r.hash := by
  unfold Rs.hash; split
  · intro b hb; have := List.eq_of_mem_replicate hb; omega
  · exact h.take 32
theorem wrong_len (r : Rs) (c : Nat) : (r.wrong c).l.length ≤ r.l.length := by unfold Rs.wrong; split <;> simp
theorem take_len (r : Rs) (m : Nat) : (r.take m).l.length ≤ r.l.length := by
  unfold Rs.take; split
  · exact wrong_len r 3
  · simp
theorem out_len (r : Rs) (m : Nat) : (r.out m).length ≤ r.l.length := by unfold Rs.out; split <;> simp <;> omega
theorem text1_len (r : Rs) (m : Nat) : (r.text1 m).l.length ≤ r.l.length := by
  unfold Rs.text1; split
  · exact Nat.le_trans (wrong_len _ _) (take_len r 1)
  · exact take_len r 1
theorem text_len (r : Rs) (m : Nat) : (r.text m).length ≤ r.l.length := by
  unfold Rs.text; split
  · exact Nat.le_trans (out_len _ _) (text1_len r m)
  · simp
theorem textR_len (r : Rs) (m : Nat) : (r.textR m).l.length ≤ r.l.length := by
  unfold Rs.textR; split
  · exact Nat.le_trans (take_len _ _) (text1_len r m)
  · exact text1_len r m
theorem Row.appB {w : World} {e n m : Nat} {v : Value} {a b : List Nat} {xs : List Value} (h : Row w e 1 v (n + m) (B a ++ xs)) (hx : xs = B b) : Row w e 1 v (a ++ b).length (B (a ++ b)) := by
  subst hx
  rw [← B_append] at h
  have hl := h.length
  rw [B_length] at hl
  rw [hl]
  simpa using h
theorem WrAt.nil {t8 tw : Nat} {w : World} {b : Nat} (h : w.heap[b]? = some (.cells #[.slice none 0 0] tw (0, 0))) : WrAt t8 tw w b (.slice none 0 0) [] := ⟨h, Row.nil _ _ _, by rw [Own_nil]; exact Dis.n0'⟩
theorem New.wrNil {w : World} {S : Nat → Prop} {b : Nat} (h : New w S (One b)) : New w S (wrS b (.slice none 0 0)) := by
  unfold wrS; rw [Own_nil]; exact New.two h (fun _ h => h.elim)
theorem Dis.wrNil {T : Nat → Prop} {b : Nat} (h : Dis (One b) T) : Dis (wrS b (.slice none 0 0)) T := by
  unfold wrS; rw [Own_nil]; exact Dis.or h Dis.n0'
theorem SlV.of_blk {w : World} {b t off n cap : Nat} {c : Array Value} {fz : Nat × Nat} {l : List Nat} (hb : w.heap[b]? = some (.cells c t fz)) (hl : (c.toList.drop off).take l.length = B l) : SlV w (.slice (some ⟨b, off, none⟩) n cap) n (B l) :=
  ⟨_, _, rfl, by rw [← hl]; exact (Rd.of_blkN hb off).take _⟩
theorem Sub.arOne {b off : Nat} {xs : List Value} : Sub (Ar (some ⟨b, off, none⟩) xs) (One b) := by
  rintro k ⟨_, ad, h, rfl⟩
  cases h
  rfl
theorem Byt.all {l : List Nat} (h : l.all (fun b => Nat.blt b 256) = true) : Byt l := fun b hb => by
  have := List.all_eq_true.1 h b hb
  simpa using this
end Go.Alm

/- Equality of arrays of numbers, by the kit's law for keys. -/
namespace Go.Alm
open Go Go.RowKit

section
variable {P : Program} {a : Act} {w : World} {o : Oper}

theorem map_inj' {α β : Type} {f : α → β} (hf : ∀ x y, f x = f y → x = y) : ∀ {l m : List α}, l.map f = m.map f → l = m
  | [], [], _ => rfl
  | [], _ :: _, h => by simp at h
  | _ :: _, [], h => by simp at h
  | x :: l, y :: m, h => by
    simp only [List.map_cons, List.cons.injEq] at h
    rw [hf x y h.1, map_inj' hf h.2]
/-- Is `t` an array of so many numbers of a kind? -/
def arrInt (P : Program) (t : TypeId) : Option (Nat × IntKind) := match P.underlying t with
  | some (.array n e) => match P.underlying e with
    | some (.int q) => if P.cellsOf e = 1 ∧ P.cellsOf t = n then some (n, q) else none
    | _ => none
  | _ => none

theorem keyLits_ints {t n : Nat} {q : IntKind} (h : arrInt P t = some (n, q)) (l : List Int) (hl : l.length = n) (hw : ∀ x ∈ l, (Lit.int q x).wf = true) :
    P.keyLits 2 t (l.map (.int q ·)) = some (l.map (.int q ·)) := by
  unfold arrInt at h
  split at h
  · rename_i n' e ht
    split at h
    · rename_i q' he
      split at h
      · rename_i hc
        simp only [Option.some.injEq, Prod.mk.injEq] at h
        obtain ⟨rfl, rfl⟩ := h
        have h1 : ((List.range n').mapM fun i => P.keyLits 1 e (((l.map (Value.int q' ·)).drop (i * P.cellsOf e)).take (P.cellsOf e))) = some ((List.range n').map fun i => [Lit.int q' (l.getD i 0)]) := by
          refine mapM_some_of_forall _ fun i hi => ?_
          have hi' : i < l.length := by rw [hl]; exact List.mem_range.1 hi
          have hd : ((l.map (Value.int q' ·)).drop (i * P.cellsOf e)).take (P.cellsOf e) = [.int q' l[i]] := by
            rw [hc.1, Nat.mul_one, List.drop_eq_getElem_cons (by simpa using hi')]
            simp
          rw [hd]
          simp only [Program.keyLits, he, hw _ (List.getElem_mem hi'), and_self, if_true]
          simp [hi']
        rw [show (2 : Nat) = 1 + 1 from rfl]
        unfold Program.keyLits
        simp only [ht, List.length_map, hl, hc.2, if_true]
        rw [h1]
        simp only [Option.map_some, Option.some.injEq]
        rw [← hl]
        clear h1 hw hl
        apply List.ext_getElem?
        intro j
        have : ((List.range l.length).map fun i => [Lit.int q' (l.getD i 0)]).flatten = (List.range l.length).map fun i => Lit.int q' (l.getD i 0) := by
          generalize List.range l.length = r
          induction r with
          | nil => rfl
          | cons x r ih => rw [List.map_cons, List.flatten_cons, ih, List.map_cons]; rfl
        rw [this]
        simp only [List.getElem?_map]
        by_cases hj : j < l.length
        · simp [hj]
        · simp [hj]
      · cases h
    · cases h
  · cases h

def eqlOf : Op → Option (Bool × TypeId × Operand × Operand)
  | .binOp .eql t x y _ => some (true, t, x, y)
  | .binOp .neq t x y _ => some (false, t, x, y)
  | _ => none

theorem run_eq_ints (b : Bool) (t : TypeId) (x y : Operand) (n : Nat) (q : IntKind) (l m : List Int) (ho : eqlOf o.op = some (b, t, x, y)) (ht : arrInt P t = some (n, q)) (hk : P.keyTypeAt 2 t = true) (hg : P.eqGuardType P.depth t = false) (hagg : ∀ cs : Array Value, Value.formed P t (.agg cs) = (cs.size == n))
    (hx : a.eval x = .agg (l.map (.int q ·)).toArray) (hy : a.eval y = .agg (m.map (.int q ·)).toArray) (hl : l.length = n) (hm : m.length = n) (wl : ∀ x ∈ l, (Lit.int q x).wf = true) (wm : ∀ x ∈ m, (Lit.int q x).wf = true) :
    (execOp a.eval o).run P w = .ok (.value (.bool (cond b (decide (l = m)) (!decide (l = m))))) w := by
  obtain ⟨r, hr, hiff⟩ := run_equalIn_deep (P := P) 9998 2 t hk w 2 2 (.agg (l.map (.int q ·)).toArray) (.agg (m.map (.int q ·)).toArray) _ _
    (by rw [hagg]; simp [hl]) (by rw [hagg]; simp [hm]) (by simpa [Value.cells] using keyLits_ints ht l hl wl) (by simpa [Value.cells] using keyLits_ints ht m hm wm)
  have hinj : (l.map (Lit.int q ·) = m.map (Lit.int q ·)) ↔ l = m := by
    constructor
    · intro h
      exact map_inj' (fun x y e => by injection e) h
    · rintro rfl; rfl
  have hr2 : r = decide (l = m) := by
    rw [hinj] at hiff
    cases r with
    | true => simp [hiff.1 rfl]
    | false =>
      have : ¬ l = m := fun e => by have := hiff.2 e; cases this
      simp [this]
  have heq : (Op.equal t (.agg (l.map (.int q ·)).toArray) (.agg (m.map (.int q ·)).toArray)).run P w = .ok (decide (l = m)) w := by
    unfold Op.equal Op.maxDepth
    rw [← hr2]
    exact hr
  unfold eqlOf at ho
  split at ho
  · rename_i t' x' y' yt hop
    simp only [Option.some.injEq, Prod.mk.injEq] at ho
    obtain ⟨rfl, rfl, rfl, rfl⟩ := ho
    unfold execOp
    simp only [hop, hx, hy, Sem.run_bind, run_eqGuard_agg w _ _ _ _ _ _ hg, Result.andThen_ok, binOp, heq, Sem.run_pure]
    simp
  · rename_i t' x' y' yt hop
    simp only [Option.some.injEq, Prod.mk.injEq] at ho
    obtain ⟨rfl, rfl, rfl, rfl⟩ := ho
    unfold execOp
    simp only [hop, hx, hy, Sem.run_bind, run_eqGuard_agg w _ _ _ _ _ _ hg, Result.andThen_ok, binOp, heq, Sem.run_pure]
    simp
  · cases ho

theorem hv_arr {l : List Nat} (h : l.length = 32) : hv l = ((l.map fun (x : Nat) => (x : Int)).map (.int .u8 ·)).toArray := by
  apply Array.toList_inj.1
  rw [hv_B h]
  simp [B]
theorem wf_u8 {x : Nat} (h : x < 256) : (Lit.int .u8 (x : Int)).wf = true := by
  simp only [Lit.wf, Bool.and_eq_true, decide_eq_true_eq]
  constructor
  · exact Int.le_trans (by decide) (Int.natCast_nonneg x)
  · have : IntKind.u8.max = 255 := by decide
    omega
theorem cast_inj {l m : List Nat} : (l.map fun (x : Nat) => (x : Int)) = (m.map fun (x : Nat) => (x : Int)) ↔ l = m := by
  constructor
  · intro h
    exact map_inj' (fun x y e => by omega) h
  · rintro rfl; rfl
/-- Two digests. -/
theorem run_eq_hash (b : Bool) (t : TypeId) (x y : Operand) (l m : List Nat) (ho : eqlOf o.op = some (b, t, x, y)) (ht : arrInt P t = some (32, .u8)) (hk : P.keyTypeAt 2 t = true) (hg : P.eqGuardType P.depth t = false)
    (hx : a.eval x = .agg (hv l)) (hy : a.eval y = .agg (hv m)) (hl : l.length = 32) (hm : m.length = 32) (wl : Byt l) (wm : Byt m) :
    (execOp a.eval o).run P w = .ok (.value (.bool (cond b (decide (l = m)) (!decide (l = m))))) w := by
  have hagg : ∀ cs : Array Value, Value.formed P t (.agg cs) = (cs.size == 32) := by
    intro cs
    unfold arrInt at ht
    split at ht
    · rename_i n' e hu
      split at ht
      · split at ht
        · rename_i hc
          simp only [Option.some.injEq, Prod.mk.injEq] at ht
          obtain ⟨rfl, rfl⟩ := ht
          simp [Value.formed, hu, hc.2]
        · cases ht
      · cases ht
    · cases ht
  have h := run_eq_ints (w := w) b t x y 32 .u8 (l.map fun (x : Nat) => (x : Int)) (m.map fun (x : Nat) => (x : Int)) ho ht hk hg hagg (by rw [hx, hv_arr hl]) (by rw [hy, hv_arr hm]) (by simpa using hl) (by simpa using hm)
    (fun z hz => by obtain ⟨n, hn, rfl⟩ := List.mem_map.1 hz; exact wf_u8 (wl n hn)) (fun z hz => by obtain ⟨n, hn, rfl⟩ := List.mem_map.1 hz; exact wf_u8 (wm n hn))
  have e : decide ((l.map fun (x : Nat) => (x : Int)) = (m.map fun (x : Nat) => (x : Int))) = decide (l = m) := by simp only [cast_inj]
  rw [h, e]
theorem run_eq_hash_self (t : TypeId) (x y : Operand) (l : List Nat) (ho : eqlOf o.op = some (true, t, x, y)) (ht : arrInt P t = some (32, .u8)) (hk : P.keyTypeAt 2 t = true) (hg : P.eqGuardType P.depth t = false)
    (hx : a.eval x = .agg (hv l)) (hy : a.eval y = .agg (hv l)) (hl : l.length = 32) (wl : Byt l) : (execOp a.eval o).run P w = .ok (.value (.bool true)) w := by
  have h := run_eq_hash (w := w) true t x y l l ho ht hk hg hx hy hl hl wl wl
  rw [decide_eq_true rfl] at h
  exact h
end
theorem beq_nat (a b : Nat) : ((a : Int) == (b : Int)) = decide (a = b) := by
  by_cases h : a = b
  · subst h; simp
  · have : ¬ (a : Int) = (b : Int) := by omega
    rw [decide_eq_false h]
    exact beq_eq_false_iff_ne.2 this
theorem bne_nat (a b : Nat) : ((a : Int) != (b : Int)) = !decide (a = b) := by
  rw [bne, beq_nat]
end Go.Alm

/- The digest, plainly; what its walks need of numbers of 32 bits. -/
namespace Go.Alm
open Go Go.RowKit

abbrev W32 := BitVec 32

/-! ### operations -/
theorem toNat_cast (a : W32) : BitVec.ofInt 32 (a.toNat : Int) = a := by
  rw [BitVec.ofInt_natCast]
  apply BitVec.eq_of_toNat_eq
  rw [BitVec.toNat_ofNat]
  have := a.isLt
  omega
theorem wrap_toNat (a : W32) : IntKind.u32.wrap (a.toNat : Int) = (a.toNat : Int) := wrapN_u32 (by omega) (by have := a.isLt; omega)
theorem bv_and (a b : W32) : IntKind.u32.wrap ((BitVec.ofInt 32 (a.toNat : Int) &&& BitVec.ofInt 32 (b.toNat : Int)).toNat : Int) = ((a &&& b).toNat : Int) := by rw [toNat_cast, toNat_cast, wrap_toNat]
theorem bv_or (a b : W32) : IntKind.u32.wrap ((BitVec.ofInt 32 (a.toNat : Int) ||| BitVec.ofInt 32 (b.toNat : Int)).toNat : Int) = ((a ||| b).toNat : Int) := by rw [toNat_cast, toNat_cast, wrap_toNat]
theorem bv_xor (a b : W32) : IntKind.u32.wrap ((BitVec.ofInt 32 (a.toNat : Int) ^^^ BitVec.ofInt 32 (b.toNat : Int)).toNat : Int) = ((a ^^^ b).toNat : Int) := by rw [toNat_cast, toNat_cast, wrap_toNat]
theorem bv_not (a : W32) : IntKind.u32.wrap ((BitVec.ofInt 32 4294967295 ^^^ BitVec.ofInt 32 (a.toNat : Int)).toNat : Int) = ((~~~a).toNat : Int) := by
  have e : BitVec.ofInt 32 4294967295 = BitVec.allOnes 32 := by decide
  rw [toNat_cast, e, BitVec.allOnes_xor, wrap_toNat]
theorem bv_add (a b : W32) : IntKind.u32.wrap ((a.toNat : Int) + (b.toNat : Int)) = ((a + b).toNat : Int) := by
  rw [wrap_u32, BitVec.toNat_add]; omega
theorem bv_sub (a b : W32) : IntKind.u32.wrap ((a.toNat : Int) - (b.toNat : Int)) = ((a - b).toNat : Int) := by
  have := a.isLt; have := b.isLt
  rw [wrap_u32, BitVec.toNat_sub]; omega
theorem bv_shr (a : W32) (n : Nat) : Int.fdiv (a.toNat : Int) (2 ^ n) = ((a >>> n).toNat : Int) := by
  rw [Int.fdiv_eq_ediv_of_nonneg _ (by exact Int.le_of_lt (Int.pow_pos (by decide))), BitVec.toNat_ushiftRight, Nat.shiftRight_eq_div_pow]
  simp
theorem bv_shl (a : W32) (n : Nat) : IntKind.u32.wrap ((a.toNat : Int) * 2 ^ n) = ((a <<< n).toNat : Int) := by
  rw [wrap_u32, BitVec.toNat_shiftLeft, Nat.shiftLeft_eq]
  simp

/-! ### the digest -/
def turn (x : W32) (k : Nat) : W32 := x >>> k ||| x <<< ((32 - k) % 32)
def sg (x : W32) (a b c : Nat) : W32 := turn x a ^^^ turn x b ^^^ turn x c
def sh (x : W32) (a b c : Nat) : W32 := turn x a ^^^ turn x b ^^^ x >>> c
/-- A block's number. -/
def wd (q : List Nat) (t : Nat) : W32 := BitVec.ofNat 32 (num ((q.drop (4 * t)).take 4))
def wnx (w : List W32) (t : Nat) : W32 := sh (w.getD (t - 2) 0) 17 19 10 + w.getD (t - 7) 0 + sh (w.getD (t - 15) 0) 7 18 3 + w.getD (t - 16) 0
def wS (q : List Nat) : Nat → List W32
  | 0 => List.replicate 64 0
  | t + 1 => (wS q t).set t (if t < 16 then wd q t else wnx (wS q t) t)
def KL : List W32 := [0x428a2f98, 0x71374491, 0xb5c0fbcf, 0xe9b5dba5, 0x3956c25b, 0x59f111f1, 0x923f82a4, 0xab1c5ed5, 0xd807aa98, 0x12835b01, 0x243185be, 0x550c7dc3, 0x72be5d74, 0x80deb1fe, 0x9bdc06a7, 0xc19bf174,
  0xe49b69c1, 0xefbe4786, 0x0fc19dc6, 0x240ca1cc, 0x2de92c6f, 0x4a7484aa, 0x5cb0a9dc, 0x76f988da, 0x983e5152, 0xa831c66d, 0xb00327c8, 0xbf597fc7, 0xc6e00bf3, 0xd5a79147, 0x06ca6351, 0x14292967,
  0x27b70a85, 0x2e1b2138, 0x4d2c6dfc, 0x53380d13, 0x650a7354, 0x766a0abb, 0x81c2c92e, 0x92722c85, 0xa2bfe8a1, 0xa81a664b, 0xc24b8b70, 0xc76c51a3, 0xd192e819, 0xd6990624, 0xf40e3585, 0x106aa070,
  0x19a4c116, 0x1e376c08, 0x2748774c, 0x34b0bcb5, 0x391c0cb3, 0x4ed8aa4a, 0x5b9cca4f, 0x682e6ff3, 0x748f82ee, 0x78a5636f, 0x84c87814, 0x8cc70208, 0x90befffa, 0xa4506ceb, 0xbef9a3f7, 0xc67178f2]
def IL : List W32 := [0x6a09e667, 0xbb67ae85, 0x3c6ef372, 0xa54ff53a, 0x510e527f, 0x9b05688c, 0x1f83d9ab, 0x5be0cd19]
def chs (S : List W32) : W32 := S.getD 4 0 &&& S.getD 5 0 ^^^ ~~~S.getD 4 0 &&& S.getD 6 0
def maj (S : List W32) : W32 := S.getD 0 0 &&& S.getD 1 0 ^^^ S.getD 0 0 &&& S.getD 2 0 ^^^ S.getD 1 0 &&& S.getD 2 0
def one (W S : List W32) (t : Nat) : W32 := S.getD 7 0 + sg (S.getD 4 0) 6 11 25 + chs S + KL.getD t 0 + W.getD t 0
def two (S : List W32) : W32 := sg (S.getD 0 0) 2 13 22 + maj S
def rd1 (W S : List W32) (t : Nat) : List W32 := [one W S t + two S, S.getD 0 0, S.getD 1 0, S.getD 2 0, S.getD 3 0 + one W S t, S.getD 4 0, S.getD 5 0, S.getD 6 0]
def rdN (W S : List W32) : Nat → List W32
  | 0 => S
  | t + 1 => rd1 W (rdN W S t) t
/-- The first of a list's numbers with another one's added. -/
def addN (S R : List W32) (k : Nat) : List W32 := (List.range 8).map fun i => if i < k then S.getD i 0 + R.getD i 0 else S.getD i 0
def compress (S : List W32) (q : List Nat) : List W32 := addN S (rdN (wS q 64) S 64) 8

/-! ### arrays of numbers -/
def hw (l : List W32) : Array Value := ((List.range 64).map fun i => Value.int .u32 ((l.getD i 0).toNat : Int)).toArray
def hw8 (l : List W32) : Array Value := #[.int .u32 ((l.getD 0 0).toNat : Int), .int .u32 ((l.getD 1 0).toNat : Int), .int .u32 ((l.getD 2 0).toNat : Int), .int .u32 ((l.getD 3 0).toNat : Int), .int .u32 ((l.getD 4 0).toNat : Int), .int .u32 ((l.getD 5 0).toNat : Int), .int .u32 ((l.getD 6 0).toNat : Int), .int .u32 ((l.getD 7 0).toNat : Int)]
def hq (l : List Nat) : Array Value := ((List.range 64).map fun i => Value.int .u8 ((l.getD i 0 : Nat) : Int)).toArray
/-- A hasher's cells. -/
def hsC (S : List W32) (q : List Nat) (n : Nat) : Array Value := hw8 S ++ hq q ++ #[.int .u64 (n : Int)]
theorem hw8_eq (l : List W32) : hw8 l = ((List.range 8).map fun i => Value.int .u32 ((l.getD i 0).toNat : Int)).toArray := rfl
theorem hw_get (l : List W32) (k : Nat) (h : k < 64) : (hw l)[0 + k * 1]? = some (.int .u32 ((l.getD k 0).toNat : Int)) := by simp [hw, h]
theorem hw8_get (l : List W32) (k : Nat) (h : k < 8) : (hw8 l)[0 + k * 1]? = some (.int .u32 ((l.getD k 0).toNat : Int)) := by simp [hw8_eq, h]
theorem get_app {a b : Array Value} {k n : Nat} {v : Value} (hs : a.size = n) (hk : k < n) (h : a[0 + k * 1]? = some v) : (a ++ b)[0 + k * 1]? = some v := by
  rw [Array.getElem?_append_left (by omega)]; exact h
theorem spl_map {n k : Nat} {f g : Nat → Value} (hk : k < n) (v : Value) (hv : v = g k) (he : ∀ i, i < n → i ≠ k → g i = f i) :
    spl ((List.range n).map f).toArray (0 + k * 1) #[v] = ((List.range n).map g).toArray := by
  subst hv
  unfold spl
  have e0 : 0 + k * 1 = k := by omega
  have hl : ((List.range n).map f).length = n := by simp
  have e1 : ((List.range n).map f).toArray.toList.take (0 + k * 1) ++ #[g k].toList ++ ((List.range n).map f).toArray.toList.drop (0 + k * 1 + #[g k].size) = ((List.range n).map f).set k (g k) := by
    rw [e0, List.set_eq_take_append_cons_drop, if_pos (by rw [hl]; exact hk)]
    simp
  rw [e1]
  congr 1
  apply List.ext_getElem?
  intro i
  by_cases hi : i < n
  · by_cases hik : i = k
    · subst hik; simp [hi]
    · rw [List.getElem?_set_ne (fun e => hik e.symm)]; simp [hi, he i hi hik]
  · rw [List.getElem?_eq_none (by simpa using hi), List.getElem?_eq_none (by simpa using hi)]
theorem spl_app {a b c : Array Value} {k n : Nat} {v : Value} (hs : a.size = n) (hk : k < n) (h : spl a (0 + k * 1) #[v] = c) : spl (a ++ b) (0 + k * 1) #[v] = c ++ b := by
  subst h
  unfold spl
  apply Array.toList_inj.1
  have e0 : 0 + k * 1 = k := by omega
  have hk' : k < a.toList.length := by simp; omega
  simp only [Array.toList_append, e0]
  rw [List.take_append_of_le_length (by omega), List.drop_append_of_le_length (by simp; omega)]
  simp
theorem wS_length (q : List Nat) : ∀ t, (wS q t).length = 64
  | 0 => by simp [wS]
  | t + 1 => by rw [wS, List.length_set]; exact wS_length q t
theorem getD_set {l : List W32} {k i : Nat} {x : W32} (hk : k < l.length) : (l.set k x).getD i 0 = if i = k then x else l.getD i 0 := by
  simp only [List.getD_eq_getElem?_getD, List.getElem?_set]
  by_cases h : k = i
  · subst h; simp [hk]
  · rw [if_neg h, if_neg (fun e => h e.symm)]
theorem hw_set {l : List W32} {k : Nat} {x : W32} (hl : l.length = 64) (hk : k < 64) : spl (hw l) (0 + k * 1) #[.int .u32 (x.toNat : Int)] = hw (l.set k x) :=
  spl_map hk _ (by rw [getD_set (by omega), if_pos rfl]) fun i _ h => by rw [getD_set (by omega), if_neg h]
theorem addN_get {S R : List W32} {k i : Nat} (h : i < 8) : (addN S R k).getD i 0 = if i < k then S.getD i 0 + R.getD i 0 else S.getD i 0 := by
  unfold addN
  simp [h]
theorem hw8_add {S R : List W32} {k : Nat} (hk : k < 8) : spl (hw8 (addN S R k)) (0 + k * 1) #[.int .u32 ((((addN S R k).getD k 0) + R.getD k 0).toNat : Int)] = hw8 (addN S R (k + 1)) := by
  rw [hw8_eq, hw8_eq]
  refine spl_map hk _ ?_ fun i hi h => ?_
  · rw [addN_get hk, addN_get hk, if_neg (by omega), if_pos (by omega)]
  · rw [addN_get hi, addN_get hi]
    by_cases h1 : i < k
    · rw [if_pos h1, if_pos (by omega)]
    · rw [if_neg h1, if_neg (by omega)]

/-! ### a block's numbers -/
theorem wd_step {q : List Nat} (hB : Byt q) {t k : Nat} (hk : k < 4) (hq : 4 * t + 4 ≤ q.length) :
    BitVec.ofNat 32 (num (((q.drop (4 * t)).take 4).take k)) <<< 8 ||| BitVec.ofNat 32 (((q.drop (4 * t)).take 4).getD k 0) = BitVec.ofNat 32 (num (((q.drop (4 * t)).take 4).take (k + 1))) := by
  have hb : Byt ((q.drop (4 * t)).take 4) := (hB.drop _).take 4
  have hlen : ((q.drop (4 * t)).take 4).length = 4 := by rw [List.length_take, List.length_drop]; omega
  generalize (q.drop (4 * t)).take 4 = p at hb hlen ⊢
  have h1 := num_take_lt hb (k := k) (N := 3) (by omega)
  have h2 := getD_lt hb k
  apply BitVec.eq_of_toNat_eq
  rw [BitVec.toNat_or, BitVec.toNat_shiftLeft, BitVec.toNat_ofNat, BitVec.toNat_ofNat, BitVec.toNat_ofNat, take_snoc p k (by omega), num_snoc]
  have e1 : num (p.take k) % 2 ^ 32 = num (p.take k) := Nat.mod_eq_of_lt (by omega)
  have e2 : p.getD k 0 % 2 ^ 32 = p.getD k 0 := Nat.mod_eq_of_lt (by omega)
  have e3 : num (p.take k) <<< 8 % 2 ^ 32 = num (p.take k) <<< 8 := Nat.mod_eq_of_lt (by rw [Nat.shiftLeft_eq]; omega)
  rw [e1, e2, e3, ← Nat.shiftLeft_add_eq_or_of_lt (by omega), Nat.shiftLeft_eq]
  omega
theorem conv_u32 {c : Nat} (h : c < 256) : IntKind.u32.wrap ((c : Nat) : Int) = ((BitVec.ofNat 32 c).toNat : Int) := by
  rw [wrapN_u32 (by omega) (by omega), BitVec.toNat_ofNat]
  omega
theorem and31 {k : Nat} (h : k < 32) : IntKind.i64.wrap ((BitVec.ofInt 64 (k : Int) &&& BitVec.ofInt 64 (31 : Int)).toNat : Int) = (k : Int) := by
  have e : (BitVec.ofInt 64 (k : Int) &&& BitVec.ofInt 64 (31 : Int)).toNat = k := by
    rw [BitVec.toNat_and, BitVec.ofInt_natCast, BitVec.toNat_ofNat]
    have e2 : (BitVec.ofInt 64 (31 : Int)).toNat = 2 ^ 5 - 1 := by decide
    rw [e2, Nat.and_two_pow_sub_one_eq_mod]
    omega
  rw [e]
  exact wrapN_i64 (by omega) (by omega)
theorem and31' {k : Nat} (h : k < 32) : IntKind.i64.wrap ((BitVec.ofInt 64 ((32 : Int) - (k : Int)) &&& BitVec.ofInt 64 (31 : Int)).toNat : Int) = (((32 - k) % 32 : Nat) : Int) := by
  have e0 : (32 : Int) - (k : Int) = ((32 - k : Nat) : Int) := by omega
  have e : (BitVec.ofInt 64 ((32 - k : Nat) : Int) &&& BitVec.ofInt 64 (31 : Int)).toNat = (32 - k) % 32 := by
    rw [BitVec.toNat_and, BitVec.ofInt_natCast, BitVec.toNat_ofNat]
    have e2 : (BitVec.ofInt 64 (31 : Int)).toNat = 2 ^ 5 - 1 := by decide
    rw [e2, Nat.and_two_pow_sub_one_eq_mod]
    omega
  rw [e0, e]
  exact wrapN_i64 (by omega) (by omega)
theorem shr_turn (x : W32) {k : Nat} (h : k < 32) : Int.fdiv (x.toNat : Int) (2 ^ (min ((k : Int)).toNat 32)) = ((x >>> k).toNat : Int) := by
  rw [show min ((k : Int)).toNat 32 = k from by omega]
  exact bv_shr x k
theorem shl_turn (x : W32) {k : Nat} (h : k < 32) : IntKind.u32.wrap ((x.toNat : Int) * 2 ^ (min ((k : Nat) : Int).toNat 32)) = ((x <<< k).toNat : Int) := by
  rw [show min ((k : Int)).toNat 32 = k from by omega]
  exact bv_shl x k

/-! ### what was taken -/
def stN (l : List Nat) : Nat → List W32
  | 0 => IL
  | j + 1 => compress (stN l j) ((l.drop (64 * j)).take 64)
def stL (l : List Nat) : List W32 := stN l (l.length / 64)
/-- The bytes that are no block yet. -/
def tailL (l : List Nat) : List Nat := l.drop (64 * (l.length / 64))
theorem stN_app (l x : List Nat) : ∀ j, 64 * j ≤ l.length → stN (l ++ x) j = stN l j
  | 0, _ => rfl
  | j + 1, h => by
    rw [stN, stN, stN_app l x j (by omega), List.drop_append_of_le_length (by omega), List.take_append_of_le_length (by rw [List.length_drop]; omega)]
theorem tailL_length (l : List Nat) : (tailL l).length = l.length % 64 := by unfold tailL; rw [List.length_drop]; omega
theorem stL_lt {l x : List Nat} (h : l.length % 64 + x.length < 64) : stL (l ++ x) = stL l ∧ tailL (l ++ x) = tailL l ++ x := by
  have e : (l ++ x).length / 64 = l.length / 64 := by rw [List.length_append]; omega
  unfold stL tailL
  rw [e]
  exact ⟨stN_app l x _ (by omega), List.drop_append_of_le_length (by omega)⟩
theorem stL_full {l x : List Nat} (h : l.length % 64 + x.length = 64) : stL (l ++ x) = compress (stL l) (tailL l ++ x) ∧ tailL (l ++ x) = [] := by
  have e : (l ++ x).length / 64 = l.length / 64 + 1 := by rw [List.length_append]; omega
  constructor
  · unfold stL
    rw [e, stN, stN_app l x _ (by omega), List.drop_append_of_le_length (by omega)]
    unfold tailL
    rw [List.take_of_length_le (by rw [List.length_append, List.length_drop]; omega)]
  · unfold tailL
    rw [e]
    exact List.drop_eq_nil_of_le (by rw [List.length_append]; omega)
/-- A hasher: its block. -/
structure HsAt (tH : Nat) (w : World) (b : Nat) (l q : List Nat) : Prop where
  blk : w.heap[b]? = some (.cells (hsC (stL l) q l.length) tH (0, 0))
  len : q.length = 64
  byt : Byt q
  tail : q.take (l.length % 64) = tailL l
theorem HsAt.keep {tH : Nat} {w w' : World} {b : Nat} {l q : List Nat} {S : Nat → Prop} (h : HsAt tH w b l q) (F : Fr w w' S) (d : Dis (One b) S) : HsAt tH w' b l q := ⟨F.keep h.blk d, h.len, h.byt, h.tail⟩
theorem HsAt.in {tH : Nat} {w : World} {b : Nat} {l q : List Nat} (h : HsAt tH w b l q) : In w (One b) := In.one h.blk

/-! ### what stands behind -/
def padL (n : Nat) : List Nat := 128 :: List.replicate ((119 - n % 64) % 64) 0 ++ putB (8 * n) 8 8
def outB (S : List W32) : List Nat := (List.range 32).map fun i => (S.getD (i / 4) 0 >>> (8 * (3 - i % 4))).toNat % 256
def shaL (l : List Nat) : List Nat := outB (stL (l ++ padL l.length))
theorem shaL_length (l : List Nat) : (shaL l).length = 32 := by simp [shaL, outB]
theorem outB_byt (S : List W32) : Byt (outB S) := fun x hx => by
  obtain ⟨i, _, rfl⟩ := List.mem_map.1 hx
  exact Nat.mod_lt _ (by decide)
theorem shaL_byt (l : List Nat) : Byt (shaL l) := outB_byt _
theorem padL_length (n : Nat) : (padL n).length ≤ 72 := by simp [padL, putB_length]; omega

/-! ### the reference's ways -/
def rot1 (n : W32) : W32 := BitVec.ofNat 32 (n.toNat / 2 + 2147483648 * (n.toNat % 2))
def rotN (x : W32) : Nat → W32
  | 0 => x
  | k + 1 => rot1 (rotN x k)
theorem rot1_bit (n : W32) (j : Nat) (h : j < 32) : (rot1 n).getLsbD j = n.getLsbD ((j + 1) % 32) := by
  have hn := n.isLt
  unfold rot1
  rw [BitVec.getLsbD_ofNat, decide_eq_true h, Bool.true_and]
  have e : n.toNat / 2 + 2147483648 * (n.toNat % 2) = 2 ^ 31 * (n.toNat % 2) + n.toNat / 2 := by omega
  rw [e, Nat.testBit_two_pow_mul_add _ (by omega)]
  split
  · rename_i h1
    rw [Nat.testBit_div_two, Nat.mod_eq_of_lt (by omega)]
    rfl
  · rename_i h1
    have : j = 31 := by omega
    subst this
    have e2 : n.toNat % 2 = n.toNat % 2 ^ 1 := rfl
    rw [e2, Nat.testBit_mod_two_pow]
    rfl
theorem rotN_bit (x : W32) : ∀ (k j : Nat), j < 32 → (rotN x k).getLsbD j = x.getLsbD ((j + k) % 32)
  | 0, j, h => by rw [rotN, Nat.add_zero, Nat.mod_eq_of_lt h]
  | k + 1, j, h => by
    rw [rotN, rot1_bit _ _ h, rotN_bit x k _ (Nat.mod_lt _ (by decide))]
    congr 1
    omega
theorem rotN_eq (x : W32) {k : Nat} (h : k < 32) : rotN x k = turn x k := by
  apply BitVec.eq_of_getLsbD_eq
  intro j hj
  rw [rotN_bit x k j hj]
  unfold turn
  rw [BitVec.getLsbD_or, BitVec.getLsbD_ushiftRight, BitVec.getLsbD_shiftLeft, decide_eq_true hj, Bool.true_and]
  rcases Nat.eq_zero_or_pos k with rfl | hp
  · simp [Nat.mod_eq_of_lt hj]
  · rw [Nat.mod_eq_of_lt (show 32 - k < 32 by omega)]
    rcases Nat.lt_or_ge (j + k) 32 with h1 | h1
    · rw [Nat.mod_eq_of_lt h1, decide_eq_true (show j < 32 - k by omega), Nat.add_comm k j]
      simp
    · rw [decide_eq_false (show ¬ j < 32 - k by omega), BitVec.getLsbD_of_ge x (k + j) (by omega)]
      have e : (j + k) % 32 = j - (32 - k) := by omega
      simp [e]
theorem ch_ref (f g i : W32) : (f &&& g) + ((4294967295#32 - f) &&& i) = f &&& g ^^^ ~~~f &&& i := by
  have e : (4294967295#32 - f) = ~~~f := by
    have h := BitVec.allOnes_sub_eq_not f
    exact h
  rw [e]
  have hz : (f &&& g) &&& (~~~f &&& i) = 0#32 := by
    apply BitVec.eq_of_getLsbD_eq
    intro j hj
    simp only [BitVec.getLsbD_and, BitVec.getLsbD_not, hj, decide_true, Bool.true_and, BitVec.getLsbD_zero]
    cases f.getLsbD j <;> simp
  rw [BitVec.add_eq_or_of_and_eq_zero _ _ hz]
  apply BitVec.eq_of_getLsbD_eq
  intro j hj
  simp only [BitVec.getLsbD_and, BitVec.getLsbD_not, BitVec.getLsbD_or, BitVec.getLsbD_xor, hj, decide_true, Bool.true_and]
  cases f.getLsbD j <;> simp
theorem maj_ref (a c d : W32) : (a &&& c) ||| (a &&& d) ||| (c &&& d) = a &&& c ^^^ a &&& d ^^^ c &&& d := by
  apply BitVec.eq_of_getLsbD_eq
  intro j _
  simp only [BitVec.getLsbD_and, BitVec.getLsbD_or, BitVec.getLsbD_xor]
  cases a.getLsbD j <;> cases c.getLsbD j <;> cases d.getLsbD j <;> rfl
theorem bv_quo (x : W32) (k : Nat) : ((x.toNat / 2 ^ k : Nat) : Int) = ((x >>> k).toNat : Int) := by
  rw [BitVec.toNat_ushiftRight, Nat.shiftRight_eq_div_pow]
end Go.Alm

namespace Go.Alm
open Go Go.RowKit
theorem wS_zero (q : List Nat) : ∀ t j, t ≤ j → (wS q t).getD j 0 = 0
  | 0, j, _ => by
    unfold wS
    rw [List.getD_eq_getElem?_getD, List.getElem?_replicate]
    split <;> rfl
  | t + 1, j, h => by
    unfold wS
    rcases Nat.lt_or_ge t 64 with h1 | h1
    · rw [getD_set (by rw [wS_length]; exact h1), if_neg (by omega)]
      exact wS_zero q t j (by omega)
    · rw [List.set_eq_of_length_le (by rw [wS_length]; exact h1)]
      exact wS_zero q t j (by omega)
theorem hw_set0 {q p : List Nat} {t : Nat} (h : t < 64) : hw ((wS q t).set t (BitVec.ofNat 32 (num (p.take 0)))) = hw (wS q t) := by
  unfold hw
  congr 1
  apply List.map_congr_left
  intro i _
  rw [getD_set (by rw [wS_length]; exact h)]
  split
  · rename_i e
    subst e
    rw [wS_zero q i i (Nat.le_refl _)]
    rfl
  · rfl
end Go.Alm

namespace Go.Alm
open Go Go.RowKit
theorem size72 (S : List W32) (q : List Nat) : (hw8 S ++ hq q).size = 72 := by rw [Array.size_append]; simp [hw8, hq]
theorem hsC_size (S : List W32) (q : List Nat) (n : Nat) : (hsC S q n).size = 73 := by unfold hsC; rw [Array.size_append, size72]; rfl
theorem hsC_get (S : List W32) (q : List Nat) (n k : Nat) (h : k < 8) : (hsC S q n)[0 + k * 1]? = some (.int .u32 ((S.getD k 0).toNat : Int)) :=
  get_app (n := 72) (size72 S q) (by omega) (get_app (n := 8) rfl (by omega) (hw8_get S k h))
theorem hsC_add {S R : List W32} {q : List Nat} {n k : Nat} (hk : k < 8) : spl (hsC (addN S R k) q n) (0 + k * 1) #[.int .u32 ((((addN S R k).getD k 0) + R.getD k 0).toNat : Int)] = hsC (addN S R (k + 1)) q n :=
  spl_app (n := 72) (size72 _ q) (by omega) (spl_app (n := 8) rfl (by omega) (hw8_add hk))
/-- Bytes laid over others from a place on. -/
def putQ (q : List Nat) (at' : Nat) (b : List Nat) : List Nat := q.take at' ++ b.take (64 - at') ++ q.drop (at' + min b.length (64 - at'))
theorem putQ_length {q b : List Nat} {a : Nat} (hq : q.length = 64) (ha : a < 64) : (putQ q a b).length = 64 := by
  unfold putQ
  simp only [List.length_append, List.length_take, List.length_drop]
  omega
theorem putQ_byt {q b : List Nat} {a : Nat} (hq : Byt q) (hb : Byt b) : Byt (putQ q a b) := fun x hx => by
  unfold putQ at hx
  rcases List.mem_append.1 hx with h | h
  · rcases List.mem_append.1 h with h | h
    · exact hq.take _ x h
    · exact hb.take _ x h
  · exact hq.drop _ x h
theorem hq_arr {q : List Nat} (h : q.length = 64) : hq q = (B q).toArray := by
  apply Array.toList_inj.1
  unfold hq B
  apply List.ext_getElem?
  intro i
  by_cases hi : i < 64
  · simp [hi, h]
  · simp [hi, h]
theorem hsC_copy {S : List W32} {q b : List Nat} {n a : Nat} (hq' : q.length = 64) (ha : a < 64) : spl (hsC S q n) (8 + a * 1) ((B b).take (64 - a)).toArray = hsC S (putQ q a b) n := by
  unfold hsC
  rw [hq_arr hq', hq_arr (putQ_length hq' ha)]
  unfold spl putQ
  apply Array.toList_inj.1
  have h8 : (hw8 S).toList.length = 8 := rfl
  have hb : (B q).length = 64 := by rw [B_length, hq']
  simp only [Array.toList_append, Nat.mul_one, List.append_assoc]
  rw [← List.take_append_drop 8 ((hw8 S).toList ++ _), List.take_left' h8, List.drop_left' h8]
  have e1 : ((hw8 S).toList ++ ((B q) ++ [Value.int .u64 (n : Int)])).take (8 + a) = (hw8 S).toList ++ (B q).take a := by
    rw [List.take_append, h8, List.take_of_length_le (by omega), show 8 + a - 8 = a by omega, List.take_append_of_le_length (by omega)]
  have hm : ((B b).take (64 - a)).length = min b.length (64 - a) := by rw [List.length_take, B_length]; omega
  have e2 : ((hw8 S).toList ++ ((B q) ++ [Value.int .u64 (n : Int)])).drop (8 + a + ((B b).take (64 - a)).toArray.size) = (B q).drop (a + min b.length (64 - a)) ++ [Value.int .u64 (n : Int)] := by
    rw [List.size_toArray, hm, Nat.add_assoc, ← List.drop_drop, List.drop_left' h8, List.drop_append_of_le_length (by omega)]
  simp only [B_append, B_take, B_drop] at *
  rw [e1, e2]
  simp
theorem take_drop_min (b : List Nat) (X : Nat) : b.take X ++ b.drop (min b.length X) = b := by
  rcases Nat.le_total b.length X with h | h
  · rw [Nat.min_eq_left h, List.take_of_length_le h, List.drop_length, List.append_nil]
  · rw [Nat.min_eq_right h, List.take_append_drop]
theorem putQ_take {m q b : List Nat} (_ : q.length = 64) (ht : q.take (m.length % 64) = tailL m) : (putQ q (m.length % 64) b).take (m.length % 64 + min b.length (64 - m.length % 64)) = tailL m ++ b.take (64 - m.length % 64) := by
  unfold putQ
  rw [ht]
  refine List.take_left' ?_
  rw [List.length_append, tailL_length, List.length_take]
  omega
theorem write_mix {m q b : List Nat} (hq : q.length = 64) (ht : q.take (m.length % 64) = tailL m) (h : m.length % 64 + min b.length (64 - m.length % 64) = 64) :
    compress (stL m) (putQ q (m.length % 64) b) = stL (m ++ b.take (64 - m.length % 64)) ∧ (putQ q (m.length % 64) b).take ((m ++ b.take (64 - m.length % 64)).length % 64) = tailL (m ++ b.take (64 - m.length % 64)) := by
  have hf := stL_full (l := m) (x := b.take (64 - m.length % 64)) (by rw [List.length_take]; omega)
  have hp := putQ_take (b := b) hq ht
  rw [h, List.take_of_length_le (by rw [putQ_length hq (by omega)]; omega)] at hp
  constructor
  · rw [hf.1, ← hp]
  · rw [hf.2]
    have : (m ++ b.take (64 - m.length % 64)).length % 64 = 0 := by rw [List.length_append, List.length_take]; omega
    rw [this, List.take_zero]
theorem write_more {m q b : List Nat} (hq : q.length = 64) (ht : q.take (m.length % 64) = tailL m) (h : m.length % 64 + min b.length (64 - m.length % 64) ≠ 64) :
    stL m = stL (m ++ b.take (64 - m.length % 64)) ∧ (putQ q (m.length % 64) b).take ((m ++ b.take (64 - m.length % 64)).length % 64) = tailL (m ++ b.take (64 - m.length % 64)) := by
  have hf := stL_lt (l := m) (x := b.take (64 - m.length % 64)) (by rw [List.length_take]; omega)
  have hp := putQ_take (b := b) hq ht
  refine ⟨hf.1.symm, ?_⟩
  rw [hf.2, ← hp]
  congr 1
  rw [List.length_append, List.length_take]
  omega
/-- How long a slice in a slot is. -/
def lenA (s : Nat) (a : Act) : Nat := match a.eval (.tmp s) with | .slice _ n _ => n | _ => 0
theorem lenA_lt {s : Nat} {a a' : Act} {x x' : Option Addr} {n n' c c' : Nat} (h : a.eval (.tmp s) = .slice x n c) (h' : a'.eval (.tmp s) = .slice x' n' c') (hn : n' < n) : lenA s a' < lenA s a := by
  unfold lenA; rw [h, h']; exact hn
/-- A slice has room for what it has. -/
def capOk (v : Value) : Prop := match v with | .slice _ n c => n ≤ c | _ => True
theorem padz (z : Nat) : B (128 :: List.replicate (z + 1) 0) = B (128 :: List.replicate z 0) ++ [Value.int .u8 0] := by
  rw [List.replicate_succ', ← List.cons_append, B_append]
  rfl
theorem put_step8 {n k : Nat} (hk : k < 8) : IntKind.u8.wrap (Int.fdiv ((n : Int) * 8) (2 ^ (min ((8 : Int) * ((7 - k : Nat) : Int)).toNat 64))) = ((8 * n / 2 ^ (8 * (8 - 1 - k)) % 256 : Nat) : Int) := by
  have e1 : ((8 : Int) * ((7 - k : Nat) : Int)).toNat = 8 * (8 - 1 - k) := by omega
  have e2 : min (8 * (8 - 1 - k)) 64 = 8 * (8 - 1 - k) := by omega
  have e3 : (n : Int) * 8 = ((8 * n : Nat) : Int) := by omega
  rw [e1, e2, e3, wrap_u8]
  generalize 8 * (8 - 1 - k) = e
  have hp : ((2 : Int) ^ e) = ((2 ^ e : Nat) : Int) := by simp
  rw [hp, Int.fdiv_eq_ediv_of_nonneg _ (Int.natCast_nonneg _)]
  rfl
theorem outB_get (S : List W32) {i : Nat} (h : i < 32) : (outB S).getD i 0 = (S.getD (i / 4) 0 >>> (8 * (3 - i % 4))).toNat % 256 := by
  unfold outB
  simp [h]
theorem outB_length (S : List W32) : (outB S).length = 32 := by simp [outB]
theorem fillB_all {o : List Nat} (h : o.length = 32) : fillB o 32 = o := by
  unfold fillB
  rw [List.take_of_length_le (by omega)]
  simp
theorem fillB_zero (o : List Nat) : fillB o 0 = List.replicate 32 0 := by simp [fillB]
theorem padL_eq {n z k : Nat} (hz : z = (119 - n % 64) % 64) (hk : k = 8) : 128 :: List.replicate z 0 ++ putB (8 * n) 8 k = padL n := by
  subst hz; subst hk; rfl
theorem HsAt.made {tH : Nat} {w : World} {b : Nat} (h : w.heap[b]? = some (.cells (hsC IL (List.replicate 64 0) 0) tH (0, 0))) : HsAt tH w b [] (List.replicate 64 0) :=
  ⟨h, rfl, fun x hx => by have := List.eq_of_mem_replicate hx; omega, rfl⟩
end Go.Alm

namespace Go.Alm
open Go Go.RowKit
theorem rem_nat2 {x : Int} {n m : Nat} (h : x = (n : Int)) : x.tmod (m : Int) = ((n % m : Nat) : Int) := by subst h; exact rem_nat n m
theorem padL_byt (n : Nat) : Byt (padL n) := fun x hx => by
  unfold padL at hx
  rcases List.mem_append.1 hx with h | h
  · rcases List.mem_cons.1 h with h | h
    · omega
    · have := List.eq_of_mem_replicate h; omega
  · unfold Go.Alm.putB at h
    obtain ⟨i, _, rfl⟩ := List.mem_map.1 h
    exact Nat.mod_lt _ (by decide)
theorem Byt.cat {a b : List Nat} (ha : Byt a) (hb : Byt b) : Byt (a ++ b) := fun x hx => by
  rcases List.mem_append.1 hx with h | h
  · exact ha x h
  · exact hb x h
/-- How far a slice in a slot is from a length. -/
def lenZ (N s : Nat) (a : Act) : Nat := N - lenA s a
theorem lenZ_lt {N s : Nat} {a a' : Act} {x x' : Option Addr} {n n' c c' : Nat} (h : a.eval (.tmp s) = .slice x n c) (h' : a'.eval (.tmp s) = .slice x' n' c') (hn : n < n') (hN : n < N) : lenZ N s a' < lenZ N s a := by
  unfold lenZ lenA; rw [h, h']; simp only; omega
end Go.Alm

/- Arrays behind an address or as values: cut and indexed at places that aren't closed. -/
namespace Go.Alm
open Go Go.RowKit
section
variable {P : Program} {Q : Exit → Act → World → Prop} {a : Act} {w : World} {o : Oper} {K : Act → World → Prop}
theorem run_cut_arr (t : Nat) (x : Operand) (lo hi : Option Operand) (sz b off n l h : Nat) (ho : sliceOf o.op = some (t, x, lo, hi, none)) (hn : arrLen P t = some n) (hz : elemSz P t = some sz)
    (hx : a.eval x = .pointer (some ⟨b, off, none⟩)) (hlo : boundOf (lo.map a.eval) 0 = some (l : Int)) (hhi : boundOf (hi.map a.eval) n = some (h : Int)) (hl : l < n) (h1 : l ≤ h) (h2 : h ≤ n) :
    (execOp a.eval o).run P w = .ok (.value (.slice (some ⟨b, off + l * sz, none⟩) (h - l) (n - l))) w := by
  unfold sliceOf at ho
  split at ho
  · rename_i t' x' lo' hi' mx' hop
    simp only [Option.some.injEq, Prod.mk.injEq] at ho
    obtain ⟨rfl, rfl, rfl, rfl, rfl⟩ := ho
    unfold arrLen at hn
    split at hn
    · rename_i n' e ht
      simp only [Option.some.injEq] at hn
      subst hn
      have hz' : sizeT P e = some sz := by unfold elemSz at hz; rw [ht] at hz; exact hz
      have e1 : (execOp a.eval o) = (do pure (.value (← Instr.sliceAt t' (a.eval x') (lo'.map a.eval) (hi'.map a.eval) (Option.map a.eval none)))) := by
        unfold execOp; simp only [hop]
      rw [e1, hx]
      generalize lo'.map a.eval = L at *
      generalize hi'.map a.eval = H at *
      have hb : (Instr.sliceBounds false n' n' L H (Option.map a.eval none)).run P w = .ok (l, h, n') w := by
        unfold Instr.sliceBounds
        cases H with
        | none =>
          simp only [boundOf, Option.some.injEq] at hhi
          have hhi' : n' = h := by omega
          subst hhi'
          cases L with
          | none =>
            simp only [boundOf, Option.some.injEq] at hlo
            have : l = 0 := by omega
            subst this
            simp
          | some lv =>
            cases lv <;> simp only [boundOf, Option.some.injEq, reduceCtorEq] at hlo
            subst hlo
            simp [run_sliceBound, h1]
        | some hv =>
          cases hv <;> simp only [boundOf, Option.some.injEq, reduceCtorEq] at hhi
          subst hhi
          cases L with
          | none =>
            simp only [boundOf, Option.some.injEq] at hlo
            have : l = 0 := by omega
            subst this
            simp [run_sliceBound, h2]
          | some lv =>
            cases lv <;> simp only [boundOf, Option.some.injEq, reduceCtorEq] at hlo
            subst hlo
            simp [run_sliceBound, h1, h2]
      have hne : n' ≠ l := by omega
      have hadd : (⟨b, off, none⟩ : Addr).add (l * sz) = ⟨b, off + l * sz, none⟩ := by unfold Addr.add; split <;> simp_all
      rw [Option.map_none] at hb ⊢
      simp [Instr.sliceAt, Instr.sureAddr, run_underlying ht, hb, run_sizeOf hz', hne, hadd]
    · cases hn
  · cases ho
theorem run_cut_arrN (t : Nat) (x : Operand) (lo hi : Option Operand) (sz b off n l h : Nat) (ho : sliceOf o.op = some (t, x, lo, hi, none)) (hn : arrLen P t = some n) (hz : elemSz P t = some sz)
    (hx : a.eval x = .pointer (some ⟨b, off, none⟩)) (hlo : boundOf (lo.map a.eval) 0 = some (l : Int)) (hhi : boundOf (hi.map a.eval) n = some (h : Int)) (hl : l < n) (h1 : l ≤ h) (h2 : h ≤ n) (m : Nat) (hm : h - l = m) :
    (execOp a.eval o).run P w = .ok (.value (.slice (some ⟨b, off + l * sz, none⟩) m (n - l))) w := hm ▸ run_cut_arr t x lo hi sz b off n l h ho hn hz hx hlo hhi hl h1 h2
def indexOf : Op → Option (Nat × Operand × Operand)
  | .index t x i => some (t, x, i)
  | _ => none
def arrElem (P : Program) (t : Nat) : Option Nat := match P.underlying t with | some (.array _ e) => some e | _ => none
theorem run_index1 (t : Nat) (x i : Operand) (n e : Nat) (cs : Array Value) (kd : IntKind) (k : Nat) (v : Value) (ho : indexOf o.op = some (t, x, i)) (hn : arrLen P t = some n) (he : arrElem P t = some e) (hr : rowed P e = some false) (hz : sizeT P e = some 1)
    (hx : a.eval x = .agg cs) (hi : a.eval i = .int kd k) (hk : k < n) (hv : cs[0 + k * 1]? = some v) : (execOp a.eval o).run P w = .ok (.value v) w := by
  unfold indexOf at ho
  split at ho
  · rename_i t' x' i' hop
    simp only [Option.some.injEq, Prod.mk.injEq] at ho
    obtain ⟨rfl, rfl, rfl⟩ := ho
    unfold arrLen at hn
    split at hn
    · rename_i m e' ht
      simp only [Option.some.injEq] at hn
      subst hn
      have : e' = e := by unfold arrElem at he; rw [ht] at he; exact Option.some.inj he
      subst this
      have hk' : 0 ≤ (k : Int) ∧ (k : Int) < (m : Int) := ⟨by omega, by omega⟩
      have hv' : cs[k]? = some v := by rw [← hv]; congr 1; omega
      have hv2 : cs[((k : Int)).toNat * 1]? = some v := by rw [← hv']; congr 1; omega
      unfold execOp
      simp only [hop, hx, hi, Instr.index, asIntOf, Sem.run_bind, Sem.run_pure, Result.andThen_ok, run_underlying ht, if_pos hk', part, run_sizeOf hz, run_isAgg _ _ hr, Bool.false_eq_true, if_false, hv2]
    · cases hn
  · cases ho
/-- A cell of an array that is read alone. -/
theorem run_loadG (t : Nat) (x : Operand) (b k : Nat) (xs : List Value) (u : Value) (ho : loadOf o.op = some (t, x)) (hr : rowed P t = some false)
    (hx : a.eval x = .pointer (some ⟨b, 0 + k * 1, none⟩)) (hR : Rd w (some ⟨b, 0, none⟩) xs) (hu : xs[k]? = some u) : (execOp a.eval o).run P w = .ok (.value u) w := by
  obtain ⟨ad, ha, hc⟩ := hR k u hu
  cases ha
  have e : (⟨b, 0, none⟩ : Addr).add k = ⟨b, 0 + k * 1, none⟩ := by unfold Addr.add; split <;> simp_all
  rw [e] at hc
  exact run_loadC t x _ u ho hr hx hc
end
theorem Sub.arOff {b off : Nat} {xs : List Value} : Sub (Ar (some ⟨b, off, none⟩) xs) (One b) := by
  rintro k ⟨_, ad, h, rfl⟩
  cases h
  rfl
theorem KL_get (k : Nat) (h : k < 64) : (hw KL).toList[k]? = some (.int .u32 ((KL.getD k 0).toNat : Int)) := by
  have := hw_get KL k h
  rw [show 0 + k * 1 = k by omega] at this
  rw [← this]
  simp
theorem hq_B {q : List Nat} (h : q.length = 64) : (hq q).toList = B q := by
  unfold hq B
  apply List.ext_getElem?
  intro i
  by_cases hi : i < 64
  · simp [hi, h]
  · simp [hi, h]
/-- Bytes within a block. -/
theorem Rd.of_left' {w : World} {b tH : Nat} {S r : Array Value} {q : List Nat} {fz : Nat × Nat} (hb : w.heap[b]? = some (.cells (S ++ hq q ++ r) tH fz)) (hS : S.size = 8) (hq : q.length = 64) {l n : Nat} :
    Rd w (some ⟨b, 8 + l * 1, none⟩) (B ((q.drop l).take n)) := by
  have h := (Rd.of_blkN hb (8 + l * 1)).take (((q.drop l).take n).length)
  have e : ((S ++ Go.Alm.hq q ++ r).toList.drop (8 + l * 1)).take (((q.drop l).take n).length) = B ((q.drop l).take n) := by
    rw [Array.toList_append, Array.toList_append, List.append_assoc, Nat.mul_one, ← List.drop_drop, List.drop_left' (by simpa using hS), hq_B hq, B_take, B_drop]
    have hl : (B q).length = 64 := by rw [B_length, hq]
    rcases Nat.lt_or_ge l 64 with h1 | h1
    · rw [List.drop_append_of_le_length (by omega), List.take_append_of_le_length (by rw [List.length_take, List.length_drop, List.length_drop, hq, hl]; omega)]
      rw [List.length_take, List.length_drop, hq]
      rw [← List.take_take]
      congr 1
      rw [List.take_of_length_le (by rw [List.length_drop, hl]; omega)]
    · rw [List.drop_eq_nil_of_le (as := q) (by omega), List.drop_eq_nil_of_le (as := B q) (by omega)]
      simp
  rw [e] at h
  exact h
theorem Rd.of_left {w : World} {b tH : Nat} {S : List W32} {N : Nat} {q : List Nat} {fz : Nat × Nat} (hb : w.heap[b]? = some (.cells (hsC S q N) tH fz)) (hq : q.length = 64) {l n : Nat} :
    Rd w (some ⟨b, 8 + l * 1, none⟩) (B ((q.drop l).take n)) := Rd.of_left' hb rfl hq
end Go.Alm

namespace Go.Alm
open Go Go.RowKit
section
variable {P : Program} {a : Act} {w : World} {o : Oper}
theorem run_quo (x y : Operand) {k : IntKind} (A B : Int) (ho : binOf o.op = some (.quo, x, y)) (hx : a.eval x = .int k A) (hy : a.eval y = .int k B) (hB : B ≠ 0) :
    (execOp a.eval o).run P w = .ok (.value (.int k (k.wrap (A.tdiv B)))) w := by
  unfold binOf at ho
  split at ho
  · rename_i b t x' y' u hop
    simp only [Option.some.injEq, Prod.mk.injEq] at ho
    obtain ⟨rfl, rfl, rfl⟩ := ho
    unfold execOp
    simp [hop, hx, hy, eqGuard, binOp, Op.intDiv, hB]
  · cases ho
end
theorem rot1_eq (y : W32) : IntKind.u32.wrap (((y.toNat / 2 : Nat) : Int) + (2147483648 : Int) * ((y.toNat % 2 : Nat) : Int)) = ((rot1 y).toNat : Int) := by
  have := y.isLt
  unfold rot1
  rw [wrapN_u32 (by omega) (by omega), BitVec.toNat_ofNat]
  omega
theorem bv_quo2 (x : W32) (d k : Nat) (h : d = 2 ^ k) : IntKind.u32.wrap ((x.toNat : Int).tdiv (d : Int)) = ((x >>> k).toNat : Int) := by
  have := x.isLt
  rw [quo_u32 (by omega), h]
  exact bv_quo x k
theorem ch_pf (R : List W32) : IntKind.u32.wrap (((R.getD 4 0 &&& R.getD 5 0).toNat : Int) + ((((4294967295#32) - R.getD 4 0) &&& R.getD 6 0).toNat : Int)) = ((chs R).toNat : Int) := by
  rw [bv_add, ch_ref]; rfl
theorem maj_pf (R : List W32) : IntKind.u32.wrap ((BitVec.ofInt 32 (((R.getD 0 0 &&& R.getD 1 0) ||| (R.getD 0 0 &&& R.getD 2 0)).toNat : Int) ||| BitVec.ofInt 32 ((R.getD 1 0 &&& R.getD 2 0).toNat : Int)).toNat : Int) = ((maj R).toNat : Int) := by
  rw [bv_or, maj_ref]; rfl
theorem bv_add3 (A B C : W32) : IntKind.u32.wrap (((A + B).toNat : Int) + (C.toNat : Int)) = ((A + (B + C)).toNat : Int) := by rw [bv_add, BitVec.add_assoc]
theorem num_four (a b c d : Nat) : num [a, b, c, d] = 16777216 * a + 65536 * b + 256 * c + d := by
  simp only [num, List.foldl_cons, List.foldl_nil]
  omega
theorem wd_ref {q : List Nat} (hB : Byt q) {t : Nat} (h : 4 * t + 4 ≤ q.length) : ((wd q t).toNat : Int) = ((16777216 * q.getD (4 * t) 0 + 65536 * q.getD (4 * t + 1) 0 + 256 * q.getD (4 * t + 2) 0 + q.getD (4 * t + 3) 0 : Nat) : Int) := by
  have e : (q.drop (4 * t)).take 4 = [q.getD (4 * t) 0, q.getD (4 * t + 1) 0, q.getD (4 * t + 2) 0, q.getD (4 * t + 3) 0] := by
    apply List.ext_getElem?
    intro i
    rw [List.getElem?_take]
    match i with
    | 0 => simp [List.getElem?_drop, show 4 * t < q.length by omega]
    | 1 => simp [List.getElem?_drop, show 4 * t + 1 < q.length by omega]
    | 2 => simp [List.getElem?_drop, show 4 * t + 2 < q.length by omega]
    | 3 => simp [List.getElem?_drop, show 4 * t + 3 < q.length by omega]
    | i + 4 => simp; omega
  have h0 := getD_lt hB (4 * t); have h1 := getD_lt hB (4 * t + 1); have h2 := getD_lt hB (4 * t + 2); have h3 := getD_lt hB (4 * t + 3)
  unfold wd
  rw [e, num_four, BitVec.toNat_ofNat]
  omega
theorem padz2 (l : List Nat) (z : Nat) : B (l ++ 128 :: List.replicate (z + 1) 0) = B (l ++ 128 :: List.replicate z 0) ++ [Value.int .u8 0] := by
  rw [B_append, padz, ← List.append_assoc, ← B_append]
theorem low56 {i : Nat} (h : i < 8) : lowQ 72057594037927936 i = 2 ^ (8 * (8 - 1 - i)) := by
  match i, h with
  | 0, _ => rfl
  | 1, _ => rfl
  | 2, _ => rfl
  | 3, _ => rfl
  | 4, _ => rfl
  | 5, _ => rfl
  | 6, _ => rfl
  | 7, _ => rfl
theorem outB_at (S : List W32) {i r : Nat} (hi : i < 8) (hr : r < 4) : (outB S).getD (4 * i + r) 0 = (S.getD i 0).toNat / 2 ^ (8 * (3 - r)) % 256 := by
  rw [outB_get _ (by omega), show (4 * i + r) / 4 = i by omega, show (4 * i + r) % 4 = r by omega, BitVec.toNat_ushiftRight, Nat.shiftRight_eq_div_pow]
theorem outB_0 (S : List W32) {i : Nat} (hi : i < 8) : (outB S).getD (4 * i) 0 = (S.getD i 0).toNat / 16777216 % 256 := outB_at S (r := 0) hi (by decide)
theorem outB_1 (S : List W32) {i : Nat} (hi : i < 8) : (outB S).getD (4 * i + 1) 0 = (S.getD i 0).toNat / 65536 % 256 := outB_at S (r := 1) hi (by decide)
theorem outB_2 (S : List W32) {i : Nat} (hi : i < 8) : (outB S).getD (4 * i + 2) 0 = (S.getD i 0).toNat / 256 % 256 := outB_at S (r := 2) hi (by decide)
theorem outB_3 (S : List W32) {i : Nat} (hi : i < 8) : (outB S).getD (4 * i + 3) 0 = (S.getD i 0).toNat % 256 := by
  have := outB_at S (i := i) (r := 3) hi (by decide)
  rw [this]
  simp
theorem padded_length (l : List Nat) : (l ++ padL l.length).length % 64 = 0 := by
  simp only [padL, List.length_append, List.length_cons, List.length_replicate, putB_length]
  omega
end Go.Alm

/- Layer 4's things, as they stand in memory; what is written and read of them. -/
namespace Go.Alm
open Go Go.RowKit

structure Thing where
  kind : Int
  n : Nat
  h : List Nat
  ao : Option Addr
  cap : Nat
  b : List Nat
  most : Int
def Thing.cells (x : Thing) : Array Value := #[.int .i64 x.kind, .int .u64 (x.n : Int)] ++ hv x.h ++ #[.slice x.ao x.b.length x.cap, .int .i64 x.most]
structure Thing.Ok (x : Thing) : Prop where
  n : x.n < 18446744073709551616
  h : x.h.length = 32
  hb : Byt x.h
  b : Byt x.b
  cap : x.b.length ≤ x.cap
  len : x.cap ≤ maxLen
  most : x.most ≤ 9223372036854775807
def cellsT (ts : List Thing) : List Value := ts.flatMap fun x => x.cells.toList
structure ThingsAt (N : Nat) (w : World) (ao : Option Addr) (ts : List Thing) : Prop where
  rd : Rd w ao (cellsT ts)
  rdb : ∀ x ∈ ts, Rd w x.ao (B x.b)
  in1 : Sub (Ar ao (cellsT ts)) (Old N)
  in2 : ∀ x ∈ ts, Sub (Ar x.ao (B x.b)) (Old N)
  ok : ∀ x ∈ ts, x.Ok
  size : N ≤ w.heap.size
theorem ThingsAt.keep {N : Nat} {w w' : World} {ao : Option Addr} {ts : List Thing} {S : Nat → Prop} (h : ThingsAt N w ao ts) (F : Fr w w' S) (d : Dis (Old N) S) : ThingsAt N w' ao ts :=
  ⟨h.rd.keep' F (h.in1.dis d), fun x hx => (h.rdb x hx).keep' F ((h.in2 x hx).dis d), h.in1, h.in2, h.ok, Nat.le_trans h.size F.size⟩
theorem ThingsAt.in {N : Nat} {w : World} {ao : Option Addr} {ts : List Thing} (h : ThingsAt N w ao ts) : In w (Old N) := In.old h.size

theorem size_cells (x : Thing) : x.cells.size = 36 := by simp [Thing.cells, hv]
theorem cellsT_cons (x : Thing) (ts : List Thing) : cellsT (x :: ts) = x.cells.toList ++ cellsT ts := rfl
theorem cellsT_length : ∀ ts : List Thing, (cellsT ts).length = ts.length * 36
  | [] => rfl
  | x :: ts => by rw [cellsT_cons, List.length_append, cellsT_length ts, Array.length_toList, size_cells, List.length_cons]; omega
theorem cellsT_get : ∀ (ts : List Thing) (k : Nat) (x : Thing), ts[k]? = some x → ((cellsT ts).drop (k * 36)).take 36 = x.cells.toList
  | [], k, x, h => by simp at h
  | y :: ts, 0, x, h => by
    simp only [List.getElem?_cons_zero, Option.some.injEq] at h
    subst h
    rw [Nat.zero_mul, List.drop_zero, cellsT_cons]
    exact List.take_left' (by rw [Array.length_toList, size_cells])
  | y :: ts, k + 1, x, h => by
    rw [List.getElem?_cons_succ] at h
    have e : (k + 1) * 36 = y.cells.toList.length + k * 36 := by rw [Array.length_toList, size_cells]; omega
    rw [cellsT_cons, e, ← List.drop_drop, List.drop_left, cellsT_get ts k x h]

/-- Is there more than is looked at? -/
def largeT (ts : List Thing) : Bool := decide (100 < ts.length) || ts.any fun x => decide (300 < x.b.length)
theorem largeT_many {ts : List Thing} (h : 100 < ts.length) : largeT ts = true := by simp [largeT, h]
theorem largeT_long {ts : List Thing} {k : Nat} {x : Thing} (hx : ts[k]? = some x) (h : 300 < x.b.length) : largeT ts = true := by
  have : ∃ x ∈ ts, 300 < x.b.length := ⟨x, List.mem_of_getElem? hx, h⟩
  simp only [largeT, Bool.or_eq_true, List.any_eq_true, decide_eq_true_eq]
  exact .inr this
theorem largeT_not {ts : List Thing} (h : ¬ 100 < ts.length) (h2 : ∀ x ∈ ts, x.b.length ≤ 300) : largeT ts = false := by
  simp only [largeT, Bool.or_eq_false_iff, decide_eq_false_iff_not, List.any_eq_false, decide_eq_true_eq]
  exact ⟨h, fun x hx => by have := h2 x hx; omega⟩
theorem largeT_spec {ts : List Thing} (h : largeT ts = false) : ts.length ≤ 100 ∧ ∀ x ∈ ts, x.b.length ≤ 300 := by
  simp only [largeT, Bool.or_eq_false_iff, decide_eq_false_iff_not, List.any_eq_false, decide_eq_true_eq] at h
  exact ⟨by omega, fun x hx => by have := h.2 x hx; omega⟩
theorem upto_step {p : Thing → Prop} {ts : List Thing} {k : Nat} {x : Thing} (h : ∀ y ∈ ts.take k, p y) (hx : ts[k]? = some x) (hp : p x) : ∀ y ∈ ts.take (k + 1), p y := by
  intro y hy
  rw [List.take_add_one, hx] at hy
  rcases List.mem_append.1 hy with h1 | h1
  · exact h y h1
  · simp at h1; subst h1; exact hp

/-- What is written of a thing; may it be? -/
def Thing.w (x : Thing) : List Nat := if x.kind = 0 then putB (x.n % 256) 1 1 else if x.kind = 1 then putB (x.n % 4294967296) 4 4 else if x.kind = 2 then putB x.n 8 8 else if x.kind = 3 then x.h else if x.kind = 4 then textW x.b else []
def Thing.okW (x : Thing) : Bool := if x.kind = 4 then decide (x.b.length ≤ 255) else true
def writeT (ts : List Thing) : List Nat := ts.flatMap Thing.w
theorem textW_len (b : List Nat) : (textW b).length ≤ 256 := by
  unfold textW; split
  · rw [List.length_append, putB_length]; omega
  · simp
theorem Thing.w_len {x : Thing} (h : x.Ok) : x.w.length ≤ 256 := by
  unfold Thing.w
  split
  · rw [putB_length]; omega
  · split
    · rw [putB_length]; omega
    · split
      · rw [putB_length]; omega
      · split
        · rw [h.h]; omega
        · split
          · exact textW_len _
          · simp
theorem writeT_snoc {ts : List Thing} {k : Nat} {x : Thing} (hx : ts[k]? = some x) : writeT (ts.take (k + 1)) = writeT (ts.take k) ++ x.w := by
  unfold writeT
  rw [List.take_add_one, hx]
  simp
theorem writeT_len : ∀ {ts : List Thing}, (∀ x ∈ ts, x.Ok) → (writeT ts).length ≤ ts.length * 256
  | [], _ => by simp [writeT]
  | x :: ts, h => by
    have h1 := writeT_len (ts := ts) (fun y hy => h y (by simp [hy]))
    have h2 := Thing.w_len (h x (by simp))
    have e : writeT (x :: ts) = x.w ++ writeT ts := rfl
    rw [e, List.length_append, List.length_cons]
    omega
/-- What is read of a thing. -/
def Thing.r (x : Thing) (r : Rs) : Rs := if x.kind = 0 then r.take 1 else if x.kind = 1 then r.take 4 else if x.kind = 2 then r.take 8 else if x.kind = 3 then r.take 32 else if x.kind = 4 then r.textR 255 else r
def Thing.okR (x : Thing) (r : Rs) : Bool := if x.kind = 0 then decide (r.num 1 = x.n % 256) else if x.kind = 1 then decide (r.num 4 = x.n % 4294967296) else if x.kind = 2 then decide (r.num 8 = x.n) else if x.kind = 3 then decide (r.hash = x.h) else if x.kind = 4 then decide (r.text 255 = x.b) else true
end Go.Alm

namespace Go.Alm
open Go Go.RowKit
/-- What is read of a thing, as far as its own bound goes. -/
def Thing.rm (r : Rs) (x : Thing) : Rs := if x.kind = 0 then r.take 1 else if x.kind = 1 then r.take 4 else if x.kind = 2 then r.take 8 else if x.kind = 3 then r.take 32 else if x.kind = 4 then (if 0 ≤ x.most then r.textR x.most.toNat else r) else r
def readM (r : Rs) (ts : List Thing) : Rs := ts.foldl Thing.rm r
theorem readM_snoc {r : Rs} {ts : List Thing} {k : Nat} {x : Thing} (hx : ts[k]? = some x) : readM r (ts.take (k + 1)) = Thing.rm (readM r (ts.take k)) x := by
  unfold readM
  rw [List.take_add_one, hx]
  simp
end Go.Alm

namespace Go.Alm
open Go Go.RowKit
theorem Byt.textR {r : Rs} (h : Byt r.l) (m : Nat) : Byt (r.textR m).l := by
  have h1 : Byt (r.text1 m).l := by
    unfold Rs.text1; split
    · exact (h.rtake 1).wrong 4
    · exact h.rtake 1
  unfold Rs.textR; split
  · exact h1.rtake _
  · exact h1
theorem rm_byt {r : Rs} (h : Byt r.l) (x : Thing) : Byt (Thing.rm r x).l := by
  unfold Thing.rm
  split
  · exact h.rtake 1
  · split
    · exact h.rtake 4
    · split
      · exact h.rtake 8
      · split
        · exact h.rtake 32
        · split
          · split
            · exact h.textR _
            · exact h
          · exact h
theorem rm_len (r : Rs) (x : Thing) : (Thing.rm r x).l.length ≤ r.l.length := by
  unfold Thing.rm
  split
  · exact take_len r 1
  · split
    · exact take_len r 4
    · split
      · exact take_len r 8
      · split
        · exact take_len r 32
        · split
          · split
            · exact textR_len r _
            · exact Nat.le_refl _
          · exact Nat.le_refl _
theorem readM_byt : ∀ (ts : List Thing) {r : Rs}, Byt r.l → Byt (readM r ts).l
  | [], _, h => h
  | x :: ts, _, h => readM_byt ts (rm_byt h x)
theorem readM_len : ∀ (ts : List Thing) (r : Rs), (readM r ts).l.length ≤ r.l.length
  | [], _ => Nat.le_refl _
  | x :: ts, r => Nat.le_trans (readM_len ts (Thing.rm r x)) (rm_len r x)
end Go.Alm

/- What a row's reading says of memory; what a row asks of memory behind a call. -/
namespace Go.Alm
open Go Go.RowKit Go.ChangeShapes Go.WideShapes Go.ChangeAt

section
variable {H : Type} {enc : TypeId × Value → H} {P : Program} {w : World} {base : Nat} {sp : Nat → Bool} {held : Bool} {fuel t e : Nat} {cs : List Value} {x : DataW H × List MemPlace}

theorem some_of_bind {α β : Type} {o : Option α} {f : α → Option β} {y : Option β} (h : o.bind f = y) (hy : y.isSome = true) : ∃ a, o = some a ∧ f a = y := by
  cases o with
  | none => simp at h; subst h; cases hy
  | some a => exact ⟨a, rfl, by simpa using h⟩

theorem bytes_of_trod (ht : P.underlying t = some (.slice e)) (he : P.underlying e = some (.int .u8)) (hz : P.cellsOf e = 1) (h : DataW.trod enc P w base sp held fuel t cs = some x) :
    ∃ ao l cap, cs = [.slice ao (l : List Nat).length cap] ∧ Rd w ao (B l) ∧ Byt l ∧ l.length ≤ cap ∧ cap ≤ maxLen := by
  rcases DataW.trod_slice ht h with ⟨rfl, _⟩ | ⟨a, len, cap, elems, rest, n, _, rfl, _, _, hlc, hcm, hel, hget, _⟩
  · exact ⟨none, [], 0, rfl, Rd.nil _ _, Byt.nil, Nat.le_refl _, Nat.zero_le _⟩
  · have key : ∀ i, i < len → ∃ m : Nat, m < 256 ∧ w.cell? (a.add i) = some (.int .u8 (m : Int)) := fun i hi => by
      have h1 := hget i hi
      have hs : (elems[i]?).isSome = true := by simp [hel, hi]
      obtain ⟨c, hc, hy⟩ := some_of_bind h1 hs
      obtain ⟨y, hy'⟩ := Option.isSome_iff_exists.1 hs
      rw [hy'] at hy
      obtain ⟨m, rfl, _, hwf⟩ := DataW.trod_int he hy
      rw [hz, Nat.mul_one] at hc
      have hcell := (World.cells?_some hc).2.2 0 (by decide)
      have hadd : (a.add i).add 0 = a.add i := rfl
      rw [hadd] at hcell
      simp only [Lit.wf, Bool.and_eq_true, decide_eq_true_eq] at hwf
      have e1 : IntKind.u8.min = 0 := by decide
      have e2 : IntKind.u8.max = 255 := by decide
      refine ⟨m.toNat, by omega, ?_⟩
      rw [hcell]
      have : ((m.toNat : Nat) : Int) = m := Int.toNat_of_nonneg (by omega)
      rw [this]; rfl
    let f : Nat → Nat := fun i => match w.cell? (a.add i) with | some (.int .u8 m) => m.toNat | _ => 0
    have hf : ∀ i, i < len → f i < 256 ∧ w.cell? (a.add i) = some (.int .u8 (f i : Int)) := fun i hi => by
      obtain ⟨m, hm, hc⟩ := key i hi
      have : f i = m := by simp only [f, hc]; rfl
      rw [this]; exact ⟨hm, hc⟩
    refine ⟨some a, (List.range len).map f, cap, by simp, ?_, ?_, by simpa using hlc, hcm⟩
    · intro j u hj
      have hjl : j < len := by
        have := (List.getElem?_eq_some_iff.1 hj).1
        simpa [B] using this
      refine ⟨a, rfl, ?_⟩
      rw [(hf j hjl).2]
      simp [B, hjl] at hj
      rw [hj]
    · intro b hb
      obtain ⟨i, hi, rfl⟩ := List.mem_map.1 hb
      exact (hf i (List.mem_range.1 hi)).1

theorem ints_of_trod {n : Nat} (ht : P.underlying t = some (.array n e)) (he : P.underlying e = some (.int .u8)) (hz : P.cellsOf e = 1) (hzt : P.cellsOf t = n) (h : DataW.trod enc P w base sp held fuel t cs = some x) :
    ∃ l : List Nat, l.length = n ∧ cs = B l ∧ Byt l := by
  obtain ⟨xs, m, _, _, hlen, hxl, hget⟩ := DataW.trod_array ht h
  rw [hzt] at hlen
  have key : ∀ i, i < n → ∃ q : Nat, q < 256 ∧ cs[i]? = some (.int .u8 (q : Int)) := fun i hi => by
    have h1 := hget i hi
    have hs : (xs[i]?).isSome = true := by simp [hxl, hi]
    obtain ⟨y, hy⟩ := Option.isSome_iff_exists.1 hs
    rw [hy] at h1
    obtain ⟨q, hq, _, hwf⟩ := DataW.trod_int he h1
    rw [hz, Nat.mul_one] at hq
    simp only [Lit.wf, Bool.and_eq_true, decide_eq_true_eq] at hwf
    have e1 : IntKind.u8.min = 0 := by decide
    have e2 : IntKind.u8.max = 255 := by decide
    have hi' : i < cs.length := by omega
    rw [List.drop_eq_getElem_cons hi'] at hq
    simp only [List.take_succ_cons, List.take_zero, List.cons.injEq, and_true] at hq
    refine ⟨q.toNat, by omega, ?_⟩
    have : ((q.toNat : Nat) : Int) = q := Int.toNat_of_nonneg (by omega)
    rw [this, ← hq]
    simp [hi']
  let f : Nat → Nat := fun i => match cs[i]? with | some (.int .u8 m) => m.toNat | _ => 0
  have hf : ∀ i, i < n → f i < 256 ∧ cs[i]? = some (.int .u8 (f i : Int)) := fun i hi => by
    obtain ⟨m, hm, hc⟩ := key i hi
    have : f i = m := by simp only [f, hc]; rfl
    rw [this]; exact ⟨hm, hc⟩
  refine ⟨(List.range n).map f, by simp, ?_, ?_⟩
  · apply List.ext_getElem?
    intro i
    by_cases hi : i < n
    · rw [(hf i hi).2]; simp [B, hi]
    · rw [List.getElem?_eq_none (by omega)]; simp [B, hi]
  · intro b hb
    obtain ⟨i, hi, rfl⟩ := List.mem_map.1 hb
    exact (hf i (List.mem_range.1 hi)).1

/-- Behind a call that has touched nothing old. -/
theorem post_of_fr {f : Func} {s : ChangeSpec} {apart fresh handsOn again : Bool} {W W' : World} {args : Array Value} {v : Value} {ds gs : List (DataW H)} {before pa pv : List MemPlace}
    (hW : DataW.Whole enc P f.params.toList s.vars apart W args.toList ds gs before)
    (hres : ∀ (b : Nat) (sp : Nat → Bool) (hd : Bool), DataW.TrodAll enc P W' b sp hd f.resultTypes.toList (v.resultList f.resultTypes.size) (s.fn H (ds ++ gs)).results [])
    (hargs : ∀ sp : Nat → Bool, (∀ p ∈ before, sp p.block = true) → DataW.TrodAll enc P W' 0 sp true f.params.toList args.toList (s.fn H (ds ++ gs)).args pa)
    (hvars : ∀ sp : Nat → Bool, (∀ p ∈ before, sp p.block = true) → DataW.TrodVars enc P W' sp s.vars (s.fn H (ds ++ gs)).vars pv)
    (hps : before = pa ++ pv) (hF : Fr W W' N0)
    (hok : ∀ (j : Nat) (t : TypeId) (r : Value), f.resultTypes[j]? = some t → (v.resultList f.resultTypes.size)[j]? = some r → Value.okWide P W' .any 0 t r) :
    s.post enc P f apart fresh handsOn again W args v W' := by
  have hold : ∀ p ∈ before, (fun b => decide (b < W.heap.size)) p.block = true := fun p hp => by simpa using hW.lt p hp
  refine ⟨ds, gs, before, [], pa, pv, hW, hres _ _ _, hargs _ hold, hvars _ hold, hF.below.frame _, fun _ => ?_⟩
  have hlt := fun p hp => hW.lt p hp
  obtain ⟨_, _, _, _, _, hz, hn⟩ := hW
  refine ⟨hok, _, _, ([] ++ pa) ++ pv, ⟨[] ++ pa, pv, trodAll_append (hargs _ (fun _ _ => rfl)) (hres _ _ _), hvars _ (fun _ _ => rfl), rfl, ?_, ?_⟩, ?_⟩
  · intro b off hp
    have hp' : MemPlace.cell b off ∈ before := by rw [hps]; simpa using hp
    rw [hF.below.frozen (p := ⟨b, off, none⟩) (hlt _ hp')]
    exact hz b off hp'
  · intro ha
    have := hn ha
    rw [hps] at this
    simpa using this
  · intro p hp _
    rw [hps]
    simpa using hp
end
end Go.Alm

/- Rows of rows of bytes, as they stand in memory; slices that are made of a length that isn't closed. -/
namespace Go.Alm
open Go Go.RowKit Go.ChangeShapes Go.WideShapes Go.ChangeAt

structure BSl where
  ao : Option Addr
  cap : Nat
  b : List Nat
def BSl.cell (x : BSl) : Value := .slice x.ao x.b.length x.cap
structure BSl.Ok (x : BSl) : Prop where
  b : Byt x.b
  cap : x.b.length ≤ x.cap
  len : x.cap ≤ maxLen
def cellsR (ls : List BSl) : List Value := ls.map BSl.cell
/-- Rows of bytes, all of them within `T`. -/
structure RowsAt (T : Nat → Prop) (w : World) (ao : Option Addr) (ls : List BSl) : Prop where
  rd : Rd w ao (cellsR ls)
  rdb : ∀ x ∈ ls, Rd w x.ao (B x.b)
  in1 : Sub (Ar ao (cellsR ls)) T
  in2 : ∀ x ∈ ls, Sub (Ar x.ao (B x.b)) T
  ok : ∀ x ∈ ls, x.Ok
  size : In w T
theorem RowsAt.keep {T : Nat → Prop} {w w' : World} {ao : Option Addr} {ls : List BSl} {S : Nat → Prop} (h : RowsAt T w ao ls) (F : Fr w w' S) (d : Dis T S) : RowsAt T w' ao ls :=
  ⟨h.rd.keep' F (h.in1.dis d), fun x hx => (h.rdb x hx).keep' F ((h.in2 x hx).dis d), h.in1, h.in2, h.ok, h.size.le F.size⟩
theorem RowsAt.in {T : Nat → Prop} {w : World} {ao : Option Addr} {ls : List BSl} (h : RowsAt T w ao ls) : In w T := h.size
theorem cellsR_length (ls : List BSl) : (cellsR ls).length = ls.length := by simp [cellsR]
theorem cellsR_get (ls : List BSl) (k : Nat) (x : BSl) (h : ls[k]? = some x) : (cellsR ls)[k * 1]? = some (.slice x.ao x.b.length x.cap) := by
  rw [Nat.mul_one]
  simp [cellsR, h, BSl.cell]

section
variable {H : Type} {enc : TypeId × Value → H} {P : Program} {w : World} {base : Nat} {sp : Nat → Bool} {held : Bool} {fuel t e : Nat} {cs : List Value} {x : DataW H × List MemPlace}
theorem rows_of_trod {e8 : Nat} (ht : P.underlying t = some (.slice e)) (he : P.underlying e = some (.slice e8)) (h8 : P.underlying e8 = some (.int .u8)) (ze : P.cellsOf e = 1) (z8 : P.cellsOf e8 = 1)
    (h : DataW.trod enc P w base sp held fuel t cs = some x) : ∃ ao ls cap, cs = [.slice ao (ls : List BSl).length cap] ∧ RowsAt (Old w.heap.size) w ao ls ∧ ls.length ≤ cap ∧ cap ≤ maxLen := by
  rcases DataW.trod_slice ht h with ⟨rfl, _⟩ | ⟨a, len, cap, elems, rest, n, _, rfl, _, _, hlc, hcm, hel, hget, _⟩
  · exact ⟨none, [], 0, rfl, ⟨Rd.nil _ _, fun _ h => (by cases h), Sub.nil, fun _ h => (by cases h), fun _ h => (by cases h), In.old (Nat.le_refl _)⟩, Nat.le_refl _, Nat.zero_le _⟩
  · have key : ∀ i, i < len → ∃ y : BSl, y.Ok ∧ Rd w y.ao (B y.b) ∧ w.cell? (a.add i) = some y.cell := fun i hi' => by
      have h1 := hget i hi'
      have hs : (elems[i]?).isSome = true := by simp [hel, hi']
      obtain ⟨c, hc, hy⟩ := some_of_bind h1 hs
      obtain ⟨y, hy'⟩ := Option.isSome_iff_exists.1 hs
      rw [hy'] at hy
      obtain ⟨ao, b, cp, e3, hR, Bb, hbc, hcm'⟩ := bytes_of_trod he h8 z8 hy
      rw [ze, Nat.mul_one] at hc
      have hcell := (World.cells?_some hc).2.2 0 (by decide)
      have hadd : (a.add i).add 0 = a.add i := rfl
      rw [hadd, e3] at hcell
      exact ⟨⟨ao, cp, b⟩, ⟨Bb, hbc, hcm'⟩, hR, hcell⟩
    let f : Nat → BSl := fun i => if h : i < len then Classical.choose (key i h) else ⟨none, 0, []⟩
    have hf : ∀ i, i < len → (f i).Ok ∧ Rd w (f i).ao (B (f i).b) ∧ w.cell? (a.add i) = some (f i).cell := fun i hi' => by
      have : f i = Classical.choose (key i hi') := by simp only [f, dif_pos hi']
      rw [this]; exact Classical.choose_spec (key i hi')
    have hmem : ∀ y ∈ (List.range len).map f, ∃ i, i < len ∧ y = f i := fun y hy => by
      obtain ⟨i, hi', rfl⟩ := List.mem_map.1 hy
      exact ⟨i, List.mem_range.1 hi', rfl⟩
    have hRd : Rd w (some a) (cellsR ((List.range len).map f)) := fun j u hj => by
      have hjl := (List.getElem?_eq_some_iff.1 hj).1
      rw [cellsR_length, List.length_map, List.length_range] at hjl
      refine ⟨a, rfl, ?_⟩
      rw [(hf j hjl).2.2]
      rw [← hj]
      simp [cellsR, hjl]
    refine ⟨some a, (List.range len).map f, cap, by simp, ⟨hRd, ?_, hRd.in, ?_, ?_, In.old (Nat.le_refl _)⟩, by simpa using hlc, hcm⟩
    · intro y hy; obtain ⟨i, hi', rfl⟩ := hmem y hy; exact (hf i hi').2.1
    · intro y hy; obtain ⟨i, hi', rfl⟩ := hmem y hy; exact (hf i hi').2.1.in
    · intro y hy; obtain ⟨i, hi', rfl⟩ := hmem y hy; exact (hf i hi').1
theorem nat_of_trod_u8 {v : Int} {d : DataW H} {p : List MemPlace} (ht : P.underlying t = some (.int .u8)) (h : DataW.Trod enc P w base sp held t (.int .u8 v) d p) : ∃ n : Nat, v = (n : Int) ∧ n < 256 := by
  obtain ⟨fu, hf⟩ := h
  obtain ⟨m, e1, _, hwf⟩ := DataW.trod_int ht hf
  have : v = m := by simpa [Value.cells] using e1
  subst this
  simp only [Lit.wf, Bool.and_eq_true, decide_eq_true_eq] at hwf
  have c1 : IntKind.u8.min = 0 := by decide
  have c2 : IntKind.u8.max = 255 := by decide
  exact ⟨v.toNat, by omega, by omega⟩
theorem nat_of_trod_u64 {v : Int} {d : DataW H} {p : List MemPlace} (ht : P.underlying t = some (.int .u64)) (h : DataW.Trod enc P w base sp held t (.int .u64 v) d p) : ∃ n : Nat, v = (n : Int) ∧ n < 18446744073709551616 := by
  obtain ⟨fu, hf⟩ := h
  obtain ⟨m, e1, _, hwf⟩ := DataW.trod_int ht hf
  have : v = m := by simpa [Value.cells] using e1
  subst this
  simp only [Lit.wf, Bool.and_eq_true, decide_eq_true_eq] at hwf
  have c1 : IntKind.u64.min = 0 := by decide
  have c2 : IntKind.u64.max = 18446744073709551615 := by decide
  exact ⟨v.toNat, by omega, by omega⟩
theorem nat_of_trod_u32 {v : Int} {d : DataW H} {p : List MemPlace} (ht : P.underlying t = some (.int .u32)) (h : DataW.Trod enc P w base sp held t (.int .u32 v) d p) : ∃ n : Nat, v = (n : Int) ∧ n < 4294967296 := by
  obtain ⟨fu, hf⟩ := h
  obtain ⟨m, e1, _, hwf⟩ := DataW.trod_int ht hf
  have : v = m := by simpa [Value.cells] using e1
  subst this
  simp only [Lit.wf, Bool.and_eq_true, decide_eq_true_eq] at hwf
  have c1 : IntKind.u32.min = 0 := by decide
  have c2 : IntKind.u32.max = 4294967295 := by decide
  exact ⟨v.toNat, by omega, by omega⟩
end

/-! ### slices that are made -/
section
variable {P : Program} {Q : Exit → Act → World → Prop} {a : Act} {w : World} {o : Oper} {K : Act → World → Prop}
def makeOf : Op → Option (Nat × Operand × Operand)
  | .makeSlice t l c => some (t, l, c)
  | _ => none
theorem op_make (t : Nat) (l c : Operand) (e n : Nat) (z : Value) (ho : makeOf o.op = some (t, l, c)) (ht : P.underlying t = some (.slice e)) (hz : (P.info? e).bind (fun i => i.zero) = some z) (hs : sizeT P e = some 1) (hz1 : z.cells = #[z]) (hb : (P.info? e).map (fun i => Nat.ble i.bytes 64) = some true)
    (hl : a.eval l = .int .i64 (n : Int)) (hc : a.eval c = .int .i64 (n : Int)) (hn : n ≤ 1000000)
    (k : ∀ w' b, w'.heap[b]? = some (.cells (Array.replicate n z) e (0, 0)) → b = w.heap.size → Fr w w' N0 → K (a.put o.dst (.slice (some ⟨b, 0, none⟩) n n)) w') : OpW P o a w K Q := by
  obtain ⟨i, hi, hz⟩ := Option.bind_eq_some_iff.1 hz
  have hs : i.size = 1 := by unfold sizeT at hs; rw [hi] at hs; simpa using hs
  have hb : i.bytes ≤ 64 := by rw [hi] at hb; simpa using hb
  unfold makeOf at ho
  split at ho
  · rename_i t' l' c' hop
    simp only [Option.some.injEq, Prod.mk.injEq] at ho
    obtain ⟨rfl, rfl, rfl⟩ := ho
    have hbn : (i.bytes : Int) * (n : Int) ≤ 281474976710656 := by
      have h1 : i.bytes * n ≤ 64 * 1000000 := Nat.mul_le_mul hb hn
      have h2 : ((i.bytes * n : Nat) : Int) ≤ 281474976710656 := by omega
      rwa [Int.natCast_mul] at h2
    have hr := run_makeSlice (P := P) w t' e i z ht hi hz .i64 .i64 n n (by omega) (Int.le_refl _) (by rw [hs, Int.toNat_natCast]; omega) hbn (by omega)
    have hm : madeCells z.cells ((n : Int).toNat * i.size) = Array.replicate n z := by
      rw [hs, Int.toNat_natCast, Nat.mul_one, hz1]
      unfold madeCells
      apply Array.ext
      · simp
      · intro j h1 h2
        simp [Nat.mod_one]
    rw [hm, Int.toNat_natCast] at hr
    refine op_run _ _ ?_ (k _ _ (heap_alloc_new w _) rfl (Fr.alloc1 w _))
    unfold execOp
    simp only [hop, hl, hc, Sem.run_bind, hr, Result.andThen_ok, Sem.run_pure]
  · cases ho
/-- An index into a slice that begins within a block. -/
theorem run_idx_slb (t : Nat) (x i : Operand) (sz b off n c : Nat) (kd : IntKind) (k : Nat) (ho : idxAOf o.op = some (t, x, i)) (hs : isSl P t = true) (hz : elemSz P t = some sz)
    (hx : a.eval x = .slice (some ⟨b, off, none⟩) n c) (hi : a.eval i = .int kd k) (hk : k < n) : (execOp a.eval o).run P w = .ok (.value (.pointer (some ⟨b, off + k * sz, none⟩))) w := by
  have h := run_idx_sl (P := P) (w := w) t x i sz ⟨b, off, none⟩ n c kd k ho hs hz hx hi hk
  have hadd : (⟨b, off, none⟩ : Addr).add (k * sz) = ⟨b, off + k * sz, none⟩ := by unfold Addr.add; split <;> simp_all
  rw [hadd] at h
  exact h
end
/-- A byte, so often; then zeros. -/
def fillC (c n i : Nat) : List Nat := List.replicate i c ++ List.replicate (n - i) 0
theorem fillC_length {c n i : Nat} (h : i ≤ n) : (fillC c n i).length = n := by simp [fillC]; omega
theorem fillC_step {c n i : Nat} (h : i < n) : (fillC c n i).set i c = fillC c n (i + 1) := by
  unfold fillC
  rw [List.set_append_right _ _ (by simp), List.length_replicate, Nat.sub_self, show n - i = (n - (i + 1)) + 1 by omega, List.replicate_succ, List.set_cons_zero, List.replicate_succ', List.append_assoc]
  rfl
theorem fillC_all {c n : Nat} : fillC c n n = List.replicate n c := by simp [fillC]
theorem B_set {L : List Nat} {i x : Nat} (h : i < L.length) : spl (B L).toArray (0 + i * 1) #[.int .u8 (x : Int)] = (B (L.set i x)).toArray := by
  unfold spl
  have e : 0 + i * 1 = i := by omega
  have hl : (B L).length = L.length := B_length L
  rw [e]
  simp only [List.size_toArray, List.length_cons, List.length_nil]
  congr 1
  have e2 : B (L.set i x) = (B L).set i (.int .u8 (x : Int)) := by simp [B, List.map_set]
  rw [e2, List.set_eq_take_append_cons_drop, if_pos (by omega)]
  simp
theorem zeros_B {n : Nat} {c : Nat} : Array.replicate n (Value.int .u8 0) = (B (fillC c n 0)).toArray := by
  apply Array.toList_inj.1
  simp [fillC, B]
theorem Row.ofBlk {w : World} {b n t8 : Nat} {L : List Nat} (h : w.heap[b]? = some (.cells (B L).toArray t8 (0, 0))) (hl : L.length = n) (hn : n ≤ 1000000) : Row w t8 1 (.slice (some ⟨b, 0, none⟩) n n) L.length (B L) := by
  subst hl
  exact Row.made h (by simp) (by simp only [maxLen]; omega)
end Go.Alm

/- Digests that are known; digests that are compared. -/
namespace Go.Alm
open Go Go.RowKit
section
variable {P : Program} {a : Act} {w : World} {o : Oper}
theorem run_neq_hash_self (t : TypeId) (x y : Operand) (l : List Nat) (ho : eqlOf o.op = some (false, t, x, y)) (ht : arrInt P t = some (32, .u8)) (hk : P.keyTypeAt 2 t = true) (hg : P.eqGuardType P.depth t = false)
    (hx : a.eval x = .agg (hv l)) (hy : a.eval y = .agg (hv l)) (hl : l.length = 32) (hb : Byt l) : (execOp a.eval o).run P w = .ok (.value (.bool false)) w := by
  have h := run_eq_hash (w := w) false t x y l l ho ht hk hg hx hy hl hl hb hb
  simpa using h
end
theorem sha_e0 : (shaL []).getD 0 0 = 227 := by kernel_rfl
theorem sha_e31 : (shaL []).getD 31 0 = 85 := by kernel_rfl
theorem sha_a0 : (shaL [97, 98, 99]).getD 0 0 = 186 := by kernel_rfl
theorem sha_a1 : (shaL [97, 98, 99]).getD 1 0 = 120 := by kernel_rfl
theorem sha_a31 : (shaL [97, 98, 99]).getD 31 0 = 173 := by kernel_rfl
end Go.Alm
