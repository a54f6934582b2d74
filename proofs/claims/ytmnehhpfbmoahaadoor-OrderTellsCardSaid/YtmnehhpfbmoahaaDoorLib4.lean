/- Plain lemmas and laws of the machine that the walks use; without conditions of their own. -/
import Derived.Test.YtmnehhpfbmoahaaDoorLib3
import Derived.Test.YtmnehhpfbmoahaaDoorLib1
import Derived.Test.YtmnehhpfbmoahaaDoorLib2
/- Layer 12's plain law: an order of keys, and the first greatest one. -/
namespace Go.Alm
open Go Go.RowKit

def cmpN (x y : Nat) : Int := if x < y then -1 else if y < x then 1 else 0
def cmpL : List Nat → List Nat → Int
  | x :: a, y :: b => if x < y then -1 else if y < x then 1 else cmpL a b
  | _, _ => 0
structure OKey where
  len : Nat
  draw : List Nat
  hash : List Nat
  deriving Inhabited
def cmpK (a b : OKey) : Int := if a.len < b.len then -1 else if b.len < a.len then 1 else if cmpL a.draw b.draw ≠ 0 then cmpL a.draw b.draw else cmpL a.hash b.hash

theorem cmpL_rng : ∀ a b : List Nat, cmpL a b = -1 ∨ cmpL a b = 0 ∨ cmpL a b = 1
  | [], _ => .inr (.inl rfl)
  | _ :: _, [] => .inr (.inl rfl)
  | x :: a, y :: b => by
    unfold cmpL
    have := cmpL_rng a b
    split <;> (try split) <;> omega
theorem cmpL_anti : ∀ a b : List Nat, cmpL a b = - cmpL b a
  | [], [] => rfl
  | [], _ :: _ => rfl
  | _ :: _, [] => rfl
  | x :: a, y :: b => by
    unfold cmpL
    have := cmpL_anti a b
    by_cases h1 : x < y
    · rw [if_pos h1, if_neg (by omega), if_pos h1]
    · by_cases h2 : y < x
      · rw [if_neg h1, if_pos h2, if_pos h2]; rfl
      · rw [if_neg h1, if_neg h2, if_neg h2, if_neg h1]; exact this
theorem cmpL_self : ∀ a : List Nat, cmpL a a = 0
  | [] => rfl
  | x :: a => by unfold cmpL; rw [if_neg (by omega), if_neg (by omega)]; exact cmpL_self a
theorem cmpL_eq : ∀ {a b : List Nat}, a.length = b.length → cmpL a b = 0 → a = b
  | [], [], _, _ => rfl
  | [], _ :: _, h, _ => by simp at h
  | _ :: _, [], h, _ => by simp at h
  | x :: a, y :: b, h, e => by
    unfold cmpL at e
    split at e
    · cases e
    · split at e
      · cases e
      · have : x = y := by omega
        rw [this, cmpL_eq (by simpa using h) e]
theorem cmpL_trans : ∀ {a b c : List Nat}, a.length = b.length → b.length = c.length → 0 ≤ cmpL a b → 0 ≤ cmpL b c → cmpL a b ≤ cmpL a c ∧ cmpL b c ≤ cmpL a c
  | [], [], [], _, _, _, _ => by simp [cmpL]
  | [], _ :: _, _, h, _, _, _ => by simp at h
  | _ :: _, [], _, h, _, _, _ => by simp at h
  | _, [], _ :: _, _, h, _, _ => by simp at h
  | _, _ :: _, [], _, h, _, _ => by simp at h
  | x :: a, y :: b, z :: c, h1, h2, h3, h4 => by
    have ih := cmpL_trans (a := a) (b := b) (c := c) (by simpa using h1) (by simpa using h2)
    have r1 := cmpL_rng a b
    have r2 := cmpL_rng b c
    have r3 := cmpL_rng a c
    unfold cmpL at h3 h4 ⊢
    by_cases p1 : x < y
    · rw [if_pos p1] at h3; omega
    · rw [if_neg p1] at h3 ⊢
      by_cases p2 : y < z
      · rw [if_pos p2] at h4; omega
      · rw [if_neg p2] at h4 ⊢
        by_cases q1 : y < x
        · rw [if_pos q1] at h3 ⊢
          rw [if_neg (by omega : ¬ x < z), if_pos (by omega : z < x)]
          by_cases q2 : z < y
          · rw [if_pos q2]; omega
          · rw [if_neg q2]; omega
        · rw [if_neg q1] at h3 ⊢
          by_cases q2 : z < y
          · rw [if_pos q2] at h4 ⊢
            rw [if_neg (by omega : ¬ x < z), if_pos (by omega : z < x)]
            omega
          · rw [if_neg q2] at h4 ⊢
            rw [if_neg (by omega : ¬ x < z), if_neg (by omega : ¬ z < x)]
            exact ih h3 h4

theorem cmpK_rng (a b : OKey) : cmpK a b = -1 ∨ cmpK a b = 0 ∨ cmpK a b = 1 := by
  unfold cmpK
  have := cmpL_rng a.draw b.draw
  have := cmpL_rng a.hash b.hash
  split <;> (try split) <;> (try split) <;> omega
theorem cmpK_anti (a b : OKey) : cmpK a b = - cmpK b a := by
  unfold cmpK
  have h1 := cmpL_anti a.draw b.draw
  have h2 := cmpL_anti a.hash b.hash
  by_cases p : a.len < b.len
  · rw [if_pos p, if_neg (by omega), if_pos p]
  · by_cases q : b.len < a.len
    · rw [if_neg p, if_pos q, if_pos q]; rfl
    · rw [if_neg p, if_neg q, if_neg q, if_neg p]
      split <;> split <;> omega
theorem cmpK_self (a : OKey) : cmpK a a = 0 := by
  unfold cmpK
  rw [if_neg (by omega), if_neg (by omega), cmpL_self, if_neg (by omega), cmpL_self]
structure OKey.Ok (a : OKey) : Prop where
  len : a.len < 4294967296
  draw : H32 a.draw
  hash : H32 a.hash
theorem cmpK_eq {a b : OKey} (ha : a.Ok) (hb : b.Ok) (e : cmpK a b = 0) : a = b := by
  obtain ⟨al, ad, ah⟩ := a
  obtain ⟨bl, bd, bh⟩ := b
  have l1 : ad.length = bd.length := ha.draw.len.trans hb.draw.len.symm
  have l2 : ah.length = bh.length := ha.hash.len.trans hb.hash.len.symm
  unfold cmpK at e
  simp only at e
  split at e
  · cases e
  · split at e
    · cases e
    · split at e
      · rename_i h; exact absurd e h
      · rename_i p q h
        have h := Classical.byContradiction fun h' => h h'
        have e1 := cmpL_eq l1 (by omega)
        have e2 := cmpL_eq l2 e
        have e3 : al = bl := by omega
        rw [e1, e2, e3]
theorem cmpK_iff {a b : OKey} (ha : a.Ok) (hb : b.Ok) : cmpK a b = 0 ↔ a = b := ⟨cmpK_eq ha hb, fun e => e ▸ cmpK_self a⟩
theorem cmpK_trans {a b c : OKey} (ha : a.Ok) (hb : b.Ok) (hc : c.Ok) (h3 : 0 ≤ cmpK a b) (h4 : 0 ≤ cmpK b c) : cmpK a b ≤ cmpK a c ∧ cmpK b c ≤ cmpK a c := by
  have t1 := cmpL_trans (a := a.draw) (b := b.draw) (c := c.draw) (ha.draw.len.trans hb.draw.len.symm) (hb.draw.len.trans hc.draw.len.symm)
  have t2 := cmpL_trans (a := a.hash) (b := b.hash) (c := c.hash) (ha.hash.len.trans hb.hash.len.symm) (hb.hash.len.trans hc.hash.len.symm)
  have r1 := cmpL_rng a.draw b.draw
  have r2 := cmpL_rng b.draw c.draw
  have r3 := cmpL_rng a.draw c.draw
  have r4 := cmpL_rng a.hash b.hash
  have r5 := cmpL_rng b.hash c.hash
  have r6 := cmpL_rng a.hash c.hash
  unfold cmpK at h3 h4 ⊢
  by_cases p1 : a.len < b.len
  · rw [if_pos p1] at h3; omega
  rw [if_neg p1] at h3 ⊢
  by_cases p2 : b.len < c.len
  · rw [if_pos p2] at h4; omega
  rw [if_neg p2] at h4 ⊢
  by_cases q1 : b.len < a.len
  · rw [if_pos q1] at h3 ⊢
    rw [if_neg (by omega : ¬ a.len < c.len), if_pos (by omega : c.len < a.len)]
    by_cases q2 : c.len < b.len
    · rw [if_pos q2]; omega
    · rw [if_neg q2]; split <;> omega
  rw [if_neg q1] at h3 ⊢
  by_cases q2 : c.len < b.len
  · rw [if_pos q2] at h4 ⊢
    rw [if_neg (by omega : ¬ a.len < c.len), if_pos (by omega : c.len < a.len)]
    split <;> omega
  rw [if_neg q2] at h4 ⊢
  rw [if_neg (by omega : ¬ a.len < c.len), if_neg (by omega : ¬ c.len < a.len)]
  by_cases d1 : cmpL a.draw b.draw = 0 <;> by_cases d2 : cmpL b.draw c.draw = 0
  · have e1 := cmpL_eq (ha.draw.len.trans hb.draw.len.symm) d1
    have d3 : cmpL a.draw c.draw = 0 := by rw [e1]; exact d2
    simp only [d1, d2, d3, ne_eq, not_true_eq_false, if_false] at h3 h4 ⊢
    exact t2 h3 h4
  · have e1 := cmpL_eq (ha.draw.len.trans hb.draw.len.symm) d1
    have d3 : cmpL a.draw c.draw = cmpL b.draw c.draw := by rw [e1]
    simp only [d1, d2, d3, ne_eq, not_true_eq_false, not_false_eq_true, if_false, if_true] at h3 h4 ⊢
    omega
  · have e2 := cmpL_eq (hb.draw.len.trans hc.draw.len.symm) d2
    have d3 : cmpL a.draw c.draw = cmpL a.draw b.draw := by rw [e2]
    simp only [d1, d2, d3, ne_eq, not_true_eq_false, not_false_eq_true, if_false, if_true] at h3 h4 ⊢
    omega
  · simp only [d1, d2, ne_eq, not_false_eq_true, if_true] at h3 h4 ⊢
    have := t1 h3 h4
    have d3 : ¬ cmpL a.draw c.draw = 0 := by omega
    simp only [d3, not_false_eq_true, if_true]
    exact this

/-! ### the first greatest one -/
def grtN (l : List OKey) : Nat → Int
  | 0 => -1
  | i + 1 => if grtN l i < 0 ∨ 0 < cmpK (l.getD i default) (l.getD (grtN l i).toNat default) then (i : Int) else grtN l i
def AllOk (l : List OKey) : Prop := ∀ x ∈ l, x.Ok
theorem AllOk.get {l : List OKey} (h : AllOk l) {i : Nat} (hi : i < l.length) : (l.getD i default).Ok := by
  rw [List.getD_eq_getElem?_getD, List.getElem?_eq_getElem hi]
  exact h _ (List.getElem_mem hi)
structure IsG (l : List OKey) (n at_ : Nat) : Prop where
  lt : at_ < n
  all : ∀ j, j < n → cmpK (l.getD j default) (l.getD at_ default) ≤ 0
  fst : ∀ j, j < at_ → cmpK (l.getD j default) (l.getD at_ default) < 0
theorem grtN_spec {l : List OKey} (h : AllOk l) : ∀ {n : Nat}, n ≤ l.length → 0 < n → ∃ m : Nat, grtN l n = (m : Int) ∧ IsG l n m
  | 0, _, hn => by omega
  | 1, hl, _ => ⟨0, by simp [grtN], by omega, fun j hj => by
      have : j = 0 := by omega
      subst this; rw [cmpK_self]; omega, fun j hj => by omega⟩
  | n + 2, hl, _ => by
    obtain ⟨m, hm, hg⟩ := grtN_spec h (n := n + 1) (by omega) (by omega)
    unfold grtN
    rw [hm]
    have ok := fun (i : Nat) (hi : i < n + 2) => h.get (i := i) (by omega)
    by_cases hc : (m : Int) < 0 ∨ 0 < cmpK (l.getD (n + 1) default) (l.getD (m : Int).toNat default)
    · rw [if_pos hc]
      have hc : 0 < cmpK (l.getD (n + 1) default) (l.getD m default) := by
        rcases hc with hc | hc
        · omega
        · simpa using hc
      refine ⟨n + 1, rfl, by omega, fun j hj => ?_, fun j hj => ?_⟩
      · rcases Nat.lt_or_ge j (n + 1) with hj' | hj'
        · have h1 := hg.all j hj'
          have h2 := cmpK_anti (l.getD j default) (l.getD m default)
          have := cmpK_trans (ok (n + 1) (by omega)) (ok m (by have := hg.lt; omega)) (ok j (by omega)) (by omega) (by omega)
          have := cmpK_anti (l.getD j default) (l.getD (n + 1) default)
          omega
        · have : j = n + 1 := by omega
          subst this; rw [cmpK_self]; omega
      · have h1 := hg.all j hj
        have h2 := cmpK_anti (l.getD j default) (l.getD m default)
        have := cmpK_trans (ok (n + 1) (by omega)) (ok m (by have := hg.lt; omega)) (ok j (by omega)) (by omega) (by omega)
        have := cmpK_anti (l.getD j default) (l.getD (n + 1) default)
        omega
    · rw [if_neg hc]
      refine ⟨m, rfl, by have := hg.lt; omega, fun j hj => ?_, hg.fst⟩
      rcases Nat.lt_or_ge j (n + 1) with hj' | hj'
      · exact hg.all j hj'
      · have : j = n + 1 := by omega
        subst this
        have : ¬ 0 < cmpK (l.getD (n + 1) default) (l.getD m default) := fun h => hc (.inr (by simpa using h))
        omega
theorem grtN_neg {l : List OKey} (h : AllOk l) {n : Nat} (hn : n ≤ l.length) : grtN l n < 0 ↔ n = 0 := by
  rcases Nat.eq_zero_or_pos n with rfl | hp
  · simp [grtN]
  · obtain ⟨m, hm, _⟩ := grtN_spec h hn hp
    constructor <;> intro <;> omega
/-- The reference's: the first one that none is greater than. -/
theorem IsG.eq {l : List OKey} (h : AllOk l) {i : Nat} (hi : i < l.length) (hall : ∀ k, k < l.length → cmpK (l.getD k default) (l.getD i default) ≤ 0) (hno : ∀ j, j < i → ∃ k, k < l.length ∧ 0 < cmpK (l.getD k default) (l.getD j default)) : grtN l l.length = (i : Int) := by
  obtain ⟨m, hm, hg⟩ := grtN_spec h (Nat.le_refl _) (by omega)
  rw [hm]
  rcases Nat.lt_trichotomy m i with hl | he | hl
  · obtain ⟨k, hk, hgt⟩ := hno m hl
    have := hg.all k hk
    omega
  · rw [he]
  · have h1 := hg.fst i hl
    have h2 := hall m hg.lt
    have := cmpK_anti (l.getD i default) (l.getD m default)
    omega
theorem grtN_none {l : List OKey} (h : AllOk l) (hno : ∀ j, j < l.length → ∃ k, k < l.length ∧ 0 < cmpK (l.getD k default) (l.getD j default)) : grtN l l.length = -1 := by
  rcases Nat.eq_zero_or_pos l.length with h0 | hp
  · rw [h0]; rfl
  · obtain ⟨m, _, hg⟩ := grtN_spec h (Nat.le_refl _) hp
    obtain ⟨k, hk, hgt⟩ := hno m hg.lt
    have := hg.all k hk
    omega
end Go.Alm

/- Rows of records: what is appended, and what is read. -/
namespace Go.Alm
open Go Go.RowKit
section
variable {X : Type}
def RL (f : X → Array Value) : List X → List Value
  | [] => []
  | x :: l => (f x).toList ++ RL f l
theorem RL_length {f : X → Array Value} {sz : Nat} (hs : ∀ x, (f x).size = sz) : ∀ l : List X, (RL f l).length = l.length * sz
  | [] => by simp [RL]
  | x :: l => by rw [RL, List.length_append, RL_length hs l, Array.length_toList, hs, List.length_cons, Nat.succ_mul, Nat.add_comm]
theorem RL_append (f : X → Array Value) : ∀ l m : List X, RL f (l ++ m) = RL f l ++ RL f m
  | [], _ => rfl
  | x :: l, m => by rw [List.cons_append, RL, RL, RL_append f l m, List.append_assoc]
theorem RL_snoc (f : X → Array Value) (l : List X) (x : X) : RL f l ++ (f x).toList = RL f (l ++ [x]) := by
  rw [RL_append, RL, RL, List.append_nil]
theorem RL_drop {f : X → Array Value} {sz : Nat} (hs : ∀ x, (f x).size = sz) : ∀ (l : List X) (k : Nat), (RL f l).drop (k * sz) = RL f (l.drop k)
  | l, 0 => by simp
  | [], k + 1 => by simp [RL]
  | x :: l, k + 1 => by
    have : (k + 1) * sz = (f x).toList.length + k * sz := by rw [Array.length_toList, hs, Nat.succ_mul, Nat.add_comm]
    rw [RL, this, List.drop_length_add_append, RL_drop hs l k, List.drop_succ_cons]
/-- A part of an element. -/
theorem RL_sub {f : X → Array Value} {sz : Nat} (hs : ∀ x, (f x).size = sz) (d : X) {l : List X} {k off m : Nat} (hk : k < l.length) (hm : off + m ≤ sz) : ((RL f l).drop (k * sz + off)).take m = ((f (l.getD k d)).toList.drop off).take m := by
  have e : l.drop k = l.getD k d :: l.drop (k + 1) := by
    rw [List.drop_eq_getElem_cons hk, List.getD_eq_getElem?_getD, List.getElem?_eq_getElem hk, Option.getD_some]
  rw [← List.drop_drop, RL_drop hs, e, RL]
  rw [List.drop_append_of_le_length (by rw [Array.length_toList, hs]; omega), List.take_append_of_le_length (by rw [List.length_drop, Array.length_toList, hs]; omega)]
theorem RL_whole {f : X → Array Value} {sz : Nat} (hs : ∀ x, (f x).size = sz) (d : X) {l : List X} {k : Nat} (hk : k < l.length) : ((RL f l).drop (k * sz)).take sz = (f (l.getD k d)).toList := by
  have h := RL_sub hs d (l := l) (k := k) (off := 0) (m := sz) hk (by omega)
  rw [Nat.add_zero, List.drop_zero] at h
  rw [h, List.take_of_length_le (by simp [hs])]
theorem RL_get {f : X → Array Value} {sz : Nat} (hs : ∀ x, (f x).size = sz) (d : X) {l : List X} {k off : Nat} (hk : k < l.length) (hm : off < sz) : (RL f l)[k * sz + off]? = (f (l.getD k d)).toList[off]? := by
  have h := congrArg (·[0]?) (RL_sub (m := 1) hs d hk (show off + 1 ≤ sz from hm))
  simpa [List.getElem?_take, List.getElem?_drop] using h
end
section
variable {P : Program} {Q : Exit → Act → World → Prop} {L : List Iv} {s : St} {RO FZ OW : List Rc} {X : Type}
/-- One record is appended. -/
theorem m_appR (n i e sz bytes : Nat) (f : X → Array Value) (l : List X) (x : X) (src : SrcW P sz (appTx (go P n s)) (RO ++ (FZ ++ OW.eraseIdx i)) (appX (go P n s)) 1 (f x).toList) (hb : l.length + 1 ≤ maxLen ∧ (l.length + 1) * bytes ≤ 140737488355328)
    (k : ∀ ao cap, J P Q L (nx (go P n s) (.slice ao (l ++ [x]).length cap)) RO FZ (OW.set i (.row e sz ao (l ++ [x]).length cap (RL f (l ++ [x])))))
    (hr : gr OW i = .row e sz (gr OW i).ao l.length (gr OW i).cap (RL f l) := by kernel_rfl) (hv : appS (go P n s) = .slice (gr OW i).ao l.length (gr OW i).cap := by kernel_rfl)
    (hc : (appOk P (go P n s) e sz bytes && (acts (go P n s) && onW (go P n s))) = true := by kernel_rfl) : J P Q L s RO FZ OW := by
  refine m_app n i e sz bytes l.length 1 (RL f l) (f x).toList (RL f (l ++ [x])) src hb (RL_snoc f l x) (fun ao cap => ?_) hr hv hc
  have h := k ao cap
  rw [List.length_append] at h
  exact h
theorem m_lxF (n i p off : Nat) (xs : List Value) (u : Value) (hu : xs[p + off]? = some u) (k : J P Q L (nx (go P n s) u) RO FZ OW)
    (h1 : (go P n s).a.eval (ldX (go P n s)) = .pointer (some (((oad (gr (RO ++ (FZ ++ OW)) i).ao).add p).add off)) := by kernel_rfl) (h3 : (gr (RO ++ (FZ ++ OW)) i).xs = xs := by kernel_rfl)
    (hc : ((loadOf (cur (go P n s)).op).isSome && (rowed P (ldT (go P n s)) == some false) && (gr (RO ++ (FZ ++ OW)) i).isRd && (onW (go P n s) && rdOk (go P n s) i (RO ++ FZ).length)) = true := by kernel_rfl) : J P Q L s RO FZ OW :=
  m_lx n i (p + off) xs u hu k (by rw [h1, add_add]) h3 hc
theorem m_lxNF (n i p off sz : Nat) (xs : List Value) (vs : Array Value) (hu : (xs.drop (p + off)).take sz = vs.toList) (hs : vs.size = sz) (k : J P Q L (nx (go P n s) (.agg vs)) RO FZ OW)
    (h1 : (go P n s).a.eval (ldX (go P n s)) = .pointer (some (((oad (gr (RO ++ (FZ ++ OW)) i).ao).add p).add off)) := by kernel_rfl) (h3 : (gr (RO ++ (FZ ++ OW)) i).xs = xs := by kernel_rfl)
    (hc : ((loadOf (cur (go P n s)).op).isSome && (rowed P (ldT (go P n s)) == some true) && (sizeT P (ldT (go P n s)) == some sz) && Nat.blt 0 sz && (gr (RO ++ (FZ ++ OW)) i).isRd && (onW (go P n s) && rdOk (go P n s) i (RO ++ FZ).length)) = true := by kernel_rfl) : J P Q L s RO FZ OW :=
  m_lxN n i (p + off) sz xs vs hu hs k (by rw [h1, add_add]) h3 hc
/-- A block's cells, said otherwise. -/
theorem m_cells (i b te : Nat) (c c' : Array Value) (e : c = c') (k : J P Q L s RO FZ (OW.set i (.blk b c' te))) (hr : gr OW i = .blk b c te := by kernel_rfl) (h : Nat.blt i OW.length = true := by kernel_rfl) : J P Q L s RO FZ OW :=
  m_view i (.blk b c' te) (by rw [hr, e]; exact .refl) k h
/-- A row's elements, said otherwise. -/
theorem m_elems (i e sz : Nat) (ao : Option Addr) (n n' cap : Nat) (xs xs' : List Value) (he : n = n' ∧ xs = xs') (k : J P Q L s RO FZ (OW.set i (.row e sz ao n' cap xs'))) (hr : gr OW i = .row e sz ao n cap xs := by kernel_rfl) (h : Nat.blt i OW.length = true := by kernel_rfl) : J P Q L s RO FZ OW :=
  m_view i (.row e sz ao n' cap xs') (by rw [hr, he.1, he.2]; exact .refl) k h
end
end Go.Alm

/- Layer 12's keys by their cells; comparing, step by step. -/
namespace Go.Alm
open Go Go.RowKit
def OKey.cells (k : OKey) : Array Value := aj (aj #[.int .u32 (k.len : Int)] (hv k.draw)) (hv k.hash)
theorem OKey.size (k : OKey) : k.cells.size = 65 := by rw [OKey.cells, aj_size, aj_size, hv_size, hv_size]; rfl
theorem OKey.wf {k : OKey} (h : k.Ok) : WfA k.cells := ((WfA.lit (l := [.int .u32 (k.len : Int)]) ⟨wf_n32 h.len, trivial⟩).app h.draw.wf).app h.hash.wf
theorem OKey.inj {x y : OKey} (h : x.Ok) (k : y.Ok) : x.cells = y.cells ↔ x = y := ⟨fun e => by
  unfold OKey.cells at e
  obtain ⟨e, e3⟩ := aj_inj (by simp [aj_size, hv_size]) e
  obtain ⟨e1, e2⟩ := aj_inj (by simp) e
  have e1 := lit1_inj e1
  have e2 := (hv_iff h.draw.len k.draw.len).1 e2
  have e3 := (hv_iff h.hash.len k.hash.len).1 e3
  cases x; cases y
  simp_all, fun e => by rw [e]⟩
theorem h32lit {l : List Nat} (h : (Nat.beq l.length 32 && l.all (fun x => Nat.blt x 256)) = true) : H32 l := by
  rw [Bool.and_eq_true] at h
  exact ⟨Nat.eq_of_beq_eq_true h.1, fun x hx => by simpa using List.all_eq_true.1 h.2 x hx⟩
theorem hv_get (l : List Nat) {i : Nat} (h : i < 32) : (hv l)[0 + i * 1]? = some (.int .u8 ((l.getD i 0 : Nat) : Int)) := by
  simp [hv, h]
theorem drop_cons {l : List Nat} {i : Nat} (h : i < l.length) : l.drop i = l.getD i 0 :: l.drop (i + 1) := by
  rw [List.drop_eq_getElem_cons h, List.getD_eq_getElem?_getD, List.getElem?_eq_getElem h]; rfl
theorem cmpL_drop {a b : List Nat} {i : Nat} (ha : i < a.length) (hb : i < b.length) : cmpL (a.drop i) (b.drop i) = if a.getD i 0 < b.getD i 0 then -1 else if b.getD i 0 < a.getD i 0 then 1 else cmpL (a.drop (i + 1)) (b.drop (i + 1)) := by
  rw [drop_cons ha, drop_cons hb, cmpL]
theorem cmpL_end {a b : List Nat} {i : Nat} (ha : a.length ≤ i) : cmpL (a.drop i) (b.drop i) = 0 := by
  rw [List.drop_eq_nil_of_le ha]; rfl
theorem cmpN_lt {x y : Nat} (h : x < y) : cmpN x y = -1 := if_pos h
theorem cmpN_gt {x y : Nat} (h : y < x) : cmpN x y = 1 := by unfold cmpN; rw [if_neg (by omega), if_pos h]
theorem cmpN_eq {x y : Nat} (h : x = y) : cmpN x y = 0 := by unfold cmpN; rw [if_neg (by omega), if_neg (by omega)]
theorem cmpN_0 {x y : Nat} (h : cmpN x y = 0) : x = y := by
  unfold cmpN at h
  split at h
  · cases h
  · split at h
    · cases h
    · omega
theorem cmpL_hit {a b : List Nat} {i : Nat} (ha : i < a.length) (hb : i < b.length) (hx : cmpL a b = cmpL (a.drop i) (b.drop i)) (h : ¬ cmpN (a.getD i 0) (b.getD i 0) = 0) : cmpN (a.getD i 0) (b.getD i 0) = cmpL a b := by
  rw [hx, cmpL_drop ha hb]
  unfold cmpN at h ⊢
  split
  · rfl
  · split
    · rfl
    · rename_i h1 h2; rw [if_neg h1, if_neg h2] at h; exact absurd rfl h
theorem cmpL_miss {a b : List Nat} {i : Nat} (ha : i < a.length) (hb : i < b.length) (hx : cmpL a b = cmpL (a.drop i) (b.drop i)) (h : cmpN (a.getD i 0) (b.getD i 0) = 0) : cmpL a b = cmpL (a.drop (i + 1)) (b.drop (i + 1)) := by
  have := cmpN_0 h
  rw [hx, cmpL_drop ha hb, if_neg (by omega), if_neg (by omega)]
theorem cmpK_lt {a b : OKey} (h : a.len < b.len) : cmpK a b = -1 := if_pos h
theorem cmpK_gt {a b : OKey} (h : b.len < a.len) : cmpK a b = 1 := by unfold cmpK; rw [if_neg (by omega), if_pos h]
theorem cmpK_d {a b : OKey} (h : a.len = b.len) (hd : ¬ cmpL a.draw b.draw = 0) : cmpK a b = cmpL a.draw b.draw := by unfold cmpK; rw [if_neg (by omega), if_neg (by omega), if_pos hd]
theorem cmpK_h {a b : OKey} (h : a.len = b.len) (hd : cmpL a.draw b.draw = 0) : cmpK a b = cmpL a.hash b.hash := by unfold cmpK; rw [if_neg (by omega), if_neg (by omega), if_neg (by rw [hd]; decide)]
theorem cmpK_n1 {a b : OKey} (h : ¬ cmpN a.len b.len = 0) : cmpN a.len b.len = cmpK a b := by
  rcases Nat.lt_trichotomy a.len b.len with h1 | h1 | h1
  · rw [cmpN_lt h1, cmpK_lt h1]
  · exact absurd (cmpN_eq h1) h
  · rw [cmpN_gt h1, cmpK_gt h1]
theorem take_snocD {α : Type} [Inhabited α] {l : List α} {i : Nat} (h : i < l.length) : l.take (i + 1) = l.take i ++ [l.getD i default] := by
  rw [List.take_add_one, List.getElem?_eq_getElem h, List.getD_eq_getElem?_getD, List.getElem?_eq_getElem h]; rfl
theorem AllOk.take {l : List OKey} (h : AllOk l) (n : Nat) : AllOk (l.take n) := fun x hx => h x (List.mem_of_mem_take hx)
theorem grtN_take (l : List OKey) : ∀ {n : Nat}, n ≤ l.length → grtN (l.take n) n = grtN l n := by
  have key : ∀ (m n : Nat), n ≤ m → m ≤ l.length → grtN (l.take m) n = grtN l n := by
    intro m n
    induction n with
    | zero => intros; rfl
    | succ i ih =>
      intro h1 h2
      have g : ∀ j, j < m → (l.take m).getD j default = l.getD j default := fun j hj => by
        rw [List.getD_eq_getElem?_getD, List.getD_eq_getElem?_getD, List.getElem?_take, if_pos hj]
      unfold grtN
      rw [ih (by omega) h2, g i (by omega)]
      by_cases hn : grtN l i < 0
      · rw [if_pos (.inl hn), if_pos (.inl hn)]
      · have : ∀ k, grtN l k < (k : Int) ∨ k = 0 := by
          intro k
          induction k with
          | zero => exact .inr rfl
          | succ k ih =>
            left; unfold grtN; split
            · omega
            · rcases ih with h | h
              · omega
              · subst h; simp [grtN]
        rw [g (grtN l i).toNat (by rcases this i with h | h; omega; subst h; simp [grtN] at hn)]
  exact fun {_} hn => key _ _ (Nat.le_refl _) hn
theorem rng_i64 {x : Int} (h : x = -1 ∨ x = 0 ∨ x = 1) : IntKind.i64.wrap (-x) = -x := wrapN_i64 (by omega) (by omega)
end Go.Alm

/- Layer 4's things out of a row's reading. -/
namespace Go.Alm
open Go Go.RowKit Go.ChangeShapes Go.WideShapes Go.ChangeAt

theorem field_of {fs : Array Field} {L : List (TypeId × Nat)} (h : fs.toList.map (fun f => (f.type, f.offset)) = L) (i : Nat) {a b : Nat} (hi : L[i]? = some (a, b)) : ∃ f, fs[i]? = some f ∧ f.type = a ∧ f.offset = b := by
  subst h
  rw [List.getElem?_map, Option.map_eq_some_iff] at hi
  obtain ⟨f, hf, he⟩ := hi
  simp only [Prod.mk.injEq] at he
  exact ⟨f, by simpa using hf, he.1, he.2⟩

section
variable {H : Type} {enc : TypeId × Value → H} {P : Program} {w : World} {base : Nat} {sp : Nat → Bool} {held : Bool} {fuel t e : Nat} {cs : List Value} {x : DataW H × List MemPlace}

theorem thing_of_trod {fs : Array Field} {ti tu th tb e8 e8' : Nat} (he : P.underlying e = some (.struct fs)) (hfs : fs.toList.map (fun f => (f.type, f.offset)) = [(ti, 0), (tu, 1), (th, 2), (tb, 34), (ti, 35)])
    (hi : P.underlying ti = some (.int .i64)) (hu : P.underlying tu = some (.int .u64)) (hh : P.underlying th = some (.array 32 e8)) (hb : P.underlying tb = some (.slice e8')) (h8 : P.underlying e8 = some (.int .u8)) (h8' : P.underlying e8' = some (.int .u8))
    (zi : P.cellsOf ti = 1) (zu : P.cellsOf tu = 1) (zh : P.cellsOf th = 32) (zb : P.cellsOf tb = 1) (z8 : P.cellsOf e8 = 1) (z8' : P.cellsOf e8' = 1) (ze : P.cellsOf e = 36)
    (h : DataW.trod enc P w base sp held fuel e cs = some x) : ∃ y : Thing, cs = y.cells.toList ∧ y.Ok ∧ Rd w y.ao (B y.b) := by
  obtain ⟨xs, n, _, _, hlen, hxl, hget⟩ := DataW.trod_struct he h
  rw [ze] at hlen
  have hsz : fs.size = 5 := by have := congrArg List.length hfs; simpa using this
  have get : ∀ (i a b : Nat), i < 5 → ([(ti, 0), (tu, 1), (th, 2), (tb, 34), (ti, 35)] : List (TypeId × Nat))[i]? = some (a, b) → ∃ z, DataW.trod enc P w base sp held n a ((cs.drop b).take (P.cellsOf a)) = some z := fun i a b hi5 hL => by
    obtain ⟨f, hf, rfl, rfl⟩ := field_of hfs i hL
    have h1 := hget i f hf
    have hs : i < xs.length := by omega
    exact ⟨xs[i], by rw [h1]; simp [hs]⟩
  obtain ⟨z0, g0⟩ := get 0 ti 0 (by decide) rfl
  obtain ⟨z1, g1⟩ := get 1 tu 1 (by decide) rfl
  obtain ⟨z2, g2⟩ := get 2 th 2 (by decide) rfl
  obtain ⟨z3, g3⟩ := get 3 tb 34 (by decide) rfl
  obtain ⟨z4, g4⟩ := get 4 ti 35 (by decide) rfl
  obtain ⟨k, e0, _, w0⟩ := DataW.trod_int hi g0
  obtain ⟨m, e1, _, w1⟩ := DataW.trod_int hu g1
  obtain ⟨l, hl, e2, Bl⟩ := ints_of_trod hh h8 z8 zh g2
  obtain ⟨ao, b, cap, e3, hR, Bb, hbc, hcm⟩ := bytes_of_trod hb h8' z8' g3
  obtain ⟨q, e4, _, w4⟩ := DataW.trod_int hi g4
  rw [zi] at e0 e4; rw [zu] at e1; rw [zh] at e2; rw [zb] at e3
  simp only [Lit.wf, Bool.and_eq_true, decide_eq_true_eq] at w0 w1 w4
  have c1 : IntKind.u64.min = 0 := by decide
  have c2 : IntKind.u64.max = 18446744073709551615 := by decide
  have c3 : IntKind.i64.max = 9223372036854775807 := by decide
  refine ⟨⟨k, m.toNat, l, ao, cap, b, q⟩, ?_, ⟨by simp only; omega, hl, Bl, Bb, hbc, hcm, by simp only; omega⟩, hR⟩
  have hm : ((m.toNat : Nat) : Int) = m := Int.toNat_of_nonneg (by omega)
  have es : cs = (cs.drop 0).take 1 ++ ((cs.drop 1).take 1 ++ ((cs.drop 2).take 32 ++ ((cs.drop 34).take 1 ++ (cs.drop 35).take 1))) := by
    have s4 : (cs.drop 34).take 1 ++ (cs.drop 35).take 1 = cs.drop 34 := by
      have : (cs.drop 35).take 1 = (cs.drop 34).drop 1 := by rw [List.drop_drop, List.take_of_length_le (by rw [List.length_drop]; omega)]
      rw [this, List.take_append_drop]
    have s3 : (cs.drop 2).take 32 ++ cs.drop 34 = cs.drop 2 := by
      have : cs.drop 34 = (cs.drop 2).drop 32 := by rw [List.drop_drop]
      rw [this, List.take_append_drop]
    have s2 : (cs.drop 1).take 1 ++ cs.drop 2 = cs.drop 1 := by
      have : cs.drop 2 = (cs.drop 1).drop 1 := by rw [List.drop_drop]
      rw [this, List.take_append_drop]
    rw [s4, s3, s2, List.drop_zero, List.take_append_drop]
  rw [es, e0, e1, e2, e3, e4]
  unfold Thing.cells
  rw [Array.toList_append, Array.toList_append, hv_B hl]
  simp [hm]

theorem things_of_trod {fs : Array Field} {ti tu th tb e8 e8' : Nat} (ht : P.underlying t = some (.slice e)) (he : P.underlying e = some (.struct fs)) (hfs : fs.toList.map (fun f => (f.type, f.offset)) = [(ti, 0), (tu, 1), (th, 2), (tb, 34), (ti, 35)])
    (hi : P.underlying ti = some (.int .i64)) (hu : P.underlying tu = some (.int .u64)) (hh : P.underlying th = some (.array 32 e8)) (hb : P.underlying tb = some (.slice e8')) (h8 : P.underlying e8 = some (.int .u8)) (h8' : P.underlying e8' = some (.int .u8))
    (zi : P.cellsOf ti = 1) (zu : P.cellsOf tu = 1) (zh : P.cellsOf th = 32) (zb : P.cellsOf tb = 1) (z8 : P.cellsOf e8 = 1) (z8' : P.cellsOf e8' = 1) (ze : P.cellsOf e = 36)
    (h : DataW.trod enc P w base sp held fuel t cs = some x) : ∃ ao ts cap, cs = [.slice ao (ts : List Thing).length cap] ∧ ThingsAt w.heap.size w ao ts ∧ ts.length ≤ cap ∧ cap ≤ maxLen := by
  rcases DataW.trod_slice ht h with ⟨rfl, _⟩ | ⟨a, len, cap, elems, rest, n, _, rfl, _, _, hlc, hcm, hel, hget, _⟩
  · exact ⟨none, [], 0, rfl, ⟨Rd.nil _ _, fun _ h => (by cases h), Sub.nil, fun _ h => (by cases h), fun _ h => (by cases h), Nat.le_refl _⟩, Nat.le_refl _, Nat.zero_le _⟩
  · have key : ∀ i, i < len → ∃ y : Thing, y.Ok ∧ Rd w y.ao (B y.b) ∧ ∀ j, j < 36 → w.cell? ((a.add (i * 36)).add j) = y.cells.toList[j]? := fun i hi' => by
      have h1 := hget i hi'
      have hs : (elems[i]?).isSome = true := by simp [hel, hi']
      obtain ⟨c, hc, hy⟩ := some_of_bind h1 hs
      obtain ⟨y, hy'⟩ := Option.isSome_iff_exists.1 hs
      rw [hy'] at hy
      obtain ⟨z, ez, ok, hR⟩ := thing_of_trod he hfs hi hu hh hb h8 h8' zi zu zh zb z8 z8' ze hy
      rw [ze] at hc
      have hcc := (World.cells?_some hc).2.2
      rw [ez] at hcc
      exact ⟨z, ok, hR, hcc⟩
    let f : Nat → Thing := fun i => if h : i < len then Classical.choose (key i h) else ⟨0, 0, [], none, 0, [], 0⟩
    have hf : ∀ i, i < len → (f i).Ok ∧ Rd w (f i).ao (B (f i).b) ∧ ∀ j, j < 36 → w.cell? ((a.add (i * 36)).add j) = (f i).cells.toList[j]? := fun i hi' => by
      have : f i = Classical.choose (key i hi') := by simp only [f, dif_pos hi']
      rw [this]; exact Classical.choose_spec (key i hi')
    have hmem : ∀ y ∈ (List.range len).map f, ∃ i, i < len ∧ y = f i := fun y hy => by
      obtain ⟨i, hi', rfl⟩ := List.mem_map.1 hy
      exact ⟨i, List.mem_range.1 hi', rfl⟩
    have hRd : Rd w (some a) (cellsT ((List.range len).map f)) := fun j u hj => by
      have hjl := (List.getElem?_eq_some_iff.1 hj).1
      rw [cellsT_length, List.length_map, List.length_range] at hjl
      have hdiv : j / 36 < len := by omega
      have hg := cellsT_get ((List.range len).map f) (j / 36) (f (j / 36)) (by simp [hdiv])
      have hm : j % 36 < 36 := Nat.mod_lt _ (by decide)
      have hu : (f (j / 36)).cells.toList[j % 36]? = some u := by
        rw [← hg, List.getElem?_take, if_pos hm, List.getElem?_drop, show j / 36 * 36 + j % 36 = j by omega]
        exact hj
      refine ⟨a, rfl, ?_⟩
      have hc := (hf _ hdiv).2.2 _ hm
      have e : (a.add (j / 36 * 36)).add (j % 36) = a.add j := by rw [add_add, show j / 36 * 36 + j % 36 = j by omega]
      rw [e] at hc
      rw [hc, hu]
    refine ⟨some a, (List.range len).map f, cap, by simp, ⟨hRd, ?_, hRd.in, ?_, ?_, Nat.le_refl _⟩, by simpa using hlc, hcm⟩
    · intro y hy; obtain ⟨i, hi', rfl⟩ := hmem y hy; exact (hf i hi').2.1
    · intro y hy; obtain ⟨i, hi', rfl⟩ := hmem y hy; exact (hf i hi').2.1.in
    · intro y hy; obtain ⟨i, hi', rfl⟩ := hmem y hy; exact (hf i hi').1
end
end Go.Alm

/- Layer 8's histories, plainly. -/
namespace Go.Alm
open Go Go.RowKit
structure EStep where
  by_ : Nat
  prev : List Nat
  led : List Nat
  draw : List Nat
structure EStep.Ok (x : EStep) : Prop where
  by_ : x.by_ < 4294967296
  prev : H32 x.prev
  led : H32 x.led
  draw : H32 x.draw
def EStep.cells (x : EStep) : Array Value := aj (aj (aj #[.int .u32 (x.by_ : Int)] (hv x.prev)) (hv x.led)) (hv x.draw)
structure SBlk where
  slot : Nat
  st : EStep
def SBlk.cells (b : SBlk) : Array Value := aj #[.int .u32 (b.slot : Int)] b.st.cells
/-- What one block of a history adds to what is told of the epoch E. -/
def addE (E : Nat) (d : EData) (pe : Option Nat) (b : SBlk) : EData :=
  let d1 : EData := if b.slot % 24 < 16 then ⟨d.led, seedL d.seed b.st.draw, d.start, d.lock, d.len⟩ else d
  if b.slot / 24 = E then
    let d2 : EData := if (match pe with | none => 0 | some e => e) < b.slot / 24 then ⟨b.st.led, d1.seed, b.st.prev, Z32, 0⟩ else d1
    if b.slot % 24 < 16 then ⟨d2.led, d2.seed, d2.start, b.st.prev, d2.len + 1⟩ else ⟨d2.led, d2.seed, d2.start, d2.lock, d2.len + 1⟩
  else d1
def stepN (E : Nat) (a : EData × Option Nat) (b : SBlk) : EData × Option Nat := (addE E a.1 a.2 b, some (b.slot / 24))
def lastE (l : List SBlk) : Option Nat := (l.map (·.slot / 24)).getLast?
def lastS (l : List SBlk) : Nat := match l.getLast? with | some b => b.slot | none => 0
def foldN (E : Nat) (led : List Nat) (l : List SBlk) : EData × Option Nat := l.foldl (stepN E) (dataF led, none)
def nextH (led : List Nat) (l : List SBlk) : EData := (foldN (lastS l / 24) led l).1
theorem foldN_snoc (E : Nat) (led : List Nat) (l : List SBlk) (b : SBlk) : foldN E led (l ++ [b]) = stepN E (foldN E led l) b := by simp [foldN]
theorem list_snoc {α : Type} {P : List α → Prop} (h0 : P []) (h1 : ∀ l b, P l → P (l ++ [b])) : ∀ l, P l := fun l => by
  have : ∀ r : List α, P r.reverse := fun r => by
    induction r with
    | nil => exact h0
    | cons x r ih => rw [List.reverse_cons]; exact h1 _ _ ih
  have := this l.reverse
  rwa [List.reverse_reverse] at this
theorem lastS_snoc (l : List SBlk) (b : SBlk) : lastS (l ++ [b]) = b.slot := by simp [lastS]
theorem foldN_2 (E : Nat) (led : List Nat) : ∀ l : List SBlk, (foldN E led l).2 = if l = [] then none else some (lastS l / 24) :=
  list_snoc (by rfl) fun l b _ => by rw [foldN_snoc, if_neg (by simp), lastS_snoc]; rfl
theorem addE_skip {E : Nat} {d : EData} {pe : Option Nat} {b : SBlk} (h : b.slot / 24 ≠ E) : addE E d pe b = if b.slot % 24 < 16 then ⟨d.led, seedL d.seed b.st.draw, d.start, d.lock, d.len⟩ else d := by
  unfold addE
  simp only [if_neg h]
theorem addE_seed (E : Nat) (d : EData) (pe : Option Nat) (b : SBlk) : (addE E d pe b).seed = if b.slot % 24 < 16 then seedL d.seed b.st.draw else d.seed := by
  unfold addE
  by_cases h1 : b.slot % 24 < 16 <;> by_cases h2 : b.slot / 24 = E <;> simp only [h1, h2, if_true, if_false] <;> (try split) <;> (try split) <;> rfl
theorem fold_seed (E F : Nat) (led : List Nat) : ∀ l : List SBlk, (foldN E led l).1.seed = (foldN F led l).1.seed :=
  list_snoc rfl fun l b ih => by rw [foldN_snoc, foldN_snoc]; unfold stepN; simp only [addE_seed, ih]
theorem fold_skip {E : Nat} (led : List Nat) : ∀ l : List SBlk, (∀ x ∈ l, x.slot / 24 ≠ E) → (foldN E led l).1 = ⟨led, (foldN E led l).1.seed, Z32, Z32, 1⟩ :=
  list_snoc (fun _ => rfl) fun l b ih h => by
    have h1 := ih (fun x hx => h x (by simp [hx]))
    rw [foldN_snoc]
    unfold stepN
    rw [addE_skip (h b (by simp)), h1]
    split <;> rfl
theorem nextH_snoc {led : List Nat} {l : List SBlk} {b : SBlk} (hm : ∀ x ∈ l, x.slot / 24 ≤ lastS l / 24) (h : lastS l ≤ b.slot) :
    nextH led (l ++ [b]) = lockD (if lastS l / 24 < b.slot / 24 then ⟨b.st.led, (nextH led l).seed, b.st.prev, Z32, 1⟩ else ⟨(nextH led l).led, (nextH led l).seed, (nextH led l).start, (nextH led l).lock, (nextH led l).len + 1⟩) ⟨lastS l, b.slot, b.st.prev, b.st.led, b.st.draw⟩ := by
  have hle : lastS l / 24 ≤ b.slot / 24 := Nat.div_le_div_right h
  unfold nextH
  rw [lastS_snoc, foldN_snoc]
  have hpe : (match (foldN (b.slot / 24) led l).2 with | none => 0 | some e => e) = lastS l / 24 := by
    rw [foldN_2]
    by_cases hl : l = []
    · subst hl; rfl
    · rw [if_neg hl]
  by_cases ht : lastS l / 24 < b.slot / 24
  · have hs := fold_skip (E := b.slot / 24) led l (fun x hx => by have := hm x hx; omega)
    have hse := fold_seed (lastS l / 24) (b.slot / 24) led l
    rw [if_pos ht, hse]
    unfold stepN addE lockD
    simp only [hpe, if_pos ht, if_true]
    by_cases h1 : b.slot % 24 < 16
    · simp only [if_pos h1]
    · simp only [if_neg h1]
  · have he : b.slot / 24 = lastS l / 24 := by omega
    rw [if_neg ht, ← he]
    unfold stepN addE lockD
    simp only [hpe, if_neg ht, if_true]
    by_cases h1 : b.slot % 24 < 16
    · simp only [if_pos h1]
    · simp only [if_neg h1]
theorem addE_len (E : Nat) (d : EData) (pe : Option Nat) (b : SBlk) : (addE E d pe b).len ≤ d.len + 1 := by
  unfold addE
  by_cases h1 : b.slot % 24 < 16 <;> by_cases h2 : b.slot / 24 = E <;> simp only [h1, h2, if_true, if_false] <;> (try split) <;> (try split) <;> (try simp only) <;> omega
theorem fold_len (E : Nat) (led : List Nat) : ∀ l : List SBlk, (foldN E led l).1.len ≤ l.length + 1 :=
  list_snoc (Nat.le_refl _) fun l b ih => by
    rw [foldN_snoc, List.length_append]
    have := addE_len E (foldN E led l).1 (foldN E led l).2 b
    show (addE _ _ _ _).len ≤ _
    simp only [List.length_cons, List.length_nil]
    omega
theorem nextH_len (led : List Nat) (l : List SBlk) : (nextH led l).len ≤ l.length + 1 := fold_len _ _ _
/-! ### by places -/
structure SBlk.Ok (x : SBlk) : Prop where
  slot : x.slot < 4294967296
  st : x.st.Ok
instance : Inhabited SBlk := ⟨⟨0, ⟨0, Z32, Z32, Z32⟩⟩⟩
instance : Inhabited EStep := ⟨⟨0, Z32, Z32, Z32⟩⟩
theorem EStep.size (x : EStep) : x.cells.size = 97 := by simp [EStep.cells, hv]
theorem SBlk.size (x : SBlk) : x.cells.size = 98 := by
  unfold SBlk.cells
  rw [show (aj #[Value.int .u32 (x.slot : Int)] x.st.cells).size = 1 + x.st.cells.size from Array.size_append, EStep.size]
def addP (E : Nat) (d : EData) (pv : Nat) (b : SBlk) : EData := addE E d (some pv) b
def pvN (l : List SBlk) (i : Nat) : Nat := if i = 0 then 0 else (l.getD (i - 1) default).slot / 24
theorem addE_none (E : Nat) (d : EData) (b : SBlk) : addE E d none b = addP E d 0 b := rfl
theorem lastS_take {l : List SBlk} {i : Nat} (h : 0 < i) (hi : i ≤ l.length) : lastS (l.take i) = (l.getD (i - 1) default).slot := by
  obtain ⟨j, rfl⟩ : ∃ j, i = j + 1 := ⟨i - 1, by omega⟩
  rw [take_snocD (by omega), lastS_snoc]
  rfl
theorem lastS_eq {l : List SBlk} (h : 0 < l.length) : lastS l = (l.getD (l.length - 1) default).slot := by
  have := lastS_take h (Nat.le_refl _)
  rwa [List.take_length] at this
theorem foldN_take {E : Nat} {led : List Nat} {l : List SBlk} {i : Nat} (h : i < l.length) : (foldN E led (l.take (i + 1))).1 = addP E (foldN E led (l.take i)).1 (pvN l i) (l.getD i default) := by
  rw [take_snocD h, foldN_snoc]
  unfold stepN
  rw [foldN_2]
  by_cases h0 : i = 0
  · subst h0; rw [List.take_zero, if_pos rfl]; exact addE_none _ _ _
  · rw [if_neg (by intro e; have := congrArg List.length e; rw [List.length_take, List.length_nil] at this; omega), lastS_take (by omega) (by omega)]
    unfold addP pvN
    rw [if_neg h0]
theorem addP_skip {E pv : Nat} {d : EData} {b : SBlk} (h1 : b.slot / 24 ≠ E) (h2 : ¬ b.slot % 24 < 16) : addP E d pv b = d := by
  unfold addP; rw [addE_skip h1, if_neg h2]
theorem addP_skipL {E pv : Nat} {d : EData} {b : SBlk} (h1 : b.slot / 24 ≠ E) (h2 : b.slot % 24 < 16) : addP E d pv b = ⟨d.led, seedL d.seed b.st.draw, d.start, d.lock, d.len⟩ := by
  unfold addP; rw [addE_skip h1, if_pos h2]
theorem addP_new {E pv : Nat} {d : EData} {b : SBlk} (h1 : b.slot / 24 = E) (h2 : ¬ b.slot % 24 < 16) (h3 : pv < b.slot / 24) : addP E d pv b = ⟨b.st.led, d.seed, b.st.prev, Z32, 1⟩ := by
  unfold addP addE
  simp only [if_pos h1, if_neg h2, if_pos h3]
theorem addP_newL {E pv : Nat} {d : EData} {b : SBlk} (h1 : b.slot / 24 = E) (h2 : b.slot % 24 < 16) (h3 : pv < b.slot / 24) : addP E d pv b = ⟨b.st.led, seedL d.seed b.st.draw, b.st.prev, b.st.prev, 1⟩ := by
  unfold addP addE
  simp only [if_pos h1, if_pos h2, if_pos h3]
theorem addP_more {E pv : Nat} {d : EData} {b : SBlk} (h1 : b.slot / 24 = E) (h2 : ¬ b.slot % 24 < 16) (h3 : ¬ pv < b.slot / 24) : addP E d pv b = ⟨d.led, d.seed, d.start, d.lock, d.len + 1⟩ := by
  unfold addP addE
  simp only [if_pos h1, if_neg h2, if_neg h3]
theorem addP_moreL {E pv : Nat} {d : EData} {b : SBlk} (h1 : b.slot / 24 = E) (h2 : b.slot % 24 < 16) (h3 : ¬ pv < b.slot / 24) : addP E d pv b = ⟨d.led, seedL d.seed b.st.draw, d.start, b.st.prev, d.len + 1⟩ := by
  unfold addP addE
  simp only [if_pos h1, if_pos h2, if_neg h3]
theorem getD_all {α : Type} [Inhabited α] {p : α → Prop} {l : List α} (h : ∀ x ∈ l, p x) {i : Nat} (hi : i < l.length) : p (l.getD i default) := by
  rw [List.getD_eq_getElem?_getD, List.getElem?_eq_getElem hi, Option.getD_some]
  exact h _ (List.getElem_mem hi)
theorem addE_ok {E : Nat} {d : EData} {pe : Option Nat} {b : SBlk} (hd : d.Ok) (hb : b.Ok) (hl : d.len + 1 < 4294967296) : (addE E d pe b).Ok := by
  have h1 : (if b.slot % 24 < 16 then (⟨d.led, seedL d.seed b.st.draw, d.start, d.lock, d.len⟩ : EData) else d).Ok := by
    split
    · exact ⟨hd.led, seedL_ok _ _, hd.start, hd.lock, hd.len⟩
    · exact hd
  have hlen : (if b.slot % 24 < 16 then (⟨d.led, seedL d.seed b.st.draw, d.start, d.lock, d.len⟩ : EData) else d).len = d.len := by split <;> rfl
  unfold addE
  generalize (if b.slot % 24 < 16 then (⟨d.led, seedL d.seed b.st.draw, d.start, d.lock, d.len⟩ : EData) else d) = d1 at *
  simp only
  split
  · have h2 : ∀ q : Bool, (if q = true then (⟨b.st.led, d1.seed, b.st.prev, Z32, 0⟩ : EData) else d1).Ok ∧ (if q = true then (⟨b.st.led, d1.seed, b.st.prev, Z32, 0⟩ : EData) else d1).len + 1 < 4294967296 := fun q => by
      cases q
      · exact ⟨h1, by simp only [Bool.false_eq_true, if_false]; omega⟩
      · exact ⟨⟨hb.st.led, h1.seed, hb.st.prev, H32.zero, by show 0 < 4294967296; decide⟩, by show 0 + 1 < 4294967296; decide⟩
    have h3 := h2 (decide ((match pe with | none => 0 | some e => e) < b.slot / 24))
    simp only [decide_eq_true_eq] at h3
    obtain ⟨h3, h4⟩ := h3
    split
    · exact ⟨h3.led, h3.seed, h3.start, hb.st.prev, h4⟩
    · exact ⟨h3.led, h3.seed, h3.start, h3.lock, h4⟩
  · exact h1
theorem foldN_ok {E : Nat} {led : List Nat} (hl : H32 led) : ∀ l : List SBlk, (∀ x ∈ l, x.Ok) → l.length + 2 < 4294967296 → (foldN E led l).1.Ok :=
  list_snoc (fun _ _ => dataF_ok hl) fun l b ih h hn => by
    rw [foldN_snoc]
    rw [List.length_append] at hn
    simp only [List.length_cons, List.length_nil] at hn
    exact addE_ok (ih (fun x hx => h x (by simp [hx])) (by omega)) (h b (by simp)) (by have := fold_len E led l; omega)
theorem foldN_okT {E : Nat} {led : List Nat} {l : List SBlk} {i : Nat} (hl : H32 led) (hB : ∀ x ∈ l, x.Ok) (hn : l.length + 2 < 4294967296) : (foldN E led (l.take i)).1.Ok :=
  foldN_ok hl _ (fun x hx => hB x (List.mem_of_mem_take hx)) (by have : (l.take i).length ≤ l.length := (by rw [List.length_take]; omega); omega)
end Go.Alm

/- Records out of a row's reading: a struct's parts, one behind the other. -/
namespace Go.Alm
open Go Go.RowKit Go.ChangeShapes Go.WideShapes Go.ChangeAt
def consec (P : Program) : Nat → List (Nat × Nat) → Bool
  | _, [] => true
  | o, (t, off) :: l => Nat.beq off o && consec P (o + P.cellsOf t) l
def tot (P : Program) : Nat → List (Nat × Nat) → Nat
  | o, [] => o
  | o, (t, _) :: l => tot P (o + P.cellsOf t) l
section
variable {H : Type} {enc : TypeId × Value → H} {P : Program} {w : World} {base : Nat} {sp : Nat → Bool} {held : Bool} {fuel t e : Nat} {cs : List Value} {x : DataW H × List MemPlace}
inductive PartsT (enc : TypeId × Value → H) (P : Program) (w : World) (base : Nat) (sp : Nat → Bool) (held : Bool) : List (Nat × Nat) → List Value → Prop
  | nil : PartsT enc P w base sp held [] []
  | cons {n t o : Nat} {c : List Value} {z : DataW H × List MemPlace} {l : List (Nat × Nat)} {cs : List Value} (h : DataW.trod enc P w base sp held n t c = some z) (r : PartsT enc P w base sp held l cs) : PartsT enc P w base sp held ((t, o) :: l) (c ++ cs)
theorem PartsT.inv {t o : Nat} {l : List (Nat × Nat)} (h : PartsT enc P w base sp held ((t, o) :: l) cs) : ∃ n c z cs', DataW.trod enc P w base sp held n t c = some z ∧ PartsT enc P w base sp held l cs' ∧ cs = c ++ cs' := by
  cases h with
  | cons h r => exact ⟨_, _, _, _, h, r, rfl⟩
theorem PartsT.end (h : PartsT enc P w base sp held [] cs) : cs = [] := by cases h; rfl
theorem parts_of_trod {fs : Array Field} {L : List (Nat × Nat)} (he : P.underlying e = some (.struct fs)) (hfs : fs.toList.map (fun f => (f.type, f.offset)) = L) (hL : consec P 0 L = true) (hz : Nat.beq (P.cellsOf e) (tot P 0 L) = true)
    (h : DataW.trod enc P w base sp held fuel e cs = some x) : PartsT enc P w base sp held L cs := by
  obtain ⟨xs, n, _, _, hlen, hxl, hget⟩ := DataW.trod_struct he h
  rw [Nat.eq_of_beq_eq_true hz] at hlen
  have hsz : fs.size = L.length := by have := congrArg List.length hfs; simpa using this
  have get : ∀ (i a b : Nat), L[i]? = some (a, b) → ∃ z, DataW.trod enc P w base sp held n a ((cs.drop b).take (P.cellsOf a)) = some z := fun i a b hi => by
    obtain ⟨f, hf, rfl, rfl⟩ := field_of hfs i hi
    have h1 := hget i f hf
    have hs : i < xs.length := by
      have := (List.getElem?_eq_some_iff.1 hi).1
      omega
    exact ⟨xs[i], by rw [h1]; simp [hs]⟩
  have key : ∀ (M : List (Nat × Nat)) (o k : Nat), L.drop k = M → consec P o M = true → cs.length = tot P o M → PartsT enc P w base sp held M (cs.drop o) := by
    intro M
    induction M with
    | nil => intro o k _ _ hl; rw [List.drop_of_length_le (by rw [hl]; exact Nat.le_refl _)]; exact .nil
    | cons y M ih =>
      obtain ⟨a, b⟩ := y
      intro o k hk hc hl
      simp only [consec, Bool.and_eq_true] at hc
      have hb := Nat.eq_of_beq_eq_true hc.1
      subst hb
      have hi : L[k]? = some (a, b) := by
        have : (L.drop k)[0]? = some (a, b) := by rw [hk]; rfl
        simpa using this
      obtain ⟨z, hz⟩ := get k a b hi
      have := ih (b + P.cellsOf a) (k + 1) (by rw [← List.drop_drop, hk]; rfl) hc.2 hl
      have e : cs.drop b = (cs.drop b).take (P.cellsOf a) ++ cs.drop (b + P.cellsOf a) := by
        rw [← List.drop_drop, List.take_append_drop]
      rw [e]
      exact .cons hz this
  simpa using key L 0 0 rfl hL hlen
structure IsI (P : Program) (k : IntKind) (t : Nat) : Prop where
  u : P.underlying t = some (.int k)
structure IsH (P : Program) (t e : Nat) : Prop where
  u : P.underlying t = some (.array 32 e)
  u8 : P.underlying e = some (.int .u8)
  z : P.cellsOf e = 1
  s : P.cellsOf t = 32
theorem hash_of (h : IsH P t e) (ht : DataW.trod enc P w base sp held fuel t cs = some x) : ∃ l, H32 l ∧ cs = (hv l).toList := by
  obtain ⟨l, hl, rfl, hB⟩ := ints_of_trod h.u h.u8 h.z h.s ht
  exact ⟨l, ⟨hl, hB⟩, (hv_B hl).symm⟩
theorem u32_of (h : IsI P .u32 t) (ht : DataW.trod enc P w base sp held fuel t cs = some x) : ∃ n : Nat, n < 4294967296 ∧ cs = [.int .u32 (n : Int)] := by
  obtain ⟨m, rfl, _, hw⟩ := DataW.trod_int h.u ht
  simp only [Lit.wf, Bool.and_eq_true, decide_eq_true_eq] at hw
  have c1 : IntKind.u32.min = 0 := by decide
  have c2 : IntKind.u32.max = 4294967295 := by decide
  exact ⟨m.toNat, by omega, by rw [show ((m.toNat : Nat) : Int) = m from Int.toNat_of_nonneg (by omega)]⟩
theorem u64_of (h : IsI P .u64 t) (ht : DataW.trod enc P w base sp held fuel t cs = some x) : ∃ n : Nat, n < 18446744073709551616 ∧ cs = [.int .u64 (n : Int)] := by
  obtain ⟨m, rfl, _, hw⟩ := DataW.trod_int h.u ht
  simp only [Lit.wf, Bool.and_eq_true, decide_eq_true_eq] at hw
  have c1 : IntKind.u64.min = 0 := by decide
  have c2 : IntKind.u64.max = 18446744073709551615 := by decide
  exact ⟨m.toNat, by omega, by rw [show ((m.toNat : Nat) : Int) = m from Int.toNat_of_nonneg (by omega)]⟩
theorem i64_of (h : IsI P .i64 t) (ht : DataW.trod enc P w base sp held fuel t cs = some x) : ∃ n : Int, (-9223372036854775808 ≤ n ∧ n ≤ 9223372036854775807) ∧ cs = [.int .i64 n] := by
  obtain ⟨m, rfl, _, hw⟩ := DataW.trod_int h.u ht
  simp only [Lit.wf, Bool.and_eq_true, decide_eq_true_eq] at hw
  have c1 : IntKind.i64.min = -9223372036854775808 := by decide
  have c2 : IntKind.i64.max = 9223372036854775807 := by decide
  exact ⟨m, by omega, rfl⟩
/-- A struct whose fields are these. -/
structure IsS (P : Program) (t : Nat) (L : List (Nat × Nat)) : Prop where
  u : P.underlying t = some (.struct (P.fieldsOf t))
  f : (P.fieldsOf t).toList.map (fun f => (f.type, f.offset)) = L
  c : consec P 0 L = true
  z : Nat.beq (P.cellsOf t) (tot P 0 L) = true
theorem parts_of {L : List (Nat × Nat)} (h : IsS P t L) (ht : DataW.trod enc P w base sp held fuel t cs = some x) : PartsT enc P w base sp held L cs := by
  obtain ⟨h1, h2, h3, h4⟩ := h
  exact parts_of_trod h1 h2 h3 h4 ht
theorem aj_toList (a b : Array Value) : (aj a b).toList = a.toList ++ b.toList := Array.toList_append
/-! ### layer 8 -/
structure IsData (P : Program) (t th e tn : Nat) : Prop where
  s : IsS P t [(th, 0), (th, 32), (th, 64), (th, 96), (tn, 128)]
  h : IsH P th e
  n : IsI P .u32 tn
theorem data_of {th tn : Nat} (k : IsData P t th e tn) (ht : DataW.trod enc P w base sp held fuel t cs = some x) : ∃ y : EData, y.Ok ∧ cs = y.cells.toList := by
  obtain ⟨_, _, _, _, h1, r1, rfl⟩ := (parts_of k.s ht).inv
  obtain ⟨_, _, _, _, h2, r2, rfl⟩ := r1.inv
  obtain ⟨_, _, _, _, h3, r3, rfl⟩ := r2.inv
  obtain ⟨_, _, _, _, h4, r4, rfl⟩ := r3.inv
  obtain ⟨_, _, _, _, h5, r5, rfl⟩ := r4.inv
  obtain rfl := r5.end
  obtain ⟨a, ha, rfl⟩ := hash_of k.h h1
  obtain ⟨b, hb, rfl⟩ := hash_of k.h h2
  obtain ⟨c, hc, rfl⟩ := hash_of k.h h3
  obtain ⟨d, hd, rfl⟩ := hash_of k.h h4
  obtain ⟨n, hn, rfl⟩ := u32_of k.n h5
  exact ⟨⟨a, b, c, d, n⟩, ⟨ha, hb, hc, hd, hn⟩, by unfold EData.cells; simp only [aj_toList, List.append_assoc, List.append_nil]⟩
structure IsPair (P : Program) (t td th e tn : Nat) : Prop where
  s : IsS P t [(td, 0), (td, 129)]
  d : IsData P td th e tn
theorem pair_of {td th tn : Nat} (k : IsPair P t td th e tn) (ht : DataW.trod enc P w base sp held fuel t cs = some x) : ∃ y : EPair, y.Ok ∧ cs = y.cells.toList := by
  obtain ⟨_, _, _, _, h1, r1, rfl⟩ := (parts_of k.s ht).inv
  obtain ⟨_, _, _, _, h2, r2, rfl⟩ := r1.inv
  obtain rfl := r2.end
  obtain ⟨a, ha, ea⟩ := data_of k.d h1
  obtain ⟨b, hb, eb⟩ := data_of k.d h2
  exact ⟨⟨a, b⟩, ⟨ha, hb⟩, by rw [ea, eb, List.append_nil]; exact (aj_toList _ _).symm⟩
structure IsBlk (P : Program) (t th e tn : Nat) : Prop where
  s : IsS P t [(tn, 0), (tn, 1), (th, 2), (th, 34), (th, 66)]
  h : IsH P th e
  n : IsI P .u32 tn
theorem blk_of {th tn : Nat} (k : IsBlk P t th e tn) (ht : DataW.trod enc P w base sp held fuel t cs = some x) : ∃ y : EBlk, y.Ok ∧ cs = y.cells.toList := by
  obtain ⟨_, _, _, _, h1, r1, rfl⟩ := (parts_of k.s ht).inv
  obtain ⟨_, _, _, _, h2, r2, rfl⟩ := r1.inv
  obtain ⟨_, _, _, _, h3, r3, rfl⟩ := r2.inv
  obtain ⟨_, _, _, _, h4, r4, rfl⟩ := r3.inv
  obtain ⟨_, _, _, _, h5, r5, rfl⟩ := r4.inv
  obtain rfl := r5.end
  obtain ⟨a, ha, rfl⟩ := u32_of k.n h1
  obtain ⟨b, hb, rfl⟩ := u32_of k.n h2
  obtain ⟨c, hc, rfl⟩ := hash_of k.h h3
  obtain ⟨d, hd, rfl⟩ := hash_of k.h h4
  obtain ⟨n, hn, rfl⟩ := hash_of k.h h5
  exact ⟨⟨a, b, c, d, n⟩, ⟨ha, hb, hc, hd, hn⟩, by unfold EBlk.cells; simp only [aj_toList, List.append_assoc, List.append_nil]; rfl⟩
end
theorem okWide_array {P : Program} {w : World} {r : Reach} {base : Nat} {v : Value} {t n e : Nat} (ht : P.underlying t = some (.array n e)) (h : Value.okWide P w r base t v) : ∃ cs, v = .agg cs ∧ cs.size = P.cellsOf t := by
  simp only [Value.okWide, ht] at h
  obtain ⟨cs, h1, h2, _⟩ := h
  exact ⟨cs, h1, h2⟩
def sinceRe (w : World) : Re := ⟨Old w.heap.size, fun w' => Fr w w' N0, fun w' h k hk => Nat.lt_of_lt_of_le hk h.size, fun w1 w2 T h F d => ⟨F.os.trans h.os, F.tape.trans h.tape, F.output.trans h.output, Nat.le_trans h.size F.size, fun k hk _ => (F.block k (Nat.lt_of_lt_of_le hk h.size) (fun ht => d k hk ht)).trans (h.block k hk (fun h => h.elim))⟩⟩
theorem agg_eq {q c : Array Value} (h : (Value.agg q).cells.toList = c.toList) : q = c := Array.toList_inj.1 (by simpa [Value.cells] using h)
theorem bandI {a b : Bool} (h : a = true) (k : b = true) : (a && b) = true := by rw [h, k]; rfl
inductive RoA (w : World) : List Rc → Prop
  | nil : RoA w []
  | cons {r : Rc} {l : List Rc} (h : r.A w) (t : RoA w l) : RoA w (r :: l)
theorem RoA.out {w : World} {l : List Rc} (h : RoA w l) : ∀ r ∈ l, r.A w := by
  induction h with
  | nil => intro r h; cases h
  | cons h _ ih => intro r hr; rcases List.mem_cons.1 hr with rfl | hr; exact h; exact ih r hr
/-- A contract of the machine's, for a row: nothing old is touched. -/
theorem Does.row {P : Program} {f : Nat} {args : Array Value} {ro : List Rc} {v : Value} (h : Does P f args ro [] (fun v' H => v' = v ∧ H = [])) {w : World} (hA : ∀ r ∈ ro, r.A w) : Calls P f args w fun e w' => e = .returned v ∧ Fr w w' N0 := by
  have hs : Hs w (.gen (sinceRe w) :: ro) [] := ⟨fun r hr => by
    simp only [List.append_nil, List.mem_cons] at hr
    rcases hr with rfl | hr
    · exact Fr.refl _ _
    · exact hA r hr, fun _ _ o ho => (by cases ho), List.Pairwise.nil⟩
  refine (h _ w hs).mono ?_
  rintro e w' ⟨v', H, ⟨rfl, rfl⟩, rfl, hs'⟩
  exact ⟨rfl, hs'.a (.gen (sinceRe w)) (by simp)⟩
end Go.Alm

/- Records out of a row's reading: layers 9 and 12; slices of records. -/
namespace Go.Alm
open Go Go.RowKit Go.ChangeShapes Go.WideShapes Go.ChangeAt
section
variable {H : Type} {enc : TypeId × Value → H} {P : Program} {w : World} {base : Nat} {sp : Nat → Bool} {held : Bool} {fuel t e : Nat} {cs : List Value} {x : DataW H × List MemPlace}
structure IsC4 (P : Program) (t e : Nat) : Prop where
  u : P.underlying t = some (.array 4 e)
  n : IsI P .u32 e
  z : P.cellsOf e = 1
  s : P.cellsOf t = 4
theorem c4_of (h : IsC4 P t e) (ht : DataW.trod enc P w base sp held fuel t cs = some x) : ∃ l, N4 l ∧ cs = (c4 l).toList := by
  obtain ⟨xs, m, _, _, hlen, hxl, hget⟩ := DataW.trod_array h.u ht
  rw [h.s] at hlen
  have key : ∀ i, i < 4 → ∃ q : Nat, q < 4294967296 ∧ cs[i]? = some (.int .u32 (q : Int)) := fun i hi => by
    have h1 := hget i hi
    have hs : (xs[i]?).isSome = true := by simp [hxl, hi]
    obtain ⟨y, hy⟩ := Option.isSome_iff_exists.1 hs
    rw [hy] at h1
    obtain ⟨n, hn, hc⟩ := u32_of h.n h1
    rw [h.z, Nat.mul_one] at hc
    have hi' : i < cs.length := by omega
    rw [List.drop_eq_getElem_cons hi'] at hc
    simp only [List.take_succ_cons, List.take_zero, List.cons.injEq, and_true] at hc
    exact ⟨n, hn, by rw [← hc]; simp [hi']⟩
  obtain ⟨a, ha, ea⟩ := key 0 (by decide)
  obtain ⟨b, hb, eb⟩ := key 1 (by decide)
  obtain ⟨c, hc, ec⟩ := key 2 (by decide)
  obtain ⟨d, hd, ed⟩ := key 3 (by decide)
  refine ⟨[a, b, c, d], ⟨rfl, fun x hx => ?_⟩, ?_⟩
  · simp only [List.mem_cons, List.not_mem_nil, or_false] at hx
    rcases hx with rfl | rfl | rfl | rfl <;> assumption
  · match cs, hlen, ea, eb, ec, ed with
    | [_, _, _, _], _, ea, eb, ec, ed =>
      simp only [List.getElem?_cons_zero, List.getElem?_cons_succ, Option.some.injEq] at ea eb ec ed
      subst ea eb ec ed
      rfl
structure IsRing (P : Program) (t tc tn : Nat) : Prop where
  s : IsS P t [(tn, 0), (tc, 1)]
  c : IsC4 P tc tn
theorem ring_of {tc tn : Nat} (k : IsRing P t tc tn) (ht : DataW.trod enc P w base sp held fuel t cs = some x) : ∃ y : RRing, y.Ok ∧ cs = y.cells.toList := by
  obtain ⟨_, _, _, _, h1, r1, rfl⟩ := (parts_of k.s ht).inv
  obtain ⟨_, _, _, _, h2, r2, rfl⟩ := r1.inv
  obtain rfl := r2.end
  obtain ⟨n, hn, rfl⟩ := u32_of k.c.n h1
  obtain ⟨l, hl, rfl⟩ := c4_of k.c h2
  exact ⟨⟨n, l⟩, ⟨hn, hl⟩, rfl⟩
structure IsWin (P : Program) (t tr tc tn : Nat) : Prop where
  s : IsS P t [(tn, 0), (tr, 1)]
  r : IsRing P tr tc tn
theorem win_of {tr tc tn : Nat} (k : IsWin P t tr tc tn) (ht : DataW.trod enc P w base sp held fuel t cs = some x) : ∃ y : RWin, y.Ok ∧ cs = y.cells.toList := by
  obtain ⟨_, _, _, _, h1, r1, rfl⟩ := (parts_of k.s ht).inv
  obtain ⟨_, _, _, _, h2, r2, rfl⟩ := r1.inv
  obtain rfl := r2.end
  obtain ⟨n, hn, rfl⟩ := u32_of k.r.c.n h1
  obtain ⟨y, hy, rfl⟩ := ring_of k.r h2
  exact ⟨⟨n, y⟩, ⟨hn, hy⟩, rfl⟩
structure IsState (P : Program) (t th e tn tw tr tc tp td : Nat) : Prop where
  s : IsS P t [(th, 0), (th, 32), (th, 64), (tn, 96), (tn, 97), (tn, 98), (tw, 99), (tp, 105)]
  h : IsH P th e
  n : IsI P .u32 tn
  w : IsWin P tw tr tc tn
  p : IsPair P tp td th e tn
theorem st_cells (a b c : List Nat) (d f g : Nat) (u : RWin) (v : EPair) : (SState.cells ⟨a, b, c, d, f, g, u, v⟩).toList = (hv a).toList ++ ((hv b).toList ++ ((hv c).toList ++ ([.int .u32 (d : Int)] ++ ([.int .u32 (f : Int)] ++ ([.int .u32 (g : Int)] ++ (u.cells.toList ++ (v.cells.toList ++ []))))))) := by
  have h : ∀ A B C U V : Array Value, ∀ x y z : Value, (aj (aj (aj (aj (aj A B) C) #[x, y, z]) U) V).toList = A.toList ++ (B.toList ++ (C.toList ++ ([x] ++ ([y] ++ ([z] ++ (U.toList ++ (V.toList ++ []))))))) := by
    intro A B C U V x y z
    simp only [aj_toList, List.append_assoc, List.append_nil, List.cons_append, List.nil_append]
  exact h _ _ _ _ _ _ _ _
theorem state_of {th tn tw tr tc tp td : Nat} (k : IsState P t th e tn tw tr tc tp td) (ht : DataW.trod enc P w base sp held fuel t cs = some x) : ∃ y : SState, y.Ok ∧ cs = y.cells.toList := by
  obtain ⟨_, _, _, _, h1, r1, rfl⟩ := (parts_of k.s ht).inv
  obtain ⟨_, _, _, _, h2, r2, rfl⟩ := r1.inv
  obtain ⟨_, _, _, _, h3, r3, rfl⟩ := r2.inv
  obtain ⟨_, _, _, _, h4, r4, rfl⟩ := r3.inv
  obtain ⟨_, _, _, _, h5, r5, rfl⟩ := r4.inv
  obtain ⟨_, _, _, _, h6, r6, rfl⟩ := r5.inv
  obtain ⟨_, _, _, _, h7, r7, rfl⟩ := r6.inv
  obtain ⟨_, _, _, _, h8, r8, rfl⟩ := r7.inv
  obtain rfl := r8.end
  obtain ⟨a, ha, e1⟩ := hash_of k.h h1
  obtain ⟨b, hb, e2⟩ := hash_of k.h h2
  obtain ⟨c, hc, e3⟩ := hash_of k.h h3
  obtain ⟨d, hd, e4⟩ := u32_of k.n h4
  obtain ⟨f, hf, e5⟩ := u32_of k.n h5
  obtain ⟨g, hg, e6⟩ := u32_of k.n h6
  obtain ⟨u, hu, e7⟩ := win_of k.w h7
  obtain ⟨v, hw, e8⟩ := pair_of k.p h8
  refine ⟨⟨a, b, c, d, f, g, u, v⟩, ⟨ha, hb, hc, hd, hf, hg, hu, hw⟩, ?_⟩
  rw [e1, e2, e3, e4, e5, e6, e7, e8]
  exact (st_cells _ _ _ _ _ _ _ _).symm
structure IsKey (P : Program) (t th e tn : Nat) : Prop where
  s : IsS P t [(tn, 0), (th, 1), (th, 33)]
  h : IsH P th e
  n : IsI P .u32 tn
theorem key_of {th tn : Nat} (k : IsKey P t th e tn) (ht : DataW.trod enc P w base sp held fuel t cs = some x) : ∃ y : OKey, y.Ok ∧ cs = y.cells.toList := by
  obtain ⟨_, _, _, _, h1, r1, rfl⟩ := (parts_of k.s ht).inv
  obtain ⟨_, _, _, _, h2, r2, rfl⟩ := r1.inv
  obtain ⟨_, _, _, _, h3, r3, rfl⟩ := r2.inv
  obtain rfl := r3.end
  obtain ⟨a, ha, rfl⟩ := u32_of k.n h1
  obtain ⟨b, hb, rfl⟩ := hash_of k.h h2
  obtain ⟨c, hc, rfl⟩ := hash_of k.h h3
  exact ⟨⟨a, b, c⟩, ⟨ha, hb, hc⟩, by unfold OKey.cells; simp only [aj_toList, List.append_assoc, List.append_nil]⟩
structure IsStep (P : Program) (t th e tn : Nat) : Prop where
  s : IsS P t [(tn, 0), (th, 1), (th, 33), (th, 65)]
  h : IsH P th e
  n : IsI P .u32 tn
theorem step_of {th tn : Nat} (k : IsStep P t th e tn) (ht : DataW.trod enc P w base sp held fuel t cs = some x) : ∃ y : EStep, y.Ok ∧ cs = y.cells.toList := by
  obtain ⟨_, _, _, _, h1, r1, rfl⟩ := (parts_of k.s ht).inv
  obtain ⟨_, _, _, _, h2, r2, rfl⟩ := r1.inv
  obtain ⟨_, _, _, _, h3, r3, rfl⟩ := r2.inv
  obtain ⟨_, _, _, _, h4, r4, rfl⟩ := r3.inv
  obtain rfl := r4.end
  obtain ⟨a, ha, rfl⟩ := u32_of k.n h1
  obtain ⟨b, hb, rfl⟩ := hash_of k.h h2
  obtain ⟨c, hc, rfl⟩ := hash_of k.h h3
  obtain ⟨d, hd, rfl⟩ := hash_of k.h h4
  exact ⟨⟨a, b, c, d⟩, ⟨ha, hb, hc, hd⟩, by unfold EStep.cells; simp only [aj_toList, List.append_assoc, List.append_nil]⟩
/-- A slice of records. -/
theorem recs_of_trod {X : Type} {f : X → Array Value} {Ok : X → Prop} {sz : Nat} (hsz : ∀ y, (f y).size = sz) (hp : 0 < sz) (ht : P.underlying t = some (.slice e)) (ze : P.cellsOf e = sz)
    (el : ∀ (fu : Nat) (c : List Value) (y : DataW H × List MemPlace), DataW.trod enc P w base sp held fu e c = some y → ∃ z : X, Ok z ∧ c = (f z).toList)
    (h : DataW.trod enc P w base sp held fuel t cs = some x) : ∃ (ao : Option Addr) (l : List X) (cap : Nat), cs = [.slice ao l.length cap] ∧ Rd w ao (RL f l) ∧ (∀ y ∈ l, Ok y) ∧ l.length ≤ cap ∧ cap ≤ maxLen := by
  rcases DataW.trod_slice ht h with ⟨rfl, _⟩ | ⟨a, len, cap, elems, rest, n, _, rfl, _, _, hlc, hcm, hel, hget, _⟩
  · exact ⟨none, [], 0, rfl, Rd.nil _ _, fun _ h => (by cases h), Nat.le_refl _, Nat.zero_le _⟩
  · have key : ∀ i, i < len → ∃ y : X, Ok y ∧ ∀ j, j < sz → w.cell? ((a.add (i * sz)).add j) = (f y).toList[j]? := fun i hi' => by
      have h1 := hget i hi'
      have hs : (elems[i]?).isSome = true := by simp [hel, hi']
      obtain ⟨c, hc, hy⟩ := some_of_bind h1 hs
      obtain ⟨y, hy'⟩ := Option.isSome_iff_exists.1 hs
      rw [hy'] at hy
      obtain ⟨z, ok, ez⟩ := el _ _ _ hy
      rw [ze] at hc
      have hcc := (World.cells?_some hc).2.2
      rw [ez] at hcc
      exact ⟨z, ok, hcc⟩
    have build : ∀ m, m ≤ len → ∃ l : List X, l.length = m ∧ (∀ y ∈ l, Ok y) ∧ ∀ i, i < m → ∃ y, l[i]? = some y ∧ ∀ j, j < sz → w.cell? ((a.add (i * sz)).add j) = (f y).toList[j]? := by
      intro m
      induction m with
      | zero => exact fun _ => ⟨[], rfl, fun _ h => (by cases h), fun i hi => absurd hi (by omega)⟩
      | succ m ih =>
        intro hm
        obtain ⟨l, hl, hok, hg⟩ := ih (by omega)
        obtain ⟨y, hy, hc⟩ := key m (by omega)
        refine ⟨l ++ [y], by simp [hl], fun z hz => ?_, fun i hi => ?_⟩
        · rcases List.mem_append.1 hz with hz | hz
          · exact hok z hz
          · rw [List.mem_singleton.1 hz]; exact hy
        · rcases Nat.lt_or_ge i m with h1 | h1
          · obtain ⟨z, hz, hc'⟩ := hg i h1
            exact ⟨z, by rw [List.getElem?_append_left (by omega)]; exact hz, hc'⟩
          · have : i = m := by omega
            subst this
            exact ⟨y, by rw [List.getElem?_append_right (by omega)]; simp [hl], hc⟩
    obtain ⟨l, hl, hok, hg⟩ := build len (Nat.le_refl _)
    subst hl
    refine ⟨some a, l, cap, rfl, fun j u hj => ?_, hok, hlc, hcm⟩
    have hjl := (List.getElem?_eq_some_iff.1 hj).1
    rw [RL_length hsz] at hjl
    have hdiv : j / sz < l.length := (Nat.div_lt_iff_lt_mul hp).2 hjl
    obtain ⟨y, hy, hc⟩ := hg _ hdiv
    have hm : j % sz < sz := Nat.mod_lt _ hp
    refine ⟨a, rfl, ?_⟩
    have hdm : j / sz * sz + j % sz = j := by rw [Nat.mul_comm]; exact Nat.div_add_mod j sz
    have e1 : (a.add (j / sz * sz)).add (j % sz) = a.add j := by rw [add_add, hdm]
    have hc := hc _ hm
    rw [e1] at hc
    rw [hc]
    -- the same cell of the row
    have hw := congrArg (fun q : List Value => q[j % sz]?) (show ((RL f l).drop (j / sz * sz)).take sz = (f y).toList from by
      have hlt : j / sz < l.length := hdiv
      rw [RL_drop hsz, List.drop_eq_getElem_cons hlt, RL]
      have : l[j / sz] = y := by rw [List.getElem?_eq_getElem hlt] at hy; exact Option.some.inj hy
      rw [this, List.take_append_of_le_length (by simp [hsz]), List.take_of_length_le (by simp [hsz])])
    simp only [List.getElem?_take, if_pos hm, List.getElem?_drop, hdm] at hw
    rw [← hw]; exact hj
end
end Go.Alm

/- What the listed variables hold, as an array that is read. -/
namespace Go.Alm
open Go Go.RowKit Go.ChangeShapes Go.WideShapes Go.ChangeAt
section
variable {H : Type} {enc : TypeId × Value → H} {P : Program} {w : World}
theorem words_of_trod {base : Nat} {sp : Nat → Bool} {held : Bool} {fuel t e : Nat} {cs : List Value} {K : List Int} {p : List MemPlace} (ht : P.underlying t = some (.array 64 e)) (he : P.underlying e = some (.int .u32)) (hz : P.cellsOf e = 1) (hK : K.length = 64)
    (h : DataW.trod enc P w base sp held fuel t cs = some (.agg (K.map fun k => .lit (.int .u32 k)), p)) : ∀ i, i < 64 → cs[i]? = (K[i]?).map (.int .u32 ·) := by
  intro i hi
  obtain ⟨xs, m, _, hx, hlen, hxl, hget⟩ := DataW.trod_array ht h
  simp only [Prod.mk.injEq, DataW.agg.injEq] at hx
  have h1 := hget i hi
  have hs : i < xs.length := by omega
  obtain ⟨y, hy⟩ : ∃ y, xs[i]? = some y := ⟨xs[i], by simp [hs]⟩
  rw [hy] at h1
  obtain ⟨k, e1, e2, _⟩ := DataW.trod_int he h1
  rw [hz, Nat.mul_one] at e1
  have hy2 : y.1 = .lit (.int .u32 k) := by rw [e2]
  have hm : (K.map fun k => (DataW.lit (Lit.int IntKind.u32 k) : DataW H))[i]? = some (.lit (.int .u32 k)) := by
    rw [hx.1, List.getElem?_map, hy, Option.map_some, hy2]
  rw [List.getElem?_map] at hm
  obtain ⟨k', hk', hkk⟩ := Option.map_eq_some_iff.1 hm
  simp only [DataW.lit.injEq, Lit.int.injEq, true_and] at hkk
  subst hkk
  rw [hk', Option.map_some]
  have : (List.take 1 (List.drop i cs))[0]? = some (Value.int .u32 k') := by rw [e1]; rfl
  simpa using this
theorem keys_of_laid {n : String} {g t e f : Nat} {cs : Array Value} {p : List MemPlace} {D : DataW H} {base : Nat} {sp : Nat → Bool} {held : Bool} (hg : P.globalNamed n = some g) (hv : w.var? P n = some cs) (ht : P.underlying t = some (.array 64 e)) (he : P.underlying e = some (.int .u32)) (hz : P.cellsOf e = 1)
    (hd : DataW.trod enc P w base sp held f t cs.toList = some (D, p)) (hD : D = .agg ((KL.map fun k => (k.toNat : Int)).map fun k => .lit (.int .u32 k))) : Rd w (some ⟨g, 0, none⟩) (hw KL).toList := by
  subst hD
  have h := words_of_trod ht he hz (by rfl) hd
  intro i u hi
  have h64 : i < 64 := by
    have := (List.getElem?_eq_some_iff.1 hi).1
    simpa [hw] using this
  refine ⟨_, rfl, ?_⟩
  have hadd : (⟨g, 0, none⟩ : Addr).add i = ⟨g, i, none⟩ := by unfold Addr.add; split <;> simp_all
  rw [hadd, Go.World.var?_cell hg hv i, ← Array.getElem?_toList, h i h64]
  rw [KL_get i h64] at hi
  rw [← hi]
  have hl : KL.length = 64 := rfl
  simp [show i < KL.length by omega]
end
end Go.Alm
