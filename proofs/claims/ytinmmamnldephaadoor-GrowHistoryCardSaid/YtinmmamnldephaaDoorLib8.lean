/- Plain lemmas and laws of the machine that the walks use; without conditions of their own. -/
import Derived.Test.YtinmmamnldephaaDoorLib7
import Derived.Test.YtinmmamnldephaaDoorLib6
import Derived.SizedLaws
import Derived.Test.YtinmmamnldephaaDoorLib3
import Derived.Laws.BytesString
import Derived.Laws.IdiomStrings
/- A state with one thing of it changed. -/
namespace Go.Alm
open Go Go.RowKit
theorem wrap1_u8 (n : Nat) : IntKind.u8.wrap ((n : Int) + 1) = (((n + 1) % 256 : Nat) : Int) := by rw [wrap_u8]; omega
theorem wrap1_u32 (n : Nat) : IntKind.u32.wrap ((n : Int) + 1) = (((n + 1) % 4294967296 : Nat) : Int) := by rw [wrap_u32]; omega
theorem spl_one {c : Array Value} {l : List Nat} {i v : Nat} (off : Nat) (hl : l.length = 32) (hi : i < 32) (hc : (c.toList.drop off).take 32 = (hv l).toList) : spl c (off + i) #[.int .u8 (v : Int)] = spl c off (hv (l.set i v)) := by
  have hh : (hv (l.set i v)).toList = ((hv l).toList).set i (.int .u8 (v : Int)) := by
    rw [hv_B (by rw [List.length_set]; exact hl), hv_B hl, B, B, List.map_set]
  have hz : (hv (l.set i v)).size = 32 := hv_size _
  apply Array.ext'
  simp only [spl, hz]
  rw [hh, ← hc]
  have hlen : off + 32 ≤ c.toList.length := by
    have := congrArg List.length hc
    rw [hv_B hl, B_length, List.length_take, List.length_drop, hl] at this
    omega
  have e : (c.toList.drop off).take 32 = (c.toList.drop off).take i ++ (c.toList.drop (off + i)).take (32 - i) := by
    conv => lhs; rw [show 32 = i + (32 - i) by omega, List.take_add]
    rw [List.drop_drop]
  have e2 : ((c.toList.drop (off + i)).take (32 - i)) = (c.toList[off + i]'(by omega)) :: (c.toList.drop (off + i + 1)).take (32 - (i + 1)) := by
    rw [List.drop_eq_getElem_cons (by omega), show 32 - i = (32 - (i + 1)) + 1 by omega, List.take_succ_cons]
  have e3 : ((c.toList.drop off).take 32).set i (.int .u8 (v : Int)) = (c.toList.drop off).take i ++ (.int .u8 (v : Int) :: (c.toList.drop (off + i + 1)).take (32 - (i + 1))) := by
    rw [e, e2, List.set_append_right _ _ (by rw [List.length_take]; omega)]
    rw [List.length_take, List.length_drop, show i - min i (c.toList.length - off) = 0 by omega]; rfl
  rw [e3]
  have e4 : c.toList.take (off + i) = c.toList.take off ++ (c.toList.drop off).take i := List.take_add
  have e5 : c.toList.drop (off + i + 1) = (c.toList.drop (off + i + 1)).take (32 - (i + 1)) ++ c.toList.drop (off + 32) := by
    conv => lhs; rw [← List.take_append_drop (32 - (i + 1)) (c.toList.drop (off + i + 1))]
    rw [List.drop_drop, show off + i + 1 + (32 - (i + 1)) = off + 32 by omega]
  rw [e4]
  show c.toList.take off ++ (c.toList.drop off).take i ++ [_] ++ c.toList.drop (off + i + 1) = _
  conv => lhs; rw [e5]
  simp only [List.append_assoc, List.cons_append, List.nil_append]
/-- The state with its `i`-th thing made 1 more. -/
def chg (c : SState) (i : Nat) : SState := match i with
  | 0 => c.setP 0 (c.prev.set 0 ((c.prev.getD 0 0 + 1) % 256)) 0
  | 1 => c.setP 4 c.prev ((c.len + 1) % 4294967296)
  | 2 => c.setP 5 c.prev ((c.count + 1) % 4294967296)
  | 3 => c.setP 6 c.prev ((c.win.min + 1) % 4294967296)
  | 4 => c.setP 8 c.prev ((c.win.ring.counts.getD 0 0 + 1) % 4294967296)
  | 5 => c.setP 13 (c.eps.now.seed.set 3 ((c.eps.now.seed.getD 3 0 + 1) % 256)) 0
  | 6 => c.setP 20 (c.eps.next.lock.set 31 ((c.eps.next.lock.getD 31 0 + 1) % 256)) 0
  | 7 => c.setP 21 c.prev ((c.eps.next.len + 1) % 4294967296)
  | _ => c.setP 7 c.prev ((c.win.ring.last + 1) % 4294967296)
theorem H32.set {l : List Nat} (h : H32 l) (i n : Nat) : H32 (l.set i (n % 256)) := ⟨by rw [List.length_set]; exact h.len, fun x hx => by
  rcases List.mem_or_eq_of_mem_set hx with h1 | h1
  · exact h.byt x h1
  · rw [h1]; exact Nat.mod_lt _ (by decide)⟩
theorem chg_ok {c : SState} (h : c.Ok) (i : Nat) : (chg c i).Ok := by
  have hm : ∀ n : Nat, n % 4294967296 < 4294967296 := fun n => Nat.mod_lt _ (by decide)
  unfold chg
  split
  · exact setP_ok h (h.prev.set _ _) (by decide) _
  · exact setP_ok h h.prev (hm _) _
  · exact setP_ok h h.prev (hm _) _
  · exact setP_ok h h.prev (hm _) _
  · exact setP_ok h h.prev (hm _) _
  · exact setP_ok h (h.eps.now.seed.set _ _) (by decide) _
  · exact setP_ok h (h.eps.next.lock.set _ _) (by decide) _
  · exact setP_ok h h.prev (hm _) _
  · exact setP_ok h h.prev (hm _) _
theorem chgc0 {c : SState} (h : c.Ok) : spl c.cells 0 #[.int .u8 (((c.prev.getD 0 0 + 1) % 256 : Nat) : Int)] = (chg c 0).cells := (spl_one (l := c.prev) (i := 0) 0 h.prev.len (by decide) (by kernel_rfl)).trans (setc0 h _ 0)
theorem chgc1 {c : SState} (h : c.Ok) : spl c.cells 97 #[.int .u32 (((c.len + 1) % 4294967296 : Nat) : Int)] = (chg c 1).cells := setc4 h c.prev _
theorem chgc2 {c : SState} (h : c.Ok) : spl c.cells 98 #[.int .u32 (((c.count + 1) % 4294967296 : Nat) : Int)] = (chg c 2).cells := setc5 h c.prev _
theorem chgc3 {c : SState} (h : c.Ok) : spl c.cells 99 #[.int .u32 (((c.win.min + 1) % 4294967296 : Nat) : Int)] = (chg c 3).cells := setc6 h c.prev _
theorem chgc4 {c : SState} (h : c.Ok) : spl c.cells 101 #[.int .u32 (((c.win.ring.counts.getD 0 0 + 1) % 4294967296 : Nat) : Int)] = (chg c 4).cells := setc8 h c.prev _
theorem chgc5 {c : SState} (h : c.Ok) : spl c.cells 140 #[.int .u8 (((c.eps.now.seed.getD 3 0 + 1) % 256 : Nat) : Int)] = (chg c 5).cells := (spl_one (l := c.eps.now.seed) (i := 3) 137 h.eps.now.seed.len (by decide) (by kernel_rfl)).trans (setc13 h _ 0)
theorem chgc6 {c : SState} (h : c.Ok) : spl c.cells 361 #[.int .u8 (((c.eps.next.lock.getD 31 0 + 1) % 256 : Nat) : Int)] = (chg c 6).cells := (spl_one (l := c.eps.next.lock) (i := 31) 330 h.eps.next.lock.len (by decide) (by kernel_rfl)).trans (setc20 h _ 0)
theorem chgc7 {c : SState} (h : c.Ok) : spl c.cells 362 #[.int .u32 (((c.eps.next.len + 1) % 4294967296 : Nat) : Int)] = (chg c 7).cells := setc21 h c.prev _
theorem chgc8 {c : SState} (h : c.Ok) : spl c.cells 100 #[.int .u32 (((c.win.ring.last + 1) % 4294967296 : Nat) : Int)] = (chg c 8).cells := setc7 h c.prev _
theorem set_ne {l : List Nat} {i : Nat} (h : i < l.length) (e : l.set i ((l.getD i 0 + 1) % 256) = l) (hb : ∀ x ∈ l, x < 256) : False := by
  have h1 := congrArg (fun m => m.getD i 0) e
  simp only [List.getD_eq_getElem?_getD, List.getElem?_set_self h, Option.getD_some, List.getElem?_eq_getElem h] at h1
  have := hb _ (List.getElem_mem h)
  omega
theorem chg_ne {c : SState} (h : c.Ok) (i : Nat) : ¬ c = chg c i := by
  intro e
  have e := e.symm
  unfold chg at e
  split at e
  · exact set_ne (by rw [h.prev.len]; decide) (congrArg SState.prev e) h.prev.byt
  · have := congrArg SState.len e; have h2 := h.len; change (c.len + 1) % 4294967296 = c.len at this; omega
  · have := congrArg SState.count e; have h2 := h.count; change (c.count + 1) % 4294967296 = c.count at this; omega
  · have := congrArg (fun s => s.win.min) e; have h2 := h.win.min; change (c.win.min + 1) % 4294967296 = c.win.min at this; omega
  · have := congrArg (fun s => s.win.ring.counts.getD 0 0) e
    have hc := h.win.ring.counts
    change (c.win.ring.counts.set 0 ((c.win.ring.counts.getD 0 0 + 1) % 4294967296)).getD 0 0 = c.win.ring.counts.getD 0 0 at this
    generalize c.win.ring.counts = l at hc this
    obtain ⟨hl, hb⟩ := hc
    match l, hl, hb with
    | [a, _, _, _], _, hb => 
      have h2 := hb a (.head _); change (a + 1) % 4294967296 = a at this; omega
  · exact set_ne (by rw [h.eps.now.seed.len]; decide) (congrArg (fun s => s.eps.now.seed) e) h.eps.now.seed.byt
  · exact set_ne (by rw [h.eps.next.lock.len]; decide) (congrArg (fun s => s.eps.next.lock) e) h.eps.next.lock.byt
  · have := congrArg (fun s => s.eps.next.len) e; have h2 := h.eps.next.len; change (c.eps.next.len + 1) % 4294967296 = c.eps.next.len at this; omega
  · have := congrArg (fun s => s.win.ring.last) e; have h2 := h.win.ring.last; change (c.win.ring.last + 1) % 4294967296 = c.win.ring.last at this; omega
theorem chg_blk (c : SState) (i : Nat) : (⟨(chg c i).slot, (chg c i).led, (chg c i).draw⟩ : GBlk) = ⟨c.slot, c.led, c.draw⟩ := by
  unfold chg; split <;> rfl
/-- With one thing changed it follows no more. -/
theorem chg_folw {s : SState} {b : GBlk} (e : childE s b = 0) (h : (childS s b).Ok) (i : Nat) : folwE s (chg (childS s b) i) = 7 := by
  have hb : (⟨(childS s b).slot, (childS s b).led, (childS s b).draw⟩ : GBlk) = b := by rw [child_is e]
  refine folw_7 ?_ ?_
  · rw [chg_blk, hb]; exact e
  · rw [chg_blk, hb]; exact chg_ne h i
theorem folw_blk {p : SState} {b : GBlk} {c : SState} (hc : (⟨c.slot, c.led, c.draw⟩ : GBlk) = b) (h : ¬ childE p b = 0) : folwE p c = childE p b := by subst hc; exact folw_no h
end Go.Alm

/- A slice's length is within the form's reach. -/
namespace Go.Alm
open Go Go.RowKit
theorem len_of_trod {H : Type} {enc : TypeId × Value → H} {P : Program} {w : World} {base : Nat} {sp : Nat → Bool} {held : Bool} {fuel : Nat} {t e : TypeId} {ao : Option Addr} {len cap : Nat} {d : DataW H} {p : List MemPlace} {ts : List TypeId} {ds : List (DataW H)} (j : Nat)
    (hz : (DataW.weightsEach P ts ds).all (· ≤ reachBytes) = true) (ht : P.underlying t = some (.slice e)) (h : DataW.trod enc P w base sp held fuel t (Value.slice ao len cap).cells.toList = some (d, p)) (hj : ts[j]? = some t) (hd : ds[j]? = some d) :
    len * P.bytesOf e ≤ reachBytes := by
  rcases DataW.trod_slice ht h with ⟨hc, _⟩ | ⟨a, len', cap', elems, rest, n, _, hc, hx, _, _, _, hlen, _⟩
  · have : len = 0 := by simp [Value.cells] at hc; exact hc.2.1
    subst this; rw [Nat.zero_mul]; exact Nat.zero_le _
  · have hl : len = len' := by simp [Value.cells] at hc; exact hc.2.1
    have hdd : d = .slice (elems.map (·.1)) (rest.map (·.1)) := congrArg Prod.fst hx
    have := sized_slice hz hj (by rw [hd, hdd]) ht
    rw [List.length_map, hlen, ← hl] at this
    exact Nat.le_trans (Nat.mul_le_mul_right _ (Nat.le_add_right _ _)) this
end Go.Alm

/- The tip that is kept, and the last candidate. -/
namespace Go.Alm
open Go Go.RowKit
theorem rightL_all {l : List SState} (h : rightL l = true) : AllRt l ∧ l.length ≤ 20 := by
  unfold rightL at h
  rw [Bool.and_eq_true, List.all_eq_true, decide_eq_true_eq] at h
  exact ⟨fun x hx => by simpa using h.1 x hx, by have := h.2; omega⟩
theorem rightL_cons {t : SState} {l : List SState} (h : rightL (List.append [t] l) = true) : t.Right ∧ AllRt l ∧ l.length ≤ 19 := by
  obtain ⟨h1, h2⟩ := rightL_all h
  exact ⟨h1 t (.head _), fun x hx => h1 x (.tail _ hx), by change l.length + 1 ≤ 20 at h2; omega⟩
theorem foldS_nil1 {t : SState} {l : List SState} (h : l.length = 0) : (foldS t l 0).1 = t := by rw [List.eq_nil_of_length_eq_zero h]; rfl
theorem foldS_nil2 {t : SState} {l : List SState} (h : l.length = 0) : (foldS t l 0).2 = 0 := by rw [List.eq_nil_of_length_eq_zero h]; rfl
theorem foldS_last {t : SState} {l : List SState} (h : 0 < l.length) : foldS t l 0 = if winsQ (foldS t (l.take (l.length - 1)) 0).1 (l.getD (l.length - 1) default) then (l.getD (l.length - 1) default, (foldS t (l.take (l.length - 1)) 0).2 + 1) else foldS t (l.take (l.length - 1)) 0 := by
  have e : l = l.take (l.length - 1) ++ [l.getD (l.length - 1) default] := by
    conv => lhs; rw [← List.take_append_drop (l.length - 1) l, dropC (by omega), List.drop_eq_nil_of_le (by omega)]
  conv => lhs; rw [e]
  exact foldS_snoc _ t 0 _
end Go.Alm

/- Candidates that are all near one another: the greatest key is kept. -/
namespace Go.Alm
open Go Go.RowKit
def AllNear (l : List SState) : Prop := ∀ x ∈ l, ∀ y ∈ l, nearQ x y
def keysL (l : List SState) : List OKey := l.map keyS
theorem keysL_ok {l : List SState} (h : AllS l) : AllOk (keysL l) := fun x hx => by
  obtain ⟨y, hy, rfl⟩ := List.mem_map.1 hx
  exact keyS_ok (h y hy)
theorem keysL_len (l : List SState) : (keysL l).length = l.length := List.length_map ..
theorem keysL_get {l : List SState} {i : Nat} (h : i < l.length) : (keysL l).getD i default = keyS (l.getD i default) := by
  rw [List.getD_eq_getElem?_getD, List.getD_eq_getElem?_getD, keysL, List.getElem?_map, List.getElem?_eq_getElem h]; rfl
theorem wins_near {a b : SState} (h : nearQ a b) : winsQ a b ↔ 0 < cmpK (keyS b) (keyS a) := by unfold winsQ; rw [if_pos (.inl h)]
theorem cmpK_le_trans {a b c : OKey} (ha : a.Ok) (hb : b.Ok) (hc : c.Ok) (h1 : cmpK a b ≤ 0) (h2 : cmpK b c ≤ 0) : cmpK a c ≤ 0 := by
  have e1 := cmpK_anti a b; have e2 := cmpK_anti b c; have e3 := cmpK_anti a c
  have := cmpK_trans hc hb ha (by omega) (by omega)
  omega
theorem foldS_max : ∀ (l : List SState) (t : SState) (n : Nat), AllS (t :: l) → AllNear (t :: l) → (foldS t l n).1 ∈ t :: l ∧ ∀ x ∈ t :: l, cmpK (keyS x) (keyS (foldS t l n).1) ≤ 0
  | [], t, n, _, _ => ⟨.head _, fun x hx => by
      rw [List.mem_singleton.1 hx]; show cmpK (keyS t) (keyS t) ≤ 0; rw [cmpK_self]; decide⟩
  | s :: l, t, n, hA, hN => by
    have ht := hA t (.head _); have hs := hA s (.tail _ (.head _))
    have hw := wins_near (hN t (.head _) s (.tail _ (.head _)))
    have hr := cmpK_rng (keyS s) (keyS t); have ha := cmpK_anti (keyS s) (keyS t)
    unfold foldS
    split
    · rename_i hq
      have hq := hw.1 hq
      have hA' : AllS (s :: l) := fun x hx => hA x (.tail _ hx)
      have ih := foldS_max l s (n + 1) hA' (fun x hx y hy => hN x (.tail _ hx) y (.tail _ hy))
      refine ⟨.tail _ ih.1, fun x hx => ?_⟩
      rcases List.mem_cons.1 hx with rfl | hx
      · exact cmpK_le_trans (keyS_ok ht) (keyS_ok hs) (keyS_ok (hA' _ ih.1)) (by omega) (ih.2 s (.head _))
      · exact ih.2 x hx
    · rename_i hq
      have hq : ¬ 0 < cmpK (keyS s) (keyS t) := fun h => hq (hw.2 h)
      have hA' : AllS (t :: l) := fun x hx => hA x ((List.mem_cons.1 hx).elim (fun e => e ▸ .head _) fun h => .tail _ (.tail _ h))
      have ih := foldS_max l t n hA' (fun x hx y hy => hN x ((List.mem_cons.1 hx).elim (fun e => e ▸ .head _) fun h => .tail _ (.tail _ h)) y ((List.mem_cons.1 hy).elim (fun e => e ▸ .head _) fun h => .tail _ (.tail _ h)))
      refine ⟨(List.mem_cons.1 ih.1).elim (fun e => by rw [e]; exact .head _) fun h => .tail _ (.tail _ h), fun x hx => ?_⟩
      rcases List.mem_cons.1 hx with rfl | hx
      · exact ih.2 _ (.head _)
      · rcases List.mem_cons.1 hx with rfl | hx
        · exact cmpK_le_trans (keyS_ok hs) (keyS_ok ht) (keyS_ok (hA' _ ih.1)) (by omega) (ih.2 t (.head _))
        · exact ih.2 x (.tail _ hx)
/-- Told pair by pair. -/
theorem allNear_of {l : List SState} (h : ∀ i, i < l.length → ∀ j, j < i → nearQ (l.getD i default) (l.getD j default)) : AllNear l := by
  have key : ∀ i j, i < l.length → j < l.length → nearQ (l.getD i default) (l.getD j default) := fun i j hi hj => by
    rcases Nat.lt_trichotomy i j with h1 | h1 | h1
    · exact (near_sym _ _).1 (h j hj i h1)
    · subst h1; exact near_self _
    · exact h i hi j h1
  intro x hx y hy
  obtain ⟨i, hi, e⟩ := List.mem_iff_getElem.1 hx
  obtain ⟨j, hj, e2⟩ := List.mem_iff_getElem.1 hy
  have := key i j hi hj
  rw [List.getD_eq_getElem?_getD, List.getD_eq_getElem?_getD, List.getElem?_eq_getElem hi, List.getElem?_eq_getElem hj, Option.getD_some, Option.getD_some, e, e2] at this
  exact this
theorem fold_best {t : SState} {l : List SState} {m : Nat} (hA : AllS (t :: l)) (hN : AllNear (t :: l)) (hg : IsG (keysL (t :: l)) (keysL (t :: l)).length m) : keyS (foldS t l 0).1 = (keysL (t :: l)).getD m default := by
  obtain ⟨h1, h2⟩ := foldS_max l t 0 hA hN
  have hm : m < (t :: l).length := by have := hg.lt; rw [keysL_len] at this; exact this
  obtain ⟨i, hi, e⟩ := List.mem_iff_getElem.1 h1
  have a := hg.all i (by rw [keysL_len]; exact hi)
  rw [keysL_get hi, List.getD_eq_getElem?_getD, List.getElem?_eq_getElem hi, Option.getD_some, e] at a
  have hmem : (t :: l).getD m default ∈ t :: l := by rw [List.getD_eq_getElem?_getD, List.getElem?_eq_getElem hm]; exact List.getElem_mem hm
  have b := h2 _ hmem
  rw [keysL_get hm] at a ⊢
  rw [cmpK_anti] at b
  exact cmpK_eq (keyS_ok (hA _ h1)) (keyS_ok (hA _ hmem)) (by omega)
theorem fold_same {t : SState} {l m : List SState} (h : ∀ x, x ∈ m ↔ x ∈ l) (hA : AllS (t :: l)) (hN : AllNear (t :: l)) : keyS (foldS t m 0).1 = keyS (foldS t l 0).1 := by
  have hm : ∀ x, x ∈ t :: m ↔ x ∈ t :: l := fun x => by simp only [List.mem_cons, h]
  obtain ⟨h1, h2⟩ := foldS_max l t 0 hA hN
  obtain ⟨h3, h4⟩ := foldS_max m t 0 (fun x hx => hA x ((hm x).1 hx)) (fun x hx y hy => hN x ((hm x).1 hx) y ((hm y).1 hy))
  have a := h2 _ ((hm _).1 h3); have b := h4 _ ((hm _).2 h1)
  rw [cmpK_anti] at b
  exact cmpK_eq (keyS_ok (hA _ ((hm _).1 h3))) (keyS_ok (hA _ h1)) (by omega)
/-- Two change places. -/
def swapL (l : List SState) (i k : Nat) : List SState := (l.set i (l.getD k default)).set k (l.getD i default)
theorem swap_len (l : List SState) (i k : Nat) : (swapL l i k).length = l.length := by rw [swapL, List.length_set, List.length_set]
theorem swap_mem {l : List SState} {i k : Nat} (hi : i < l.length) (hk : k < l.length) (x : SState) : x ∈ swapL l i k ↔ x ∈ l := by
  have g : ∀ j, j < l.length → (swapL l i k).getD j default = if j = k then l.getD i default else if j = i then l.getD k default else l.getD j default := fun j hj => by
    unfold swapL
    by_cases h1 : j = k
    · subst h1; rw [if_pos rfl, List.getD_eq_getElem?_getD, List.getElem?_set_self (by rw [List.length_set]; exact hj)]; rfl
    · rw [if_neg h1, List.getD_eq_getElem?_getD, List.getElem?_set_ne (by omega)]
      by_cases h2 : j = i
      · subst h2; rw [if_pos rfl, List.getElem?_set_self hj]; rfl
      · rw [if_neg h2, List.getElem?_set_ne (by omega), List.getD_eq_getElem?_getD]
  have mg : ∀ (m : List SState) (y : SState), y ∈ m ↔ ∃ j, j < m.length ∧ m.getD j default = y := fun m y => ⟨fun h => by
      obtain ⟨j, hj, e⟩ := List.mem_iff_getElem.1 h
      exact ⟨j, hj, by rw [List.getD_eq_getElem?_getD, List.getElem?_eq_getElem hj]; exact e⟩, fun ⟨j, hj, e⟩ => by
      rw [List.getD_eq_getElem?_getD, List.getElem?_eq_getElem hj] at e
      rw [← e]; exact List.getElem_mem hj⟩
  rw [mg, mg, swap_len]
  constructor
  · rintro ⟨j, hj, e⟩
    rw [g j hj] at e
    by_cases h1 : j = k
    · rw [if_pos h1] at e; exact ⟨i, hi, e⟩
    · rw [if_neg h1] at e
      by_cases h2 : j = i
      · rw [if_pos h2] at e; exact ⟨k, hk, e⟩
      · rw [if_neg h2] at e; exact ⟨j, hj, e⟩
  · rintro ⟨j, hj, e⟩
    by_cases h1 : j = i
    · subst h1; exact ⟨k, hk, by rw [g k hk, if_pos rfl]; exact e⟩
    · by_cases h2 : j = k
      · subst h2
        by_cases h3 : i = j
        · omega
        · exact ⟨i, hi, by rw [g i hi, if_neg h3, if_pos rfl]; exact e⟩
      · exact ⟨j, hj, by rw [g j hj, if_neg h2, if_neg h1]; exact e⟩
theorem allS_cons {t : SState} {l : List SState} (ht : t.Ok) (hl : AllS l) : AllS (t :: l) := fun x hx => (List.mem_cons.1 hx).elim (fun e => e ▸ ht) (hl x)
theorem swap_all {l : List SState} (h : AllS l) {i k : Nat} (hi : i < l.length) (hk : k < l.length) : AllS (swapL l i k) := fun x hx => h x ((swap_mem hi hk x).1 hx)
theorem swap_rt {l : List SState} (h : AllRt l) {i k : Nat} (hi : i < l.length) (hk : k < l.length) : AllRt (swapL l i k) := fun x hx => h x ((swap_mem hi hk x).1 hx)
theorem keysL_snoc {l : List SState} {n : Nat} (h : n < l.length) : keysL (l.take n) ++ [keyS (l.getD n default)] = keysL (l.take (n + 1)) := by
  rw [take_snocD h, keysL, keysL, List.map_append]; rfl
theorem keysL_take_len {l : List SState} {n : Nat} (h : n ≤ l.length) : (keysL (l.take n)).length = n := by
  rw [keysL_len, List.length_take]; omega
end Go.Alm

/- A row's element is written whole. -/
namespace Go.Alm
open Go Go.RowKit
theorem spl_take {c : Array Value} {j m : Nat} {vs : Array Value} (h : j + vs.size ≤ m) (hm : m ≤ c.size) : (spl c j vs).toList.take m = (c.toList.take m).take j ++ vs.toList ++ (c.toList.take m).drop (j + vs.size) := by
  simp only [spl]
  have h1 : (c.toList.take j).length = j := by rw [List.length_take, Array.length_toList]; omega
  rw [List.take_take, Nat.min_eq_left (show j ≤ m by omega), List.drop_take, List.take_append, List.take_of_length_le (l := c.toList.take j ++ vs.toList) (by simp; omega)]
  congr 1
  rw [List.length_append, h1, Array.length_toList]
theorem Row.put {w w' : World} {e sz n cap j : Nat} {ao : Option Addr} {xs xs' : List Value} {vs : Array Value} {g : Nat} {cur : Array Value} (hj : j + vs.size ≤ xs.length) (hx : xs.take j ++ vs.toList ++ xs.drop (j + vs.size) = xs')
    (hao : ao = some ⟨g, 0, none⟩) (hg : w.heap[g]? = some (.cells cur e (0, 0))) (hl : xs.length = n * sz) (hn : n ≤ cap) (hcm : cap ≤ maxLen) (hs : cur.size = cap * sz) (ht : cur.toList.take (n * sz) = xs) (hb : w'.heap[g]? = some (.cells (spl cur j vs) e (0, 0))) : Row w' e sz (.slice ao n cap) n xs' := by
  subst hao
  have hm : n * sz ≤ cur.size := by rw [hs]; exact Nat.mul_le_mul_right _ hn
  refine Row.made' hb (by rw [size_spl (by omega)]; exact hs) hcm hn ?_
  rw [spl_take (by omega) hm, ht]; exact hx
theorem cutA_0 (ao : Option Addr) (m sz : Nat) : cutA ao 0 m sz = ao := by
  unfold cutA
  split
  · rfl
  · rw [Nat.zero_mul]; cases ao <;> rfl
section
variable {P : Program} {Q : Exit → Act → World → Prop} {L : List Iv} {s : St} {RO FZ OW : List Rc}
/-- A slice's beginning. -/
theorem m_slc0 (n sz N c h m : Nat) (ao : Option Addr) (hb : h ≤ m ∧ m ≤ c) (k : J P Q L (nx (go P n s) (.slice ao h m)) RO FZ OW)
    (h1 : (go P n s).a.eval (slOp (go P n s)).2.1 = .slice ao N c := by kernel_rfl) (hlo : boundOf (slB (go P n s) (slOp (go P n s)).2.2.1) 0 = some ((0 : Nat) : Int) := by kernel_rfl)
    (hhi : boundOf (slB (go P n s) (slOp (go P n s)).2.2.2.1) N = some (h : Int) := by kernel_rfl) (hmx : boundOf (slB (go P n s) (slOp (go P n s)).2.2.2.2) c = some (m : Int) := by kernel_rfl)
    (hc : ((sliceOf (cur (go P n s)).op).isSome && isSl P (slOp (go P n s)).1 && (elemSz P (slOp (go P n s)).1 == some sz) && !(hasB (slB (go P n s) (slOp (go P n s)).2.2.2.2) && !hasB (slB (go P n s) (slOp (go P n s)).2.2.2.1)) && onW (go P n s)) = true := by kernel_rfl) : J P Q L s RO FZ OW := by
  refine m_slc n sz N c 0 h m h m ao ⟨Nat.zero_le _, hb.1, hb.2⟩ rfl rfl ?_ h1 hlo hhi hmx hc
  rw [cutA_0]; exact k
/-- A row's element is written whole. -/
theorem m_stR (n i e sz j N cap : Nat) (ao : Option Addr) (xs xs' : List Value) (vs : Array Value) (hsz : vs.size = sz) (hp : 0 < sz) (hv : vs.toList.all (·.oneCell') = true) (hj : j + sz ≤ xs.length) (hx : xs.take j ++ vs.toList ++ xs.drop (j + sz) = xs')
    (k : J P Q L (nx (go P n s) undef) RO FZ (OW.set i (.row e sz ao N cap xs')))
    (h1 : (go P n s).a.eval (stX (go P n s)) = .pointer (some ((oad ao).add j)) := by kernel_rfl) (hy : (stY (go P n s)).cells = vs := by kernel_rfl) (hr : gr OW i = .row e sz ao N cap xs := by kernel_rfl)
    (hc : ((storeOf (cur (go P n s)).op).isSome && Nat.blt i OW.length && (sizeT P (stT (go P n s)) == some sz) && (acts (go P n s) && onW (go P n s))) = true := by kernel_rfl) : J P Q L s RO FZ OW := by
  simp only [Bool.and_eq_true, beq_iff_eq] at hc
  obtain ⟨⟨⟨h4, h5⟩, h6⟩, h8⟩ := hc
  have hlt : i < OW.length := by simpa using h5
  have hi : OW[i]? = some (.row e sz ao N cap xs) := by
    have := hr
    unfold gr at this
    rw [List.getD_eq_getElem?_getD, List.getElem?_eq_getElem hlt, Option.getD_some] at this
    rw [List.getElem?_eq_getElem hlt, this]
  refine m_act n (fun w hw _ => ?_) (by rw [Bool.and_eq_true]; exact h8)
  have hA : (Rc.row e sz ao N cap xs).A w := hw.a _ (by simp only [List.mem_append]; exact .inr (.inr (List.mem_of_getElem? hi)))
  have hA : Row w e sz (.slice ao N cap) N xs := hA
  have hl : xs.length = N * sz := hA.1
  have hpos : 0 < xs.length := by omega
  obtain ⟨g, cap', cur', hv', _, h2, h3, h3', h4', h5'⟩ : ∃ (g cap' : Nat) (cur' : Array Value), (Value.slice ao N cap) = .slice (some ⟨g, 0, none⟩) N cap' ∧ 0 ≤ g ∧ w.heap[g]? = some (.cells cur' e (0, 0)) ∧ N ≤ cap' ∧ cap' ≤ maxLen ∧ cur'.size = cap' * sz ∧ cur'.toList.take (N * sz) = xs := by
    rcases hA.2 with ⟨_, h0⟩ | h
    · exfalso; rw [hl, h0, Nat.zero_mul] at hpos; omega
    · exact h
  simp only [Value.slice.injEq, true_and] at hv'
  obtain ⟨hao, rfl⟩ := hv'
  have ho : storeOf (cur (go P n s)).op = some (stT (go P n s), stX (go P n s), ((storeOf (cur (go P n s)).op).getD (0, .tmp 0, .tmp 0)).2.2) := by
    unfold stT stX
    cases hl : storeOf (cur (go P n s)).op with
    | none => rw [hl] at h4; cases h4
    | some x => rfl
  have hx1 : (go P n s).a.eval (stX (go P n s)) = .pointer (some ⟨g, j, none⟩) := by
    rw [h1, hao]; simp [oad, Addr.add] <;> omega
  have hsz2 : N * sz ≤ cur'.size := by rw [h4']; exact Nat.mul_le_mul_right _ h3
  refine op_store _ _ _ g j (stY (go P n s)) cur' e _ ho hx1 rfl h2 (by rw [hy, hsz]; exact h6) (Nat.ble_eq_true_of_le (by rw [hy]; omega)) (by rw [hy]; exact hv) (by rw [hy]) fun w' hb hz F => ⟨_, _, rfl, Hs.set (r' := .row e sz ao N cap xs') hw hi (by
    show Fr w w' (Own (.slice ao N cap))
    have : One g = Own (.slice ao N cap) := by rw [hao]; funext k; simp [One, Own, Value.ownBlock, eq_comm]
    rw [← this]; exact F) (Row.put (by omega) (by rw [hsz]; exact hx) hao h2 hl h3 h3' h4' h5' hb) ?_, k⟩
  exact New.refl _ _
end
theorem RL_set {X : Type} {f : X → Array Value} {sz : Nat} (hs : ∀ x, (f x).size = sz) : ∀ (l : List X) (k : Nat) (x : X), k < l.length → (RL f l).take (k * sz) ++ (f x).toList ++ (RL f l).drop (k * sz + sz) = RL f (l.set k x)
  | [], _, _, h => by cases h
  | y :: l, 0, x, _ => by
    have h0 : (f y).toList.length = sz := by simp [hs]
    simp only [Nat.zero_mul, List.take_zero, List.nil_append, Nat.zero_add, RL, List.set_cons_zero]
    rw [← h0, List.drop_left]
  | y :: l, k + 1, x, h => by
    have h0 : (f y).toList.length = sz := by simp [hs]
    have ih := RL_set hs l k x (by simpa using h)
    simp only [RL, List.set_cons_succ]
    rw [show (k + 1) * sz = (f y).toList.length + k * sz by rw [h0, Nat.succ_mul, Nat.add_comm], List.take_length_add_append, Nat.add_assoc, List.drop_length_add_append, ← ih]
    simp only [List.append_assoc]
section
variable {P : Program} {Q : Exit → Act → World → Prop} {L : List Iv} {s : St} {RO FZ OW : List Rc}
/-- A record of a row is written. -/
theorem m_stRL {X : Type} (n i e sz N cap : Nat) (ao : Option Addr) (f : X → Array Value) (l : List X) (k : Nat) (x : X) (hs : ∀ x, (f x).size = sz) (hp : 0 < sz) (hv : (f x).toList.all (·.oneCell') = true) (hk : k < l.length)
    (kk : J P Q L (nx (go P n s) undef) RO FZ (OW.set i (.row e sz ao N cap (RL f (l.set k x)))))
    (h1 : (go P n s).a.eval (stX (go P n s)) = .pointer (some ((oad ao).add (k * sz))) := by kernel_rfl) (hy : (stY (go P n s)).cells = f x := by kernel_rfl) (hr : gr OW i = .row e sz ao N cap (RL f l) := by kernel_rfl)
    (hc : ((storeOf (cur (go P n s)).op).isSome && Nat.blt i OW.length && (sizeT P (stT (go P n s)) == some sz) && (acts (go P n s) && onW (go P n s))) = true := by kernel_rfl) : J P Q L s RO FZ OW :=
  m_stR n i e sz (k * sz) N cap ao (RL f l) (RL f (l.set k x)) (f x) (hs x) hp hv (by
    rw [RL_length hs, ← Nat.succ_mul]; exact Nat.mul_le_mul_right _ hk) (RL_set hs l k x hk) kk h1 hy hr hc
end
end Go.Alm

/- Layer 10, plainly: what is counted over a whole history. -/
namespace Go.Alm
open Go Go.RowKit
/-- How many of some slots are in a sub-window; ahead of the first as many as it has slots. -/
def subC (S : List Nat) (g : Int) : Nat := if g < 0 then 3 else (S.filter fun s => decide (((s / 3 : Nat) : Int) = g)).length
theorem subC_neg {S : List Nat} {g : Int} (h : g < 0) : subC S g = 3 := if_pos h
theorem subC_snoc (S : List Nat) (x : Nat) {g : Int} (h : 0 ≤ g) : subC (S ++ [x]) g = subC S g + (if ((x / 3 : Nat) : Int) = g then 1 else 0) := by
  unfold subC
  rw [if_neg (by omega), if_neg (by omega), List.filter_append, List.length_append]
  by_cases e : ((x / 3 : Nat) : Int) = g
  · rw [if_pos e]
    have : ([x].filter fun s => decide (((s / 3 : Nat) : Int) = g)) = [x] := by rw [List.filter_cons, if_pos (decide_eq_true e)]; rfl
    rw [this]; rfl
  · rw [if_neg e]
    have : ([x].filter fun s => decide (((s / 3 : Nat) : Int) = g)) = [] := by rw [List.filter_cons, if_neg (by simpa using e)]; rfl
    rw [this]; rfl
theorem subC_none {S : List Nat} {L : Nat} (h : ∀ s ∈ S, s / 3 ≤ L) {g : Int} (hg : (L : Int) < g) : subC S g = 0 := by
  unfold subC
  rw [if_neg (by omega), List.filter_eq_nil_iff.2 (fun s hs => by have := h s hs; simp; omega)]; rfl
theorem asc_len : ∀ (l : List Nat) (lo hi : Nat), l.Pairwise (· < ·) → (∀ x ∈ l, lo ≤ x ∧ x < hi) → l.length ≤ hi - lo
  | [], _, _, _, _ => Nat.zero_le _
  | x :: l, lo, hi, hp, hb => by
    obtain ⟨h1, h2⟩ := List.pairwise_cons.1 hp
    have hx := hb x (.head _)
    have := asc_len l (x + 1) hi h2 (fun y hy => ⟨h1 y hy, (hb y (.tail _ hy)).2⟩)
    rw [List.length_cons]; omega
theorem subC_few {S : List Nat} (hp : S.Pairwise (· < ·)) {x : Nat} (hx : ∀ s ∈ S, s < x) : subC S ((x / 3 : Nat) : Int) ≤ 2 := by
  unfold subC
  rw [if_neg (by omega)]
  have := asc_len (S.filter fun s => decide (((s / 3 : Nat) : Int) = ((x / 3 : Nat) : Int))) (x / 3 * 3) x (hp.sublist List.filter_sublist) (fun y hy => by
    have h1 := (List.mem_filter.1 hy).1; have h2 := (List.mem_filter.1 hy).2
    have h3 := hx y h1
    simp only [decide_eq_true_eq] at h2
    omega)
  omega
/-- A ring that counts the last sub-windows of a history. -/
def Ring4 (S : List Nat) (r : RRing) : Prop := ∀ i, i < 4 → r.cn i = subC S (ofZ r.last i)
theorem ring4_get {S : List Nat} {r : RRing} (h : Ring4 S r) {g : Int} (h1 : g ≤ (r.last : Int)) (h2 : (r.last : Int) < g + 4) : r.cn (g % 4).toNat = subC S g := by
  have hm : 0 ≤ g % 4 := Int.emod_nonneg _ (by decide)
  have hl : g % 4 < 4 := Int.emod_lt_of_pos _ (by decide)
  rw [h (g % 4).toNat (by omega)]
  congr 1
  unfold ofZ; omega
theorem cn_add (r : RRing) (n i : Nat) (hi : i < 4) : (ringAdd r n).cn i = kq r n i := by
  match i, hi with
  | 0, _ => rfl
  | 1, _ => rfl
  | 2, _ => rfl
  | 3, _ => rfl
theorem kp_sub {S : List Nat} {r : RRing} (h : Ring4 S r) (hS : ∀ s ∈ S, s / 3 ≤ r.last) {n i : Nat} (hn : r.last ≤ n) (hi : i < 4) : kp r.last n i (r.cn i) = subC S (ofZ n i) := by
  unfold kp
  by_cases e : n ≤ r.last + (n + 4 - i) % 4
  · rw [if_pos e, h i hi, ((ofZ_eq (n := n) hi hi hn).2 ⟨rfl, e⟩)]
  · rw [if_neg e, subC_none hS (by unfold ofZ; omega)]
theorem Ring4.add {S : List Nat} {r : RRing} (h : Ring4 S r) (hS : ∀ s ∈ S, s / 3 ≤ r.last) {x : Nat} (hx : r.last ≤ x / 3) : Ring4 (S ++ [x]) (ringAdd r (x / 3)) := fun i hi => by
  rw [cn_add _ _ _ hi, kq, kp_sub h hS hx hi]
  show subC S (ofZ (x / 3) i) + _ = subC (S ++ [x]) (ofZ (x / 3) i)
  by_cases hg : ofZ (x / 3) i < 0
  · rw [subC_neg hg, subC_neg hg, if_neg (by unfold ofZ at hg; omega)]
  · rw [subC_snoc _ _ (by omega)]
    congr 1
    by_cases e : x / 3 % 4 = i
    · rw [if_pos e, if_pos (by unfold ofZ; omega)]
    · rw [if_neg e, if_neg (by unfold ofZ; omega)]
theorem ring4_start : Ring4 [0] (⟨0, [1, 3, 3, 3]⟩ : RRing) := fun i hi => by
  match i, hi with
  | 0, _ => rfl
  | 1, _ => rfl
  | 2, _ => rfl
  | 3, _ => rfl
/-- What a window ahead of a sub-window counts. -/
def winC (S : List Nat) (n : Nat) : Nat := subC S ((n : Int) - 1) + subC S ((n : Int) - 2) + subC S ((n : Int) - 3) + subC S ((n : Int) - 4)
theorem bef_winC {S : List Nat} {r : RRing} (h : Ring4 S r) (hS : ∀ s ∈ S, s / 3 ≤ r.last) {n : Nat} (hn : r.last < n) : ringBef r n = winC S n := by
  have k := fun i hi => kp_sub h hS (n := n - 1) (i := i) (by omega) hi
  have e : ringBef r n = subC S (ofZ (n - 1) 0) + subC S (ofZ (n - 1) 1) + subC S (ofZ (n - 1) 2) + subC S (ofZ (n - 1) 3) := by
    unfold ringBef
    rw [if_neg (by omega)]
    show kp r.last (n - 1) 0 (r.cn 0) + kp r.last (n - 1) 1 (r.cn 1) + kp r.last (n - 1) 2 (r.cn 2) + kp r.last (n - 1) 3 (r.cn 3) = _
    rw [k 0 (by decide), k 1 (by decide), k 2 (by decide), k 3 (by decide)]
  rw [e, winC]
  have h4 : (n - 1) % 4 = 0 ∨ (n - 1) % 4 = 1 ∨ (n - 1) % 4 = 2 ∨ (n - 1) % 4 = 3 := by omega
  rcases h4 with h4 | h4 | h4 | h4
  · rw [show ofZ (n - 1) 0 = (n : Int) - 1 by unfold ofZ; omega, show ofZ (n - 1) 1 = (n : Int) - 4 by unfold ofZ; omega, show ofZ (n - 1) 2 = (n : Int) - 3 by unfold ofZ; omega, show ofZ (n - 1) 3 = (n : Int) - 2 by unfold ofZ; omega]; omega
  · rw [show ofZ (n - 1) 0 = (n : Int) - 2 by unfold ofZ; omega, show ofZ (n - 1) 1 = (n : Int) - 1 by unfold ofZ; omega, show ofZ (n - 1) 2 = (n : Int) - 4 by unfold ofZ; omega, show ofZ (n - 1) 3 = (n : Int) - 3 by unfold ofZ; omega]; omega
  · rw [show ofZ (n - 1) 0 = (n : Int) - 3 by unfold ofZ; omega, show ofZ (n - 1) 1 = (n : Int) - 2 by unfold ofZ; omega, show ofZ (n - 1) 2 = (n : Int) - 1 by unfold ofZ; omega, show ofZ (n - 1) 3 = (n : Int) - 4 by unfold ofZ; omega]; omega
  · rw [show ofZ (n - 1) 0 = (n : Int) - 4 by unfold ofZ; omega, show ofZ (n - 1) 1 = (n : Int) - 3 by unfold ofZ; omega, show ofZ (n - 1) 2 = (n : Int) - 2 by unfold ofZ; omega, show ofZ (n - 1) 3 = (n : Int) - 1 by unfold ofZ; omega]; omega
/-- The least of all windows that are looked at, over the first `n` slots. -/
def wholeN (S : List Nat) : Nat → Nat
  | 0 => 12
  | n + 1 => if n = 0 ∨ S.getD n 0 < 12 ∨ S.getD n 0 / 3 = S.getD (n - 1) 0 / 3 then wholeN S n else min (wholeN S n) (winC (S.take n) (S.getD n 0 / 3))
theorem wholeN_app (S T : List Nat) : ∀ n, n ≤ S.length → wholeN (S ++ T) n = wholeN S n
  | 0, _ => rfl
  | n + 1, h => by
    have g : ∀ k, k < S.length → (S ++ T).getD k 0 = S.getD k 0 := fun k hk => by simp only [List.getD_eq_getElem?_getD, List.getElem?_append_left hk]
    unfold wholeN
    rw [wholeN_app S T n (by omega), g n (by omega), List.take_append_of_le_length (by omega)]
    by_cases h0 : n = 0
    · rw [if_pos (.inl h0), if_pos (.inl h0)]
    · rw [g (n - 1) (by omega)]
theorem wholeN_le (S : List Nat) : ∀ n, wholeN S n ≤ 12
  | 0 => Nat.le_refl _
  | n + 1 => by unfold wholeN; have := wholeN_le S n; split <;> omega
/-- A history. -/
structure Hist (S : List Nat) (s : SState) (count : Nat) : Prop where
  ne : 0 < S.length
  asc : S.Pairwise (· < ·)
  top : ∀ x ∈ S, x ≤ s.slot
  lst : S.getD (S.length - 1) 0 = s.slot
  ok : s.Ok
  rt : s.Right
  len : s.len = S.length
  cnt : s.count = count
  ring : Ring4 S s.win.ring
  rl : s.win.ring.last = s.slot / 3
  min : s.win.min = wholeN S S.length
theorem Hist.start {led : List Nat} (h : H32 led) : Hist [0] (stateF led) 0 where
  ne := by decide
  asc := by simp
  top := by intro x hx; rw [List.mem_singleton.1 hx]; exact Nat.zero_le _
  lst := rfl
  ok := stateF_ok h
  rt := stateF_right led
  len := rfl
  cnt := rfl
  ring := ring4_start
  rl := (by decide : (0 : Nat) = 0 / 3)
  min := rfl
/-- A later block fits, if there is room for its numbers. -/
theorem Hist.fits {S : List Nat} {s : SState} {count : Nat} (h : Hist S s count) (hS : S.length < 4294967295) (hc : count < 4294967295) {b : GBlk} (hb : s.slot < b.slot) : childE s b = 0 := by
  have h1 := morE_fit (n := s.len) (k := 1) (by rw [h.len]; omega)
  have h2 := morE_fit (n := s.count) (k := turnN s.slot b.slot) (by have := turnN_le s.slot b.slot; rw [h.cnt]; omega)
  have hlt : ∀ x ∈ S, x < b.slot := fun x hx => Nat.lt_of_le_of_lt (h.top x hx) hb
  have h3 : ringPE s.win.ring (b.slot / 3) = 0 := by
    unfold ringPE
    have e : ¬ b.slot / 3 < s.win.ring.last := by rw [h.rl]; omega
    rw [if_neg e]
    by_cases q : b.slot / 3 = s.win.ring.last
    · have g := ring4_get h.ring (g := ((b.slot / 3 : Nat) : Int)) (by omega) (by omega)
      have hf := subC_few h.asc hlt
      have hm : (((b.slot / 3 : Nat) : Int) % 4).toNat = b.slot / 3 % 4 := by omega
      rw [hm] at g
      rw [if_neg (by rw [g]; omega)]
    · rw [if_neg (fun k => q k.1)]
  have h4 : folE s.eps (gblkE s b) = 0 := by
    obtain ⟨_, _, _, _, _, _, _, _, h9⟩ := h.rt
    unfold folE gblkE
    have hm : s.slot % 24 < 24 := Nat.mod_lt _ (by decide)
    rw [if_neg (by show ¬ b.slot ≤ s.slot; omega)]
    split
    · rfl
    · rw [if_pos (by show s.eps.next.len + 1 < 4294967296; omega)]
  unfold childE
  rw [if_neg (by omega), h1, h2, h3, h4]; rfl
theorem getD_snoc (S : List Nat) (x : Nat) : (S ++ [x]).getD S.length 0 = x := by
  simp [List.getD_eq_getElem?_getD]
theorem Hist.step {S : List Nat} {s : SState} {count : Nat} (h : Hist S s count) {b : GBlk} (hb : b.Ok) (e : childE s b = 0) : Hist (S ++ [b.slot]) (childS s b) (count + turnN s.slot b.slot) := by
  obtain ⟨f1, f2, f3, f4, f5, f6, f7, f8, f9, f10, f11, f12, f13⟩ := childS_facts e
  have hsub : ∀ x ∈ S, x / 3 ≤ s.win.ring.last := fun x hx => by rw [h.rl]; exact Nat.div_le_div_right (h.top x hx)
  have hp : ringPE s.win.ring (b.slot / 3) = 0 := (childE_0 e).2.2.2.1
  have hw : (childS s b).win = ⟨winRel s.win b.slot, ringAdd s.win.ring (b.slot / 3)⟩ := by rw [f12, winPut, if_pos hp]
  have hle : s.win.ring.last ≤ b.slot / 3 := by rw [h.rl]; exact Nat.div_le_div_right (Nat.le_of_lt f8)
  refine ⟨by rw [List.length_append]; have := h.ne; omega, ?_, ?_, ?_, childS_ok h.ok h.rt hb, childS_right h.rt e, by rw [f1, h.len, List.length_append]; rfl, by rw [f7, h.cnt], ?_, ?_, ?_⟩
  · rw [List.pairwise_append]
    exact ⟨h.asc, List.pairwise_singleton _ _, fun x hx y hy => by rw [List.mem_singleton.1 hy]; exact Nat.lt_of_le_of_lt (h.top x hx) f8⟩
  · intro x hx
    rw [f2]
    rcases List.mem_append.1 hx with hx | hx
    · exact Nat.le_of_lt (Nat.lt_of_le_of_lt (h.top x hx) f8)
    · rw [List.mem_singleton.1 hx]; exact Nat.le_refl _
  · rw [f2, List.length_append, List.length_singleton, Nat.add_sub_cancel, getD_snoc]
  · rw [hw]; exact h.ring.add hsub hle
  · rw [hw, f2]; rfl
  · rw [hw, List.length_append, List.length_singleton]
    show winRel s.win b.slot = wholeN (S ++ [b.slot]) (S.length + 1)
    have hlast : (S ++ [b.slot]).getD (S.length - 1) 0 = s.slot := by
      have := h.ne
      rw [← h.lst]; simp only [List.getD_eq_getElem?_getD, List.getElem?_append_left (show S.length - 1 < S.length by omega)]
    unfold wholeN winRel
    rw [wholeN_app S _ _ (Nat.le_refl _), ← h.min, getD_snoc, hlast, List.take_left]
    have hne : ¬ S.length = 0 := by have := h.ne; omega
    by_cases q : b.slot < 12 ∨ b.slot / 3 ≤ s.win.ring.last
    · rw [if_pos q, if_pos]
      rcases q with q | q
      · exact .inr (.inl q)
      · exact .inr (.inr (by rw [h.rl] at q hle; omega))
    · rw [if_neg q, if_neg, bef_winC h.ring hsub (by omega)]
      rintro (k | k | k)
      · exact hne k
      · exact q (.inl k)
      · exact q (.inr (by rw [h.rl]; omega))
theorem subC_le (S : List Nat) (g : Int) : subC S g ≤ S.length + 3 := by
  unfold subC; split
  · omega
  · have := List.length_filter_le (fun s => decide (((s / 3 : Nat) : Int) = g)) S; omega
theorem takeN_snoc {S : List Nat} {i : Nat} (h : i < S.length) : S.take (i + 1) = S.take i ++ [S.getD i 0] := by
  rw [List.take_add_one, List.getElem?_eq_getElem h, List.getD_eq_getElem?_getD, List.getElem?_eq_getElem h]; rfl
theorem subC_yes {S : List Nat} {i n : Nat} {g : Int} (h : i < S.length) (hn : n = subC (S.take i) g) (hg : 0 ≤ g) (e : ((S.getD i 0 / 3 : Nat) : Int) = g) : n + 1 = subC (S.take (i + 1)) g := by
  rw [takeN_snoc h, subC_snoc _ _ hg, if_pos e, hn]
theorem subC_no {S : List Nat} {i n : Nat} {g : Int} (h : i < S.length) (hn : n = subC (S.take i) g) (hg : 0 ≤ g) (e : ¬ ((S.getD i 0 / 3 : Nat) : Int) = g) : n = subC (S.take (i + 1)) g := by
  rw [takeN_snoc h, subC_snoc _ _ hg, if_neg e, hn]; rfl
theorem subC_nil {g : Int} (h : 0 ≤ g) : subC [] g = 0 := by unfold subC; rw [if_neg (by omega)]; rfl
def AllN (S : List Nat) : Prop := ∀ x ∈ S, x < 4294967296
theorem AllN.get {S : List Nat} (h : AllN S) {i : Nat} (hi : i < S.length) : S.getD i 0 < 4294967296 := by
  rw [List.getD_eq_getElem?_getD, List.getElem?_eq_getElem hi, Option.getD_some]
  exact h _ (List.getElem_mem hi)
theorem AllN.take {S : List Nat} (h : AllN S) (n : Nat) : AllN (S.take n) := fun x hx => h x (List.mem_of_mem_take hx)
theorem Hist.all {S : List Nat} {s : SState} {count : Nat} (h : Hist S s count) : AllN S := fun x hx => Nat.lt_of_le_of_lt (h.top x hx) h.ok.slot
theorem whole_skip {S : List Nat} {i out : Nat} (ho : out = wholeN S i) (h : i = 0 ∨ S.getD i 0 < 12 ∨ S.getD i 0 / 3 = S.getD (i - 1) 0 / 3) : out = wholeN S (i + 1) := by
  rw [wholeN, if_pos h]; exact ho
theorem whole_min {S : List Nat} {i out n : Nat} (ho : out = wholeN S i) (h : ¬ (i = 0 ∨ S.getD i 0 < 12 ∨ S.getD i 0 / 3 = S.getD (i - 1) 0 / 3)) (hn : n = winC (S.take i) (S.getD i 0 / 3)) : min out n = wholeN S (i + 1) := by
  rw [wholeN, if_neg h, ho, hn]
theorem takeN_cut (S : List Nat) (k : Nat) : ((RL nC S).drop (0 * 1)).take (k * 1) = RL nC (S.take k) := by
  rw [RL_cut nC_size, List.drop_zero]
theorem eps_tl {s : SState} {b : GBlk} (hs : s.slot < b.slot) (t : s.slot / 24 < b.slot / 24) (l : b.slot % 24 < 16) (e : childE s b = 0) : (childS s b).eps = ⟨s.eps.next, ⟨s.led, seedL s.eps.next.seed b.draw, stH s, stH s, 1⟩⟩ := by
  rw [child_is e]
  show folP s.eps (gblkE s b) = _
  rw [(fol_turn (p := s.eps) (b := gblkE s b) (by show ¬ b.slot ≤ s.slot; omega) t).2, lockD_yes (b := gblkE s b) l]; rfl
theorem eps_tn {s : SState} {b : GBlk} (hs : s.slot < b.slot) (t : s.slot / 24 < b.slot / 24) (l : ¬ b.slot % 24 < 16) (e : childE s b = 0) : (childS s b).eps = ⟨s.eps.next, ⟨s.led, s.eps.next.seed, stH s, Z32, 1⟩⟩ := by
  rw [child_is e]
  show folP s.eps (gblkE s b) = _
  rw [(fol_turn (p := s.eps) (b := gblkE s b) (by show ¬ b.slot ≤ s.slot; omega) t).2, lockD_no (b := gblkE s b) l]; rfl
theorem eps_sl {s : SState} {b : GBlk} (hR : s.Right) (hs : s.slot < b.slot) (t : ¬ s.slot / 24 < b.slot / 24) (l : b.slot % 24 < 16) (e : childE s b = 0) : (childS s b).eps = ⟨s.eps.now, ⟨s.eps.next.led, seedL s.eps.next.seed b.draw, s.eps.next.start, stH s, s.eps.next.len + 1⟩⟩ := by
  obtain ⟨_, _, _, _, _, _, _, _, h9⟩ := hR
  have hm : s.slot % 24 < 24 := Nat.mod_lt _ (by decide)
  rw [child_is e]
  show folP s.eps (gblkE s b) = _
  rw [(fol_stay (p := s.eps) (b := gblkE s b) (by show ¬ b.slot ≤ s.slot; omega) t (by omega)).2, lockD_yes (b := gblkE s b) l]; rfl
theorem eps_sn {s : SState} {b : GBlk} (hR : s.Right) (hs : s.slot < b.slot) (t : ¬ s.slot / 24 < b.slot / 24) (l : ¬ b.slot % 24 < 16) (e : childE s b = 0) : (childS s b).eps = ⟨s.eps.now, ⟨s.eps.next.led, s.eps.next.seed, s.eps.next.start, s.eps.next.lock, s.eps.next.len + 1⟩⟩ := by
  obtain ⟨_, _, _, _, _, _, _, _, h9⟩ := hR
  have hm : s.slot % 24 < 24 := Nat.mod_lt _ (by decide)
  rw [child_is e]
  show folP s.eps (gblkE s b) = _
  rw [(fol_stay (p := s.eps) (b := gblkE s b) (by show ¬ b.slot ≤ s.slot; omega) t (by omega)).2, lockD_no (b := gblkE s b) l]
theorem tm4 (g : Int) : -4 < Int.tmod g 4 ∧ Int.tmod g 4 < 4 := ⟨by
  rcases Int.lt_or_le g 0 with h | h
  · have h1 : Int.tmod g 4 = -(Int.tmod (-g) 4) := by rw [Int.neg_tmod]; omega
    have h2 := Int.tmod_lt_of_pos (-g) (show (0 : Int) < 4 by decide)
    omega
  · have := Int.tmod_nonneg 4 h; omega, Int.tmod_lt_of_pos g (by decide)⟩
theorem tm44 (g : Int) : Int.tmod (Int.tmod g 4 + 4) 4 = (((g % 4).toNat : Nat) : Int) := by
  have h0 := tm4 g
  have hm : 0 ≤ g % 4 := Int.emod_nonneg _ (by decide)
  rw [Int.toNat_of_nonneg hm, Int.tmod_eq_emod_of_nonneg (by omega)]
  rcases Int.lt_or_le g 0 with h | h
  · have h1 : Int.tmod g 4 = -(Int.tmod (-g) 4) := by rw [Int.neg_tmod]; omega
    rw [h1, Int.tmod_eq_emod_of_nonneg (by omega)]; omega
  · rw [Int.tmod_eq_emod_of_nonneg h]; omega
theorem st_cnt0 (c : SState) : c.cells[101 + 0 * 1]? = some (.int .u32 ((c.win.ring.counts.getD 0 0 : Nat) : Int)) := by kernel_rfl
theorem st_cnt1 (c : SState) : c.cells[101 + 1 * 1]? = some (.int .u32 ((c.win.ring.counts.getD 1 0 : Nat) : Int)) := by kernel_rfl
theorem st_cnt2 (c : SState) : c.cells[101 + 2 * 1]? = some (.int .u32 ((c.win.ring.counts.getD 2 0 : Nat) : Int)) := by kernel_rfl
theorem st_cnt3 (c : SState) : c.cells[101 + 3 * 1]? = some (.int .u32 ((c.win.ring.counts.getD 3 0 : Nat) : Int)) := by kernel_rfl
theorem st_cnt {c : SState} {k : Nat} (h : k < 4) : c.cells[101 + k * 1]? = some (.int .u32 ((c.win.ring.counts.getD k 0 : Nat) : Int)) := by
  have e : k = 0 ∨ k = 1 ∨ k = 2 ∨ k = 3 := by omega
  rcases e with rfl | rfl | rfl | rfl
  · exact st_cnt0 c
  · exact st_cnt1 c
  · exact st_cnt2 c
  · exact st_cnt3 c
def AllH (d : List (List Nat)) : Prop := ∀ x ∈ d, H32 x
theorem AllH.get {d : List (List Nat)} (h : AllH d) {i : Nat} (hi : i < d.length) : H32 (d.getD i []) := by
  rw [List.getD_eq_getElem?_getD, List.getElem?_eq_getElem hi, Option.getD_some]
  exact h _ (List.getElem_mem hi)
theorem hist_cnt {S : List Nat} {c : SState} {ct : Nat} (h : Hist S c ct) {n : Nat} (hn : c.slot / 3 = n) {g : Int} (h1 : g ≤ (n : Int)) (h2 : (n : Int) < g + 4) : c.win.ring.counts.getD (g % 4).toNat 0 = subC S g := by
  have := h.rl
  exact ring4_get h.ring (by rw [this, hn]; exact h1) (by rw [this, hn]; exact h2)
theorem last_snoc (hs : List (List Nat)) (x : List Nat) : (hs ++ [x]).getD ((hs ++ [x]).length - 1) [] = x := by
  simp [List.getD_eq_getElem?_getD]
end Go.Alm

/- The history: what is told of the epochs, whichever way was gone. -/
namespace Go.Alm
/-- behind the turn -/
def TurnD (s : SState) (tt ct : Nat) (nw nx : EData) (cn : Nat) : Prop :=
  (s.slot / 24 < tt / 24 ∧ nw = s.eps.next ∧ nx = ⟨s.eps.next.led, s.eps.next.seed, stH s, Z32, 0⟩ ∧ cn = ct + 1) ∨ (¬ s.slot / 24 < tt / 24 ∧ nw = s.eps.now ∧ nx = s.eps.next ∧ cn = ct)
theorem TurnD.cnt {s : SState} {tt ct cn : Nat} {nw nx : EData} (h : TurnD s tt ct nw nx cn) : cn = ct + turnN s.slot tt ∧ cn ≤ ct + 1 := by
  rcases h with ⟨t, _, _, e⟩ | ⟨t, _, _, e⟩
  · exact ⟨by rw [e, turn_1 (by omega)], by omega⟩
  · exact ⟨by rw [e, turn_0 (by omega)]; rfl, by omega⟩
theorem TurnD.now {s : SState} {tt ct cn : Nat} {nw nx : EData} {led dr : List Nat} (h : TurnD s tt ct nw nx cn) (hR : s.Right) (hs : s.slot < tt) (e : childE s ⟨tt, led, dr⟩ = 0) : (childS s ⟨tt, led, dr⟩).eps.now = nw := by
  rcases h with ⟨t, e1, _, _⟩ | ⟨t, e1, _, _⟩ <;> by_cases l : tt % 24 < 16
  · rw [eps_tl hs t l e, e1]
  · rw [eps_tn hs t l e, e1]
  · rw [eps_sl hR hs t l e, e1]
  · rw [eps_sn hR hs t l e, e1]
theorem TurnD.lock {s : SState} {tt ct cn : Nat} {nw nx : EData} {led dr : List Nat} (h : TurnD s tt ct nw nx cn) (hR : s.Right) (hs : s.slot < tt) (hl : s.led = led) (hn : s.eps.next.led = led) (e : childE s ⟨tt, led, dr⟩ = 0) (l : tt % 24 < 16) : (childS s ⟨tt, led, dr⟩).eps.next = ⟨led, seedL s.eps.next.seed dr, nx.start, stH s, nx.len + 1⟩ := by
  rcases h with ⟨t, _, e2, _⟩ | ⟨t, _, e2, _⟩
  · rw [eps_tl hs t l e, e2, hl]
  · rw [eps_sl hR hs t l e, e2, hn]
theorem TurnD.free {s : SState} {tt ct cn : Nat} {nw nx : EData} {led dr : List Nat} (h : TurnD s tt ct nw nx cn) (hR : s.Right) (hs : s.slot < tt) (hl : s.led = led) (hn : s.eps.next.led = led) (e : childE s ⟨tt, led, dr⟩ = 0) (l : ¬ tt % 24 < 16) : (childS s ⟨tt, led, dr⟩).eps.next = ⟨led, s.eps.next.seed, nx.start, nx.lock, nx.len + 1⟩ := by
  rcases h with ⟨t, _, e2, _⟩ | ⟨t, _, e2, _⟩
  · rw [eps_tn hs t l e, e2, hl]
  · rw [eps_sn hR hs t l e, e2, hn]
theorem TurnD.len {s : SState} {tt ct cn : Nat} {nw nx : EData} (h : TurnD s tt ct nw nx cn) (hn : s.eps.next.len ≤ 24) : nx.len ≤ 24 := by
  rcases h with ⟨_, _, e, _⟩ | ⟨_, _, e, _⟩ <;> rw [e]
  · exact Nat.zero_le _
  · exact hn
end Go.Alm

/- Strings: out of bytes, as bytes, and walked rune by rune as long as these are of one byte. -/
namespace Go.Alm
open Go Go.RowKit
def toStr (l : List Nat) : ByteArray := ⟨(l.map UInt8.ofNat).toArray⟩
theorem sB_toStr {l : List Nat} (h : Byt l) : sB (toStr l) = l := by
  unfold sB toStr
  rw [List.map_map]
  have : l.map (UInt8.toNat ∘ UInt8.ofNat) = l.map id := List.map_congr_left fun x hx => by
    have := h x hx
    simp only [Function.comp, id, UInt8.toNat_ofNat']
    omega
  rw [this, List.map_id]
theorem toStr_sB (s : ByteArray) : toStr (sB s) = s := sB_inj (sB_toStr (sB_byt s))
theorem toStr_size (l : List Nat) : (toStr l).size = l.length := by show (List.map UInt8.ofNat l).toArray.size = l.length; simp
theorem foldl_push_nat : ∀ (l : List Nat) (r : ByteArray), (l.map (fun (b : Nat) => (b : Int))).foldl (fun r n => r.push (UInt8.ofNat n.toNat)) r = ⟨r.data ++ (l.map UInt8.ofNat).toArray⟩
  | [], r => by simp
  | b :: l, r => by
    simp only [List.map_cons, List.foldl_cons]
    rw [foldl_push_nat l]
    simp [ByteArray.push]
section
variable {P : Program} {Q : Exit → Act → World → Prop} {a : Act} {w : World} {o : Oper} {K : Act → World → Prop}
def convOf : Op → Option (Nat × Nat × Operand)
  | .convert s d x => some (s, d, x)
  | _ => none
theorem run_bytes_str (src dst e : Nat) (x : Operand) (ao : Option Addr) (n c : Nat) (l : List Nat) (ho : convOf o.op = some (src, dst, x)) (hs : P.underlying src = some (.slice e)) (he : P.underlying e = some (.int .u8)) (hd : P.underlying dst = some .string)
    (hx : a.eval x = .slice ao n c) (hR : Rd w ao (B l)) (hl : l.length = n) : (execOp a.eval o).run P w = .ok (.value (.string (toStr l))) w := by
  subst hl
  have hc : (convert src dst (.slice ao l.length c)).run P w = .ok (.string (toStr l)) w := by
    rw [run_convert_bytes_string w src dst e ao l.length c hs he hd]
    cases ao with
    | none =>
      have : l = [] := by
        cases l with
        | nil => rfl
        | cons b r => obtain ⟨_, h, _⟩ := hR 0 (.int .u8 (b : Int)) rfl; cases h
      subst this
      rfl
    | some ad =>
      have hcells : (loadCells ad l.length).run P w = .ok ((l.map (fun (b : Nat) => (b : Int))).map (Value.int .u8)).toArray w := by
        have h := run_loadCells_list (P := P) (w := w) ad (B l) (fun j v hj => by
          obtain ⟨ad', ha, hcell⟩ := hR j v hj
          cases ha
          exact hcell)
        rw [B_length] at h
        rw [h]
        simp [B]
      rw [run_bytesToString w ad l.length c _ hcells, foldl_push_nat]
      simp [toStr, ByteArray.empty, ByteArray.emptyWithCapacity]
      rfl
  unfold convOf at ho
  split at ho
  · rename_i s' d' x' hop
    simp only [Option.some.injEq, Prod.mk.injEq] at ho
    obtain ⟨rfl, rfl, rfl⟩ := ho
    unfold execOp
    simp only [hop, hx, Sem.run_bind, hc, Result.andThen_ok, Sem.run_pure]
  · cases ho
theorem op_str_bytes (src dst e : Nat) (x : Operand) (s : ByteArray) (ho : convOf o.op = some (src, dst, x)) (hs : P.underlying src = some .string) (hd : P.underlying dst = some (.slice e)) (he : P.underlying e = some (.int .u8)) (hx : a.eval x = .string s)
    (k : ∀ w' b n, Rd w' (some ⟨b, 0, none⟩) (B (sB s)) → b = w.heap.size → Fr w w' N0 → In w' (One b) → (sB s).length ≤ n → K (a.put o.dst (.slice (some ⟨b, 0, none⟩) (sB s).length n)) w') : OpW P o a w K Q := by
  rw [sB_length] at k
  unfold convOf at ho
  split at ho
  · rename_i s' d' x' hop
    simp only [Option.some.injEq, Prod.mk.injEq] at ho
    obtain ⟨rfl, rfl, rfl⟩ := ho
    have hr := run_bytes_of_string (P := P) w s' d' e s hs hd he
    obtain ⟨ob, hob⟩ : ∃ ob, ob = Obj.cells (bytesRow s (grownCap w s.size 0 e)) e ((bytesRow s (grownCap w s.size 0 e)).size, (bytesRow s (grownCap w s.size 0 e)).size + 1) := ⟨_, rfl⟩
    rw [← hob] at hr
    refine op_run _ (w.drew.alloc ob) (by unfold execOp; simp only [hop, hx, Sem.run_bind, hr, Result.andThen_ok, Sem.run_pure]) (k _ w.heap.size _ ?_ rfl (Fr.of_drew (Fr.alloc1 w.drew ob)) ?_ (grownCap_ge w s.size 0 e))
    · have hb := heap_alloc_new w.drew ob
      rw [hob] at hb
      rw [hob]
      refine Rd.of_cut hb 0 s.size ?_
      rw [List.drop_zero, bytesRow, Array.toList_append, List.take_left' (by rw [Array.length_toList, Array.size_map]; rfl)]
      rw [← sB_cells]
      simp [byteCells]
    · intro j hj
      rw [hj]
      show w.heap.size < (w.heap.push _).size
      simp
  · cases ho
/-! ### walking a string -/
def nextOf : Op → Option (Operand × Bool)
  | .next x b => some (x, b)
  | _ => none
theorem get!_sB {s : ByteArray} {k : Nat} (h : k < s.size) : (s.get! k).toNat = (sB s).getD k 0 := by
  have hk' : k < s.data.size := h
  have hk2 : k < s.data.toList.length := by simpa using hk'
  unfold sB
  rw [List.getD_eq_getElem?_getD, List.getElem?_map, List.getElem?_eq_getElem hk2]
  unfold ByteArray.get!
  simp [hk']
  rw [getElem!_pos s.data k hk']
theorem dec_low {s : ByteArray} {k : Nat} (h : k < s.size) (hb : (sB s).getD k 0 < 128) : Utf8.decode s k = ((sB s).getD k 0, 1) := by
  unfold Utf8.decode
  simp only [Nat.add_zero, get!_sB h]
  rw [if_pos (by omega)]
theorem dec_high {s : ByteArray} {k : Nat} (h : k < s.size) (hb : ¬ (sB s).getD k 0 < 128) : 128 ≤ (Utf8.decode s k).1 := by
  unfold Utf8.decode
  simp only [Nat.add_zero, get!_sB h]
  rw [if_neg (by omega)]
  unfold Utf8.runeError
  repeat' split
  all_goals first | omega | (simp_all; omega)
theorem op_next (x : Operand) (b pos : Nat) (s : ByteArray) (ho : nextOf o.op = some (x, true)) (hx : a.eval x = .pointer (some ⟨b, 0, none⟩)) (hb : w.heap[b]? = some (.stringIter s pos)) (hp : pos < s.size)
    (k : ∀ w', w'.heap[b]? = some (.stringIter s (pos + (Utf8.decode s pos).2)) → w'.heap.size = w.heap.size → Fr w w' (One b) → K (a.put o.dst (.tuple #[.bool true, .int .i64 (pos : Int), .int .i32 ((Utf8.decode s pos).1 : Int)])) w') : OpW P o a w K Q := by
  unfold nextOf at ho
  split at ho
  · rename_i x' b' hop
    simp only [Option.some.injEq, Prod.mk.injEq] at ho
    obtain ⟨rfl, rfl⟩ := ho
    have hlt := lt_of_get hb
    refine op_run _ { w with heap := w.heap.setIfInBounds b (.stringIter s (pos + (Utf8.decode s pos).2)) } ?_ (k _ (by simp [hlt]) (by simp) ⟨rfl, rfl, rfl, by simp, fun j _ hj => ?_⟩)
    · unfold execOp
      simp only [hop, hx, Instr.next, Sem.run_bind, getObj, Sem.run, hb, Result.andThen_ok, if_pos hp, setObj, hlt, if_true]
      rfl
    · have : b ≠ j := fun e => hj e.symm
      simp [this]
  · cases ho
theorem run_over (x : Operand) (b pos : Nat) (s : ByteArray) (ho : nextOf o.op = some (x, true)) (hx : a.eval x = .pointer (some ⟨b, 0, none⟩)) (hb : w.heap[b]? = some (.stringIter s pos)) (hp : ¬ pos < s.size) : (execOp a.eval o).run P w = .ok (.value (.tuple #[.bool false])) w := by
  unfold nextOf at ho
  split at ho
  · rename_i x' b' hop
    simp only [Option.some.injEq, Prod.mk.injEq] at ho
    obtain ⟨rfl, rfl⟩ := ho
    unfold execOp
    simp only [hop, hx, Instr.next, Sem.run_bind, getObj, Sem.run, hb, Result.andThen_ok, if_neg hp, Sem.run_pure]
  · cases ho
end
end Go.Alm

/- Layer 14, plainly: which names are right; an account's bytes; what is read of bytes. -/
namespace Go.Alm
open Go Go.RowKit
def ltr (b : Nat) : Bool := Nat.ble 97 b && Nat.ble b 122
def rightS (s : ByteArray) : Bool := decide (0 < s.size) && decide (s.size ≤ 8) && (sB s).all ltr
theorem ltr_iff {b : Nat} : ltr b = true ↔ 97 ≤ b ∧ b ≤ 122 := by simp [ltr]
theorem all_step {l : List Nat} {k : Nat} (h : (l.take k).all ltr = true) (hk : k < l.length) (hb : 97 ≤ l.getD k 0 ∧ l.getD k 0 ≤ 122) : (l.take (k + 1)).all ltr = true := by
  rw [take_snoc l k hk, List.all_append, h]
  simp only [List.all_cons, List.all_nil, Bool.and_true, Bool.true_and]
  exact ltr_iff.2 hb
theorem right_no {s : ByteArray} {k : Nat} (hk : k < s.size) (hb : ¬ (97 ≤ (sB s).getD k 0 ∧ (sB s).getD k 0 ≤ 122)) : rightS s = false := by
  have : (sB s).all ltr = false := by
    cases h : (sB s).all ltr with
    | false => rfl
    | true =>
      have hk' : k < (sB s).length := by rw [sB_length]; exact hk
      have h1 := List.all_eq_true.1 h ((sB s)[k]) (List.getElem_mem hk')
      have e : (sB s).getD k 0 = (sB s)[k] := by simp [hk']
      rw [e] at hb
      exact absurd (ltr_iff.1 h1) hb
  unfold rightS
  rw [this, Bool.and_false]
theorem right_size {s : ByteArray} (h : ¬ (0 < s.size ∧ s.size ≤ 8)) : rightS s = false := by
  unfold rightS
  rcases Nat.lt_or_ge 0 s.size with h1 | h1
  · rw [decide_eq_false (show ¬ s.size ≤ 8 from fun h2 => h ⟨h1, h2⟩)]; simp
  · rw [decide_eq_false (show ¬ 0 < s.size by omega)]; simp
theorem right_yes {s : ByteArray} {k : Nat} (h : ((sB s).take k).all ltr = true) (hk : s.size ≤ k) (h1 : 0 < s.size) (h2 : s.size ≤ 8) : rightS s = true := by
  rw [List.take_of_length_le (by rw [sB_length]; exact hk)] at h
  unfold rightS
  rw [h, decide_eq_true h1, decide_eq_true h2]; rfl
theorem right_spec {s : ByteArray} (h : rightS s = true) : 0 < s.size ∧ s.size ≤ 8 ∧ (sB s).all ltr = true := by
  unfold rightS at h
  simp only [Bool.and_eq_true, decide_eq_true_eq] at h
  exact ⟨h.1.1, h.1.2, h.2⟩
theorem empty_size {s : ByteArray} (h : s ≠ (⟨#[]⟩ : ByteArray)) : 0 < s.size := by
  rcases Nat.eq_zero_or_pos s.size with h0 | h0
  · exfalso
    apply h
    have : s.data.size = 0 := h0
    have h2 : s.data = #[] := Array.eq_empty_of_size_eq_zero this
    cases s
    simp_all
  · exact h0
theorem empty_eq {s : ByteArray} (h : s = (⟨#[]⟩ : ByteArray)) : s.size = 0 := by subst h; rfl
section
variable {P : Program} {Q : Exit → Act → World → Prop} {a : Act} {w : World} {o : Oper} {K : Act → World → Prop}
theorem op_next_low (x : Operand) (b pos : Nat) (s : ByteArray) (ho : nextOf o.op = some (x, true)) (hx : a.eval x = .pointer (some ⟨b, 0, none⟩)) (hb : w.heap[b]? = some (.stringIter s pos)) (hp : pos < s.size) (hl : (sB s).getD pos 0 < 128)
    (k : ∀ w', w'.heap[b]? = some (.stringIter s (pos + 1)) → w'.heap.size = w.heap.size → Fr w w' (One b) → K (a.put o.dst (.tuple #[.bool true, .int .i64 (pos : Int), .int .i32 (((sB s).getD pos 0 : Nat) : Int)])) w') : OpW P o a w K Q := by
  refine op_next x b pos s ho hx hb hp ?_
  rw [dec_low hp hl]
  exact k
theorem op_next_high (x : Operand) (b pos : Nat) (s : ByteArray) (ho : nextOf o.op = some (x, true)) (hx : a.eval x = .pointer (some ⟨b, 0, none⟩)) (hb : w.heap[b]? = some (.stringIter s pos)) (hp : pos < s.size) (hl : ¬ (sB s).getD pos 0 < 128)
    (k : ∀ w' c p, 128 ≤ c → w'.heap[b]? = some (.stringIter s p) → w'.heap.size = w.heap.size → Fr w w' (One b) → K (a.put o.dst (.tuple #[.bool true, .int .i64 (pos : Int), .int .i32 ((c : Nat) : Int)])) w') : OpW P o a w K Q :=
  op_next x b pos s ho hx hb hp fun w' h1 h2 h3 => k w' _ _ (dec_high hp hl) h1 h2 h3
end
/-- An account's bytes. -/
def accL (s : ByteArray) (bal non : Nat) : List Nat := textW (sB s) ++ putB bal 8 8 ++ putB non 4 4
def accB (s : ByteArray) (bal non : Nat) : List Nat := if rightS s = true then accL s bal non else []
def accE (s : ByteArray) : Nat := if rightS s = true then 0 else 1
theorem accL_len {s : ByteArray} {bal non : Nat} : (accL s bal non).length ≤ 300 := by
  unfold accL
  rw [List.length_append, List.length_append, putB_length, putB_length]
  have : (textW (sB s)).length ≤ 256 := by
    unfold textW; split
    · rw [List.length_append, putB_length]; omega
    · simp
  omega
theorem accB_len {s : ByteArray} {bal non : Nat} : (accB s bal non).length ≤ 300 := by
  unfold accB; split
  · exact accL_len
  · simp
end Go.Alm

namespace Go.Alm
open Go Go.RowKit
/-- How far a walk over a string is from its end. -/
def itPos (b : Nat) (w : World) : Nat := match w.heap[b]? with | some (.stringIter s p) => s.size - p | _ => 0
theorem itPos_lt {b p p' : Nat} {s : ByteArray} {w w' : World} (h : w.heap[b]? = some (.stringIter s p)) (h' : w'.heap[b]? = some (.stringIter s p')) (h1 : p < p') (h2 : p < s.size) : itPos b w' < itPos b w := by
  unfold itPos; rw [h, h']; simp only; omega
end Go.Alm

namespace Go.Alm
open Go Go.RowKit
theorem accB_yes {s : ByteArray} {bal non : Nat} (h : rightS s = true) : accB s bal non = accL s bal non := if_pos h
theorem accB_no {s : ByteArray} {bal non : Nat} (h : rightS s = false) : accB s bal non = [] := if_neg (by rw [h]; decide)
theorem accE_yes {s : ByteArray} (h : rightS s = true) : accE s = 0 := if_pos h
theorem accE_no {s : ByteArray} (h : rightS s = false) : accE s = 1 := if_neg (by rw [h]; decide)
theorem accE_ne {s : ByteArray} (h : ((accE s : Nat) : Int) ≠ 0) : rightS s = false := by
  cases hr : rightS s with
  | false => rfl
  | true => rw [accE_yes hr] at h; exact absurd rfl h
theorem accE_eq {s : ByteArray} (h : ((accE s : Nat) : Int) = 0) : rightS s = true := by
  cases hr : rightS s with
  | true => rfl
  | false => rw [accE_no hr] at h; simp at h
theorem accL_ref {s : ByteArray} {bal non : Nat} (h : rightS s = true) : [s.size] ++ sB s ++ putB bal 8 8 ++ putB non 4 4 = accL s bal non := by
  have h2 := right_spec h
  unfold accL textW
  rw [if_pos (by rw [sB_length]; omega), putB_one (by rw [sB_length]; omega), sB_length]
theorem accL_byt (s : ByteArray) (bal non : Nat) : Byt (accL s bal non) := by
  have hp : ∀ n k j, Byt (putB n k j) := fun n k j x hx => by
    unfold Go.Alm.putB at hx
    obtain ⟨i, _, rfl⟩ := List.mem_map.1 hx
    exact Nat.mod_lt _ (by decide)
  unfold accL
  refine (Byt.cat ?_ (hp _ _ _)).cat (hp _ _ _)
  unfold textW
  split
  · exact (hp _ _ _).cat (sB_byt s)
  · exact Byt.nil
theorem accB_byt (s : ByteArray) (bal non : Nat) : Byt (accB s bal non) := by
  unfold accB; split
  · exact accL_byt s bal non
  · exact Byt.nil
def accS : ByteArray := ⟨#[97, 99, 99, 111, 117, 110, 116]⟩
def accH (s : ByteArray) (bal non : Nat) : List Nat := if rightS s = true then tag1 (sB accS) (accB s bal non) else List.replicate 32 0
theorem accH_length (s : ByteArray) (bal non : Nat) : (accH s bal non).length = 32 := by
  unfold accH; split
  · exact tagL_length _ _
  · simp
theorem accH_byt (s : ByteArray) (bal non : Nat) : Byt (accH s bal non) := by
  unfold accH; split
  · exact tagL_byt _ _
  · intro x hx; have := List.eq_of_mem_replicate hx; omega
end Go.Alm

namespace Go.Alm
open Go Go.RowKit
theorem accH_yes {s : ByteArray} {bal non : Nat} (h : rightS s = true) : accH s bal non = tag1 (sB accS) (accB s bal non) := if_pos h
theorem accH_no {s : ByteArray} {bal non : Nat} (h : rightS s = false) : accH s bal non = List.replicate 32 0 := if_neg (by rw [h]; decide)
def empS : ByteArray := ⟨#[101, 109, 112, 116, 121]⟩
def accNone : List Nat := tagL (sB empS) []
theorem accNone_length : accNone.length = 32 := tagL_length _ _
theorem accNone_byt : Byt accNone := tagL_byt _ _
/-- An account. -/
structure Acct where
  s : ByteArray
  bal : Nat
  non : Nat
structure Acct.Ok (a : Acct) : Prop where
  s : a.s.size ≤ maxLen
  bal : a.bal < 18446744073709551616
  non : a.non < 4294967296
def Acct.cells (a : Acct) : Array Value := #[.string a.s, .int .u64 (a.bal : Int), .int .u32 (a.non : Int)]
def acct0 : Acct := ⟨⟨#[]⟩, 0, 0⟩
/-- What is read of bytes. -/
abbrev accQ1 (l : List Nat) : Rs := (Rs.mk 0 l).textR 8
abbrev accQ2 (l : List Nat) : Rs := ((Rs.mk 0 l).textR 8).take 8
abbrev accQ3 (l : List Nat) : Rs := (((Rs.mk 0 l).textR 8).take 8).take 4
abbrev accN (l : List Nat) : ByteArray := toStr ((Rs.mk 0 l).text 8)
def accF (l : List Nat) : Nat := if (accQ3 l).end = 0 then (if rightS (accN l) = true then 0 else 2) else (accQ3 l).end
def accRd (l : List Nat) : Acct := if accF l = 0 then ⟨accN l, (accQ1 l).num 8, (accQ2 l).num 4⟩ else acct0
theorem accF_a {l : List Nat} (h : (accQ3 l).end = 0) (hr : rightS (accN l) = true) : accF l = 0 ∧ accRd l = ⟨accN l, (accQ1 l).num 8, (accQ2 l).num 4⟩ := by
  have : accF l = 0 := by unfold accF; rw [if_pos h, if_pos hr]
  exact ⟨this, if_pos this⟩
theorem accF_b {l : List Nat} (h : (accQ3 l).end = 0) (hr : rightS (accN l) = false) : accF l = 2 ∧ accRd l = acct0 := by
  have : accF l = 2 := by unfold accF; rw [if_pos h, if_neg (by rw [hr]; decide)]
  exact ⟨this, if_neg (by rw [this]; decide)⟩
theorem accF_c {l : List Nat} (h : (accQ3 l).end ≠ 0) : accF l = (accQ3 l).end ∧ accRd l = acct0 := by
  have : accF l = (accQ3 l).end := by unfold accF; rw [if_neg h]
  exact ⟨this, if_neg (by rw [this]; exact h)⟩
theorem accF_zero {l : List Nat} (h : accF l = 0) : (accQ3 l).end = 0 ∧ rightS (accN l) = true := by
  by_cases h1 : (accQ3 l).end = 0
  · refine ⟨h1, ?_⟩
    cases hr : rightS (accN l) with
    | true => rfl
    | false => rw [(accF_b h1 hr).1] at h; cases h
  · rw [(accF_c h1).1] at h; exact absurd h h1
theorem accRd_ok {l : List Nat} (hB : Byt l) : (accRd l).Ok := by
  unfold accRd
  split
  · have hB1 : Byt (accQ1 l).l := Byt.textR (r := ⟨0, l⟩) hB 8
    refine ⟨?_, ?_, ?_⟩
    · simp only [toStr_size]
      have := text_bound (r := ⟨0, l⟩) (m := 8) hB
      simp only [maxLen]; omega
    · exact Rs.num_lt hB1 (Nat.le_refl 8)
    · exact Rs.num_lt (hB1.rtake 8) (Nat.le_refl 4)
  · exact ⟨by decide, by decide, by decide⟩
theorem Acct.wf {a : Acct} (h : a.Ok) : WfA a.cells := WfA.lit (l := [.string a.s, .int .u64 (a.bal : Int), .int .u32 (a.non : Int)]) ⟨h.s, wf_n64 h.bal, wf_n32 h.non, trivial⟩
theorem Acct.inj {a b : Acct} (h : a.cells = b.cells) : a = b := by
  obtain ⟨s, m, n⟩ := a
  obtain ⟨s', m', n'⟩ := b
  simp only [Acct.cells, Array.mk.injEq, List.cons.injEq, Value.string.injEq, Value.int.injEq, true_and, and_true] at h
  obtain ⟨rfl, h2, h3⟩ := h
  have : m = m' := by omega
  subst this
  have : n = n' := by omega
  subst this
  rfl
theorem Acct.eq_iff {s t : ByteArray} {m n p q : Nat} : (#[Value.string s, .int .u64 (m : Int), .int .u32 (n : Int)] = #[Value.string t, .int .u64 (p : Int), .int .u32 (q : Int)]) ↔ s = t ∧ m = p ∧ n = q := by
  constructor
  · intro h
    have := Acct.inj (a := ⟨s, m, n⟩) (b := ⟨t, p, q⟩) h
    simp only [Acct.mk.injEq] at this
    exact this
  · rintro ⟨rfl, rfl, rfl⟩; rfl
/-! ### there and back -/
theorem sB_right {s : ByteArray} (h : rightS s = true) : (sB s).length ≤ 8 := by rw [sB_length]; exact (right_spec h).2.1
theorem acc_read {s : ByteArray} {bal non : Nat} (h : rightS s = true) (hb : bal < 18446744073709551616) (hn : non < 4294967296) : accF (accB s bal non) = 0 ∧ accRd (accB s bal non) = ⟨s, bal, non⟩ := by
  have hl : accB s bal non = textW (sB s) ++ (putB bal 8 8 ++ putB non 4 4) := by rw [accB_yes h]; unfold accL; rw [List.append_assoc]
  have h1 := textR_appm (b := putB bal 8 8 ++ putB non 4 4) (sB_right h) (by decide : 8 ≤ 255)
  have q1 : accQ1 (accB s bal non) = ⟨0, putB bal 8 8 ++ putB non 4 4⟩ := by unfold accQ1; rw [hl, h1.1]
  have q2 : accQ2 (accB s bal non) = ⟨0, putB non 4 4⟩ := by
    show (accQ1 (accB s bal non)).take 8 = _
    rw [q1, (take_app (putB_length _ _ _)).1]
  have q3 : accQ3 (accB s bal non) = ⟨0, []⟩ := by
    show (accQ2 (accB s bal non)).take 4 = _
    rw [q2, take_app1 (putB_length _ _ _)]
  have n1 : accN (accB s bal non) = s := by unfold accN; rw [hl, h1.2, toStr_sB]
  have he : (accQ3 (accB s bal non)).end = 0 := by rw [q3]; rfl
  have := accF_a he (by rw [n1]; exact h)
  refine ⟨this.1, ?_⟩
  rw [this.2, n1, q1, q2, num_app (by omega), num_app1 (by omega)]
theorem acc_back {l : List Nat} (hB : Byt l) (h : accF l = 0) : rightS (accRd l).s = true ∧ accB (accRd l).s (accRd l).bal (accRd l).non = l := by
  obtain ⟨he, hr⟩ := accF_zero h
  have hd := (accF_a he hr).2
  rw [hd]
  refine ⟨hr, ?_⟩
  have hB1 : Byt (accQ1 l).l := Byt.textR (r := ⟨0, l⟩) hB 8
  obtain ⟨e3, l3⟩ := Rs.end_ok he
  have n3 := Rs.num_ok (hB1.rtake 8) e3
  have e2 := (Rs.take_ok e3).1
  have n2 := Rs.num_ok hB1 e2
  have e1 := (Rs.take_ok e2).1
  obtain ⟨_, t1, t2⟩ := Rs.text_ok (r := ⟨0, l⟩) hB (by decide) e1
  simp only
  rw [accB_yes hr]
  unfold accL
  rw [sB_toStr (Byt.text (r := ⟨0, l⟩) hB 8)]
  unfold textW
  rw [if_pos (by omega)]
  rw [l3, List.append_nil] at n3
  rw [← n3] at n2
  rw [← n2] at t2
  simp only [List.append_assoc] at t2 ⊢
  exact t2
theorem acc_inj {s t : ByteArray} {m n p q : Nat} (h : rightS s = true) (h' : rightS t = true) (hm : m < 18446744073709551616) (hn : n < 4294967296) (hp : p < 18446744073709551616) (hq : q < 4294967296) :
    (s = t ∧ m = p ∧ n = q) ↔ accB s m n = accB t p q := by
  constructor
  · rintro ⟨rfl, rfl, rfl⟩; rfl
  · intro e
    have h1 := (acc_read h hm hn).2
    rw [e, (acc_read h' hp hq).2] at h1
    simp only [Acct.mk.injEq] at h1
    exact ⟨h1.1.symm, h1.2.1.symm, h1.2.2.symm⟩
theorem accL_length {s : ByteArray} {bal non : Nat} (h : rightS s = true) : (accB s bal non).length = s.size + 13 := by
  have := right_spec h
  rw [accB_yes h]
  unfold accL textW
  rw [if_pos (by rw [sB_length]; omega)]
  simp only [List.length_append, putB_length, sB_length]
  omega
theorem acc_short {s : ByteArray} {bal non : Nat} (h : rightS s = true) : accF (((accB s bal non).drop 0).take ((accB s bal non).length - 1)) = 3 := by
  have hl : accB s bal non = textW (sB s) ++ (putB bal 8 8 ++ putB non 4 4) := by rw [accB_yes h]; unfold accL; rw [List.append_assoc]
  have hs := right_spec h
  have hw : (textW (sB s)).length = s.size + 1 := by
    unfold textW
    rw [if_pos (by rw [sB_length]; omega)]
    simp only [List.length_append, putB_length, sB_length]
    omega
  have hc : ((accB s bal non).drop 0).take ((accB s bal non).length - 1) = textW (sB s) ++ (putB bal 8 8 ++ (putB non 4 4).take 3) := by
    rw [accL_length h, List.drop_zero, hl, List.take_append, hw, List.take_of_length_le (by omega), List.take_append, putB_length, List.take_of_length_le (by rw [putB_length]; omega)]
    congr 3
    omega
  rw [hc]
  have h1 := textR_appm (b := putB bal 8 8 ++ (putB non 4 4).take 3) (sB_right h) (by decide : 8 ≤ 255)
  have q3 : accQ3 (textW (sB s) ++ (putB bal 8 8 ++ (putB non 4 4).take 3)) = ⟨3, []⟩ := by
    unfold accQ3
    rw [h1.1, (take_app (putB_length _ _ _)).1, take_cut (by rw [List.length_take, putB_length]; omega)]
  have he : (accQ3 (textW (sB s) ++ (putB bal 8 8 ++ (putB non 4 4).take 3))).end = 3 := by rw [q3]; rfl
  rw [(accF_c (by rw [he]; decide)).1, he]
theorem acc_long {s : ByteArray} {bal non : Nat} (h : rightS s = true) (b : Nat) : accF (accB s bal non ++ [b]) = 4 := by
  have hl : accB s bal non ++ [b] = textW (sB s) ++ (putB bal 8 8 ++ (putB non 4 4 ++ [b])) := by rw [accB_yes h]; unfold accL; simp only [List.append_assoc]
  rw [hl]
  have h1 := textR_appm (b := putB bal 8 8 ++ (putB non 4 4 ++ [b])) (sB_right h) (by decide : 8 ≤ 255)
  have q3 : accQ3 (textW (sB s) ++ (putB bal 8 8 ++ (putB non 4 4 ++ [b]))) = ⟨0, [b]⟩ := by
    unfold accQ3
    rw [h1.1, (take_app (putB_length _ _ _)).1, (take_app (putB_length _ _ _)).1]
  have he : (accQ3 (textW (sB s) ++ (putB bal 8 8 ++ (putB non 4 4 ++ [b])))).end = 4 := by rw [q3]; rfl
  rw [(accF_c (by rw [he]; decide)).1, he]
theorem acc_iff (s : ByteArray) : ((((accE s : Nat) : Int) == 0) == rightS s) = true := by
  unfold accE
  cases rightS s <;> rfl
end Go.Alm
