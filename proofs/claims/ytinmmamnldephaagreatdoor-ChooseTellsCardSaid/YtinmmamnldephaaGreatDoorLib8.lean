/- Plain lemmas and laws of the machine that the walks use; without conditions of their own. -/
import Derived.Test.YtinmmamnldephaaGreatDoorLib7
import Derived.Test.YtinmmamnldephaaGreatDoorLib6
import Derived.SizedLaws
import Derived.Test.YtinmmamnldephaaGreatDoorLib3
import Derived.Laws.BytesString
import Derived.Laws.IdiomStrings
import Derived.Test.YtinmmamnldephaaGreatDoorLib4
import Derived.Test.YtinmmamnldephaaGreatDoorLib5
/- A state with one thing of it changed. -/
namespace Go.Alm
open Go Go.RowKit
theorem wrap1_u8 (n : Nat) : IntKind.u8.wrap ((n : Int) + 1) = (((n + 1) % 256 : Nat) : Int) := by rw [wrap_u8]; omega
theorem wrap1_u32 (n : Nat) : IntKind.u32.wrap ((n : Int) + 1) = (((n + 1) % 4294967296 : Nat) : Int) := by rw [wrap_u32]; omega
theorem spl_one {c : Array Value} {l : List Nat} {i v : Nat} (off : Nat) (hl : l.length = 32) (hi : i < 32) (hc : (c.toList.drop off).take 32 = (hv l).toList) : spl c (off + i) #[.int .u8 (v : Int)] = spl c off (hv (l.set i v)) := by
  have hh : (hv (l.set i v)).toList = ((hv l).toList).set i (.int .u8 (v : Int)) := by
    rw [hv_B (by rw [List.length_set]; exact hl), hv_B hl, B, B, List.map_set]
  have hz : (hv (l.set i v)).size = 32 := hv_size _
  apply Array.ext'
  simp only [spl, hz]
  rw [hh, ← hc]
  have hlen : off + 32 ≤ c.toList.length := by
    have := congrArg List.length hc
    rw [hv_B hl, B_length, List.length_take, List.length_drop, hl] at this
    omega
  have e : (c.toList.drop off).take 32 = (c.toList.drop off).take i ++ (c.toList.drop (off + i)).take (32 - i) := by
    conv => lhs; rw [show 32 = i + (32 - i) by omega, List.take_add]
    rw [List.drop_drop]
  have e2 : ((c.toList.drop (off + i)).take (32 - i)) = (c.toList[off + i]'(by omega)) :: (c.toList.drop (off + i + 1)).take (32 - (i + 1)) := by
    rw [List.drop_eq_getElem_cons (by omega), show 32 - i = (32 - (i + 1)) + 1 by omega, List.take_succ_cons]
  have e3 : ((c.toList.drop off).take 32).set i (.int .u8 (v : Int)) = (c.toList.drop off).take i ++ (.int .u8 (v : Int) :: (c.toList.drop (off + i + 1)).take (32 - (i + 1))) := by
    rw [e, e2, List.set_append_right _ _ (by rw [List.length_take]; omega)]
    rw [List.length_take, List.length_drop, show i - min i (c.toList.length - off) = 0 by omega]; rfl
  rw [e3]
  have e4 : c.toList.take (off + i) = c.toList.take off ++ (c.toList.drop off).take i := List.take_add
  have e5 : c.toList.drop (off + i + 1) = (c.toList.drop (off + i + 1)).take (32 - (i + 1)) ++ c.toList.drop (off + 32) := by
    conv => lhs; rw [← List.take_append_drop (32 - (i + 1)) (c.toList.drop (off + i + 1))]
    rw [List.drop_drop, show off + i + 1 + (32 - (i + 1)) = off + 32 by omega]
  rw [e4]
  show c.toList.take off ++ (c.toList.drop off).take i ++ [_] ++ c.toList.drop (off + i + 1) = _
  conv => lhs; rw [e5]
  simp only [List.append_assoc, List.cons_append, List.nil_append]
/-- The state with its `i`-th thing made 1 more. -/
def chg (c : SState) (i : Nat) : SState := match i with
  | 0 => c.setP 0 (c.prev.set 0 ((c.prev.getD 0 0 + 1) % 256)) 0
  | 1 => c.setP 4 c.prev ((c.len + 1) % 4294967296)
  | 2 => c.setP 5 c.prev ((c.count + 1) % 4294967296)
  | 3 => c.setP 6 c.prev ((c.win.min + 1) % 4294967296)
  | 4 => c.setP 8 c.prev ((c.win.ring.counts.getD 0 0 + 1) % 4294967296)
  | 5 => c.setP 13 (c.eps.now.seed.set 3 ((c.eps.now.seed.getD 3 0 + 1) % 256)) 0
  | 6 => c.setP 20 (c.eps.next.lock.set 31 ((c.eps.next.lock.getD 31 0 + 1) % 256)) 0
  | 7 => c.setP 21 c.prev ((c.eps.next.len + 1) % 4294967296)
  | _ => c.setP 7 c.prev ((c.win.ring.last + 1) % 4294967296)
theorem H32.set {l : List Nat} (h : H32 l) (i n : Nat) : H32 (l.set i (n % 256)) := ⟨by rw [List.length_set]; exact h.len, fun x hx => by
  rcases List.mem_or_eq_of_mem_set hx with h1 | h1
  · exact h.byt x h1
  · rw [h1]; exact Nat.mod_lt _ (by decide)⟩
theorem chg_ok {c : SState} (h : c.Ok) (i : Nat) : (chg c i).Ok := by
  have hm : ∀ n : Nat, n % 4294967296 < 4294967296 := fun n => Nat.mod_lt _ (by decide)
  unfold chg
  split
  · exact setP_ok h (h.prev.set _ _) (by decide) _
  · exact setP_ok h h.prev (hm _) _
  · exact setP_ok h h.prev (hm _) _
  · exact setP_ok h h.prev (hm _) _
  · exact setP_ok h h.prev (hm _) _
  · exact setP_ok h (h.eps.now.seed.set _ _) (by decide) _
  · exact setP_ok h (h.eps.next.lock.set _ _) (by decide) _
  · exact setP_ok h h.prev (hm _) _
  · exact setP_ok h h.prev (hm _) _
theorem chgc0 {c : SState} (h : c.Ok) : spl c.cells 0 #[.int .u8 (((c.prev.getD 0 0 + 1) % 256 : Nat) : Int)] = (chg c 0).cells := (spl_one (l := c.prev) (i := 0) 0 h.prev.len (by decide) (by kernel_rfl)).trans (setc0 h _ 0)
theorem chgc1 {c : SState} (h : c.Ok) : spl c.cells 97 #[.int .u32 (((c.len + 1) % 4294967296 : Nat) : Int)] = (chg c 1).cells := setc4 h c.prev _
theorem chgc2 {c : SState} (h : c.Ok) : spl c.cells 98 #[.int .u32 (((c.count + 1) % 4294967296 : Nat) : Int)] = (chg c 2).cells := setc5 h c.prev _
theorem chgc3 {c : SState} (h : c.Ok) : spl c.cells 99 #[.int .u32 (((c.win.min + 1) % 4294967296 : Nat) : Int)] = (chg c 3).cells := setc6 h c.prev _
theorem chgc4 {c : SState} (h : c.Ok) : spl c.cells 101 #[.int .u32 (((c.win.ring.counts.getD 0 0 + 1) % 4294967296 : Nat) : Int)] = (chg c 4).cells := setc8 h c.prev _
theorem chgc5 {c : SState} (h : c.Ok) : spl c.cells 140 #[.int .u8 (((c.eps.now.seed.getD 3 0 + 1) % 256 : Nat) : Int)] = (chg c 5).cells := (spl_one (l := c.eps.now.seed) (i := 3) 137 h.eps.now.seed.len (by decide) (by kernel_rfl)).trans (setc13 h _ 0)
theorem chgc6 {c : SState} (h : c.Ok) : spl c.cells 361 #[.int .u8 (((c.eps.next.lock.getD 31 0 + 1) % 256 : Nat) : Int)] = (chg c 6).cells := (spl_one (l := c.eps.next.lock) (i := 31) 330 h.eps.next.lock.len (by decide) (by kernel_rfl)).trans (setc20 h _ 0)
theorem chgc7 {c : SState} (h : c.Ok) : spl c.cells 362 #[.int .u32 (((c.eps.next.len + 1) % 4294967296 : Nat) : Int)] = (chg c 7).cells := setc21 h c.prev _
theorem chgc8 {c : SState} (h : c.Ok) : spl c.cells 100 #[.int .u32 (((c.win.ring.last + 1) % 4294967296 : Nat) : Int)] = (chg c 8).cells := setc7 h c.prev _
theorem set_ne {l : List Nat} {i : Nat} (h : i < l.length) (e : l.set i ((l.getD i 0 + 1) % 256) = l) (hb : ∀ x ∈ l, x < 256) : False := by
  have h1 := congrArg (fun m => m.getD i 0) e
  simp only [List.getD_eq_getElem?_getD, List.getElem?_set_self h, Option.getD_some, List.getElem?_eq_getElem h] at h1
  have := hb _ (List.getElem_mem h)
  omega
theorem chg_ne {c : SState} (h : c.Ok) (i : Nat) : ¬ c = chg c i := by
  intro e
  have e := e.symm
  unfold chg at e
  split at e
  · exact set_ne (by rw [h.prev.len]; decide) (congrArg SState.prev e) h.prev.byt
  · have := congrArg SState.len e; have h2 := h.len; change (c.len + 1) % 4294967296 = c.len at this; omega
  · have := congrArg SState.count e; have h2 := h.count; change (c.count + 1) % 4294967296 = c.count at this; omega
  · have := congrArg (fun s => s.win.min) e; have h2 := h.win.min; change (c.win.min + 1) % 4294967296 = c.win.min at this; omega
  · have := congrArg (fun s => s.win.ring.counts.getD 0 0) e
    have hc := h.win.ring.counts
    change (c.win.ring.counts.set 0 ((c.win.ring.counts.getD 0 0 + 1) % 4294967296)).getD 0 0 = c.win.ring.counts.getD 0 0 at this
    generalize c.win.ring.counts = l at hc this
    obtain ⟨hl, hb⟩ := hc
    match l, hl, hb with
    | [a, _, _, _], _, hb => 
      have h2 := hb a (.head _); change (a + 1) % 4294967296 = a at this; omega
  · exact set_ne (by rw [h.eps.now.seed.len]; decide) (congrArg (fun s => s.eps.now.seed) e) h.eps.now.seed.byt
  · exact set_ne (by rw [h.eps.next.lock.len]; decide) (congrArg (fun s => s.eps.next.lock) e) h.eps.next.lock.byt
  · have := congrArg (fun s => s.eps.next.len) e; have h2 := h.eps.next.len; change (c.eps.next.len + 1) % 4294967296 = c.eps.next.len at this; omega
  · have := congrArg (fun s => s.win.ring.last) e; have h2 := h.win.ring.last; change (c.win.ring.last + 1) % 4294967296 = c.win.ring.last at this; omega
theorem chg_blk (c : SState) (i : Nat) : (⟨(chg c i).slot, (chg c i).led, (chg c i).draw⟩ : GBlk) = ⟨c.slot, c.led, c.draw⟩ := by
  unfold chg; split <;> rfl
/-- With one thing changed it follows no more. -/
theorem chg_folw {s : SState} {b : GBlk} (e : childE s b = 0) (h : (childS s b).Ok) (i : Nat) : folwE s (chg (childS s b) i) = 7 := by
  have hb : (⟨(childS s b).slot, (childS s b).led, (childS s b).draw⟩ : GBlk) = b := by rw [child_is e]
  refine folw_7 ?_ ?_
  · rw [chg_blk, hb]; exact e
  · rw [chg_blk, hb]; exact chg_ne h i
theorem folw_blk {p : SState} {b : GBlk} {c : SState} (hc : (⟨c.slot, c.led, c.draw⟩ : GBlk) = b) (h : ¬ childE p b = 0) : folwE p c = childE p b := by subst hc; exact folw_no h
end Go.Alm

/- A slice's length is within the form's reach. -/
namespace Go.Alm
open Go Go.RowKit
theorem len_of_trod {H : Type} {enc : TypeId × Value → H} {P : Program} {w : World} {base : Nat} {sp : Nat → Bool} {held : Bool} {fuel : Nat} {t e : TypeId} {ao : Option Addr} {len cap : Nat} {d : DataW H} {p : List MemPlace} {ts : List TypeId} {ds : List (DataW H)} (j : Nat)
    (hz : (DataW.weightsEach P ts ds).all (· ≤ reachBytes) = true) (ht : P.underlying t = some (.slice e)) (h : DataW.trod enc P w base sp held fuel t (Value.slice ao len cap).cells.toList = some (d, p)) (hj : ts[j]? = some t) (hd : ds[j]? = some d) :
    len * P.bytesOf e ≤ reachBytes := by
  rcases DataW.trod_slice ht h with ⟨hc, _⟩ | ⟨a, len', cap', elems, rest, n, _, hc, hx, _, _, _, hlen, _⟩
  · have : len = 0 := by simp [Value.cells] at hc; exact hc.2.1
    subst this; rw [Nat.zero_mul]; exact Nat.zero_le _
  · have hl : len = len' := by simp [Value.cells] at hc; exact hc.2.1
    have hdd : d = .slice (elems.map (·.1)) (rest.map (·.1)) := congrArg Prod.fst hx
    have := sized_slice hz hj (by rw [hd, hdd]) ht
    rw [List.length_map, hlen, ← hl] at this
    exact Nat.le_trans (Nat.mul_le_mul_right _ (Nat.le_add_right _ _)) this
end Go.Alm

/- The tip that is kept, and the last candidate. -/
namespace Go.Alm
open Go Go.RowKit
theorem rightL_all {l : List SState} (h : rightL l = true) : AllRt l ∧ l.length ≤ 20 := by
  unfold rightL at h
  rw [Bool.and_eq_true, List.all_eq_true, decide_eq_true_eq] at h
  exact ⟨fun x hx => by simpa using h.1 x hx, by have := h.2; omega⟩
theorem rightL_cons {t : SState} {l : List SState} (h : rightL (List.append [t] l) = true) : t.Right ∧ AllRt l ∧ l.length ≤ 19 := by
  obtain ⟨h1, h2⟩ := rightL_all h
  exact ⟨h1 t (.head _), fun x hx => h1 x (.tail _ hx), by change l.length + 1 ≤ 20 at h2; omega⟩
theorem foldS_nil1 {t : SState} {l : List SState} (h : l.length = 0) : (foldS t l 0).1 = t := by rw [List.eq_nil_of_length_eq_zero h]; rfl
theorem foldS_nil2 {t : SState} {l : List SState} (h : l.length = 0) : (foldS t l 0).2 = 0 := by rw [List.eq_nil_of_length_eq_zero h]; rfl
theorem foldS_last {t : SState} {l : List SState} (h : 0 < l.length) : foldS t l 0 = if winsQ (foldS t (l.take (l.length - 1)) 0).1 (l.getD (l.length - 1) default) then (l.getD (l.length - 1) default, (foldS t (l.take (l.length - 1)) 0).2 + 1) else foldS t (l.take (l.length - 1)) 0 := by
  have e : l = l.take (l.length - 1) ++ [l.getD (l.length - 1) default] := by
    conv => lhs; rw [← List.take_append_drop (l.length - 1) l, dropC (by omega), List.drop_eq_nil_of_le (by omega)]
  conv => lhs; rw [e]
  exact foldS_snoc _ t 0 _
end Go.Alm

/- Candidates that are all near one another: the greatest key is kept. -/
namespace Go.Alm
open Go Go.RowKit
def AllNear (l : List SState) : Prop := ∀ x ∈ l, ∀ y ∈ l, nearQ x y
def keysL (l : List SState) : List OKey := l.map keyS
theorem keysL_ok {l : List SState} (h : AllS l) : AllOk (keysL l) := fun x hx => by
  obtain ⟨y, hy, rfl⟩ := List.mem_map.1 hx
  exact keyS_ok (h y hy)
theorem keysL_len (l : List SState) : (keysL l).length = l.length := List.length_map ..
theorem keysL_get {l : List SState} {i : Nat} (h : i < l.length) : (keysL l).getD i default = keyS (l.getD i default) := by
  rw [List.getD_eq_getElem?_getD, List.getD_eq_getElem?_getD, keysL, List.getElem?_map, List.getElem?_eq_getElem h]; rfl
theorem wins_near {a b : SState} (h : nearQ a b) : winsQ a b ↔ 0 < cmpK (keyS b) (keyS a) := by unfold winsQ; rw [if_pos (.inl h)]
theorem cmpK_le_trans {a b c : OKey} (ha : a.Ok) (hb : b.Ok) (hc : c.Ok) (h1 : cmpK a b ≤ 0) (h2 : cmpK b c ≤ 0) : cmpK a c ≤ 0 := by
  have e1 := cmpK_anti a b; have e2 := cmpK_anti b c; have e3 := cmpK_anti a c
  have := cmpK_trans hc hb ha (by omega) (by omega)
  omega
theorem foldS_max : ∀ (l : List SState) (t : SState) (n : Nat), AllS (t :: l) → AllNear (t :: l) → (foldS t l n).1 ∈ t :: l ∧ ∀ x ∈ t :: l, cmpK (keyS x) (keyS (foldS t l n).1) ≤ 0
  | [], t, n, _, _ => ⟨.head _, fun x hx => by
      rw [List.mem_singleton.1 hx]; show cmpK (keyS t) (keyS t) ≤ 0; rw [cmpK_self]; decide⟩
  | s :: l, t, n, hA, hN => by
    have ht := hA t (.head _); have hs := hA s (.tail _ (.head _))
    have hw := wins_near (hN t (.head _) s (.tail _ (.head _)))
    have hr := cmpK_rng (keyS s) (keyS t); have ha := cmpK_anti (keyS s) (keyS t)
    unfold foldS
    split
    · rename_i hq
      have hq := hw.1 hq
      have hA' : AllS (s :: l) := fun x hx => hA x (.tail _ hx)
      have ih := foldS_max l s (n + 1) hA' (fun x hx y hy => hN x (.tail _ hx) y (.tail _ hy))
      refine ⟨.tail _ ih.1, fun x hx => ?_⟩
      rcases List.mem_cons.1 hx with rfl | hx
      · exact cmpK_le_trans (keyS_ok ht) (keyS_ok hs) (keyS_ok (hA' _ ih.1)) (by omega) (ih.2 s (.head _))
      · exact ih.2 x hx
    · rename_i hq
      have hq : ¬ 0 < cmpK (keyS s) (keyS t) := fun h => hq (hw.2 h)
      have hA' : AllS (t :: l) := fun x hx => hA x ((List.mem_cons.1 hx).elim (fun e => e ▸ .head _) fun h => .tail _ (.tail _ h))
      have ih := foldS_max l t n hA' (fun x hx y hy => hN x ((List.mem_cons.1 hx).elim (fun e => e ▸ .head _) fun h => .tail _ (.tail _ h)) y ((List.mem_cons.1 hy).elim (fun e => e ▸ .head _) fun h => .tail _ (.tail _ h)))
      refine ⟨(List.mem_cons.1 ih.1).elim (fun e => by rw [e]; exact .head _) fun h => .tail _ (.tail _ h), fun x hx => ?_⟩
      rcases List.mem_cons.1 hx with rfl | hx
      · exact ih.2 _ (.head _)
      · rcases List.mem_cons.1 hx with rfl | hx
        · exact cmpK_le_trans (keyS_ok hs) (keyS_ok ht) (keyS_ok (hA' _ ih.1)) (by omega) (ih.2 t (.head _))
        · exact ih.2 x (.tail _ hx)
/-- Told pair by pair. -/
theorem allNear_of {l : List SState} (h : ∀ i, i < l.length → ∀ j, j < i → nearQ (l.getD i default) (l.getD j default)) : AllNear l := by
  have key : ∀ i j, i < l.length → j < l.length → nearQ (l.getD i default) (l.getD j default) := fun i j hi hj => by
    rcases Nat.lt_trichotomy i j with h1 | h1 | h1
    · exact (near_sym _ _).1 (h j hj i h1)
    · subst h1; exact near_self _
    · exact h i hi j h1
  intro x hx y hy
  obtain ⟨i, hi, e⟩ := List.mem_iff_getElem.1 hx
  obtain ⟨j, hj, e2⟩ := List.mem_iff_getElem.1 hy
  have := key i j hi hj
  rw [List.getD_eq_getElem?_getD, List.getD_eq_getElem?_getD, List.getElem?_eq_getElem hi, List.getElem?_eq_getElem hj, Option.getD_some, Option.getD_some, e, e2] at this
  exact this
theorem fold_best {t : SState} {l : List SState} {m : Nat} (hA : AllS (t :: l)) (hN : AllNear (t :: l)) (hg : IsG (keysL (t :: l)) (keysL (t :: l)).length m) : keyS (foldS t l 0).1 = (keysL (t :: l)).getD m default := by
  obtain ⟨h1, h2⟩ := foldS_max l t 0 hA hN
  have hm : m < (t :: l).length := by have := hg.lt; rw [keysL_len] at this; exact this
  obtain ⟨i, hi, e⟩ := List.mem_iff_getElem.1 h1
  have a := hg.all i (by rw [keysL_len]; exact hi)
  rw [keysL_get hi, List.getD_eq_getElem?_getD, List.getElem?_eq_getElem hi, Option.getD_some, e] at a
  have hmem : (t :: l).getD m default ∈ t :: l := by rw [List.getD_eq_getElem?_getD, List.getElem?_eq_getElem hm]; exact List.getElem_mem hm
  have b := h2 _ hmem
  rw [keysL_get hm] at a ⊢
  rw [cmpK_anti] at b
  exact cmpK_eq (keyS_ok (hA _ h1)) (keyS_ok (hA _ hmem)) (by omega)
theorem fold_same {t : SState} {l m : List SState} (h : ∀ x, x ∈ m ↔ x ∈ l) (hA : AllS (t :: l)) (hN : AllNear (t :: l)) : keyS (foldS t m 0).1 = keyS (foldS t l 0).1 := by
  have hm : ∀ x, x ∈ t :: m ↔ x ∈ t :: l := fun x => by simp only [List.mem_cons, h]
  obtain ⟨h1, h2⟩ := foldS_max l t 0 hA hN
  obtain ⟨h3, h4⟩ := foldS_max m t 0 (fun x hx => hA x ((hm x).1 hx)) (fun x hx y hy => hN x ((hm x).1 hx) y ((hm y).1 hy))
  have a := h2 _ ((hm _).1 h3); have b := h4 _ ((hm _).2 h1)
  rw [cmpK_anti] at b
  exact cmpK_eq (keyS_ok (hA _ ((hm _).1 h3))) (keyS_ok (hA _ h1)) (by omega)
/-- Two change places. -/
def swapL (l : List SState) (i k : Nat) : List SState := (l.set i (l.getD k default)).set k (l.getD i default)
theorem swap_len (l : List SState) (i k : Nat) : (swapL l i k).length = l.length := by rw [swapL, List.length_set, List.length_set]
theorem swap_mem {l : List SState} {i k : Nat} (hi : i < l.length) (hk : k < l.length) (x : SState) : x ∈ swapL l i k ↔ x ∈ l := by
  have g : ∀ j, j < l.length → (swapL l i k).getD j default = if j = k then l.getD i default else if j = i then l.getD k default else l.getD j default := fun j hj => by
    unfold swapL
    by_cases h1 : j = k
    · subst h1; rw [if_pos rfl, List.getD_eq_getElem?_getD, List.getElem?_set_self (by rw [List.length_set]; exact hj)]; rfl
    · rw [if_neg h1, List.getD_eq_getElem?_getD, List.getElem?_set_ne (by omega)]
      by_cases h2 : j = i
      · subst h2; rw [if_pos rfl, List.getElem?_set_self hj]; rfl
      · rw [if_neg h2, List.getElem?_set_ne (by omega), List.getD_eq_getElem?_getD]
  have mg : ∀ (m : List SState) (y : SState), y ∈ m ↔ ∃ j, j < m.length ∧ m.getD j default = y := fun m y => ⟨fun h => by
      obtain ⟨j, hj, e⟩ := List.mem_iff_getElem.1 h
      exact ⟨j, hj, by rw [List.getD_eq_getElem?_getD, List.getElem?_eq_getElem hj]; exact e⟩, fun ⟨j, hj, e⟩ => by
      rw [List.getD_eq_getElem?_getD, List.getElem?_eq_getElem hj] at e
      rw [← e]; exact List.getElem_mem hj⟩
  rw [mg, mg, swap_len]
  constructor
  · rintro ⟨j, hj, e⟩
    rw [g j hj] at e
    by_cases h1 : j = k
    · rw [if_pos h1] at e; exact ⟨i, hi, e⟩
    · rw [if_neg h1] at e
      by_cases h2 : j = i
      · rw [if_pos h2] at e; exact ⟨k, hk, e⟩
      · rw [if_neg h2] at e; exact ⟨j, hj, e⟩
  · rintro ⟨j, hj, e⟩
    by_cases h1 : j = i
    · subst h1; exact ⟨k, hk, by rw [g k hk, if_pos rfl]; exact e⟩
    · by_cases h2 : j = k
      · subst h2
        by_cases h3 : i = j
        · omega
        · exact ⟨i, hi, by rw [g i hi, if_neg h3, if_pos rfl]; exact e⟩
      · exact ⟨j, hj, by rw [g j hj, if_neg h2, if_neg h1]; exact e⟩
theorem allS_cons {t : SState} {l : List SState} (ht : t.Ok) (hl : AllS l) : AllS (t :: l) := fun x hx => (List.mem_cons.1 hx).elim (fun e => e ▸ ht) (hl x)
theorem swap_all {l : List SState} (h : AllS l) {i k : Nat} (hi : i < l.length) (hk : k < l.length) : AllS (swapL l i k) := fun x hx => h x ((swap_mem hi hk x).1 hx)
theorem swap_rt {l : List SState} (h : AllRt l) {i k : Nat} (hi : i < l.length) (hk : k < l.length) : AllRt (swapL l i k) := fun x hx => h x ((swap_mem hi hk x).1 hx)
theorem keysL_snoc {l : List SState} {n : Nat} (h : n < l.length) : keysL (l.take n) ++ [keyS (l.getD n default)] = keysL (l.take (n + 1)) := by
  rw [take_snocD h, keysL, keysL, List.map_append]; rfl
theorem keysL_take_len {l : List SState} {n : Nat} (h : n ≤ l.length) : (keysL (l.take n)).length = n := by
  rw [keysL_len, List.length_take]; omega
end Go.Alm

/- A row's element is written whole. -/
namespace Go.Alm
open Go Go.RowKit
theorem spl_take {c : Array Value} {j m : Nat} {vs : Array Value} (h : j + vs.size ≤ m) (hm : m ≤ c.size) : (spl c j vs).toList.take m = (c.toList.take m).take j ++ vs.toList ++ (c.toList.take m).drop (j + vs.size) := by
  simp only [spl]
  have h1 : (c.toList.take j).length = j := by rw [List.length_take, Array.length_toList]; omega
  rw [List.take_take, Nat.min_eq_left (show j ≤ m by omega), List.drop_take, List.take_append, List.take_of_length_le (l := c.toList.take j ++ vs.toList) (by simp; omega)]
  congr 1
  rw [List.length_append, h1, Array.length_toList]
theorem Row.put {w w' : World} {e sz n cap j : Nat} {ao : Option Addr} {xs xs' : List Value} {vs : Array Value} {g : Nat} {cur : Array Value} (hj : j + vs.size ≤ xs.length) (hx : xs.take j ++ vs.toList ++ xs.drop (j + vs.size) = xs')
    (hao : ao = some ⟨g, 0, none⟩) (hg : w.heap[g]? = some (.cells cur e (0, 0))) (hl : xs.length = n * sz) (hn : n ≤ cap) (hcm : cap ≤ maxLen) (hs : cur.size = cap * sz) (ht : cur.toList.take (n * sz) = xs) (hb : w'.heap[g]? = some (.cells (spl cur j vs) e (0, 0))) : Row w' e sz (.slice ao n cap) n xs' := by
  subst hao
  have hm : n * sz ≤ cur.size := by rw [hs]; exact Nat.mul_le_mul_right _ hn
  refine Row.made' hb (by rw [size_spl (by omega)]; exact hs) hcm hn ?_
  rw [spl_take (by omega) hm, ht]; exact hx
theorem cutA_0 (ao : Option Addr) (m sz : Nat) : cutA ao 0 m sz = ao := by
  unfold cutA
  split
  · rfl
  · rw [Nat.zero_mul]; cases ao <;> rfl
section
variable {P : Program} {Q : Exit → Act → World → Prop} {L : List Iv} {s : St} {RO FZ OW : List Rc}
/-- A slice's beginning. -/
theorem m_slc0 (n sz N c h m : Nat) (ao : Option Addr) (hb : h ≤ m ∧ m ≤ c) (k : J P Q L (nx (go P n s) (.slice ao h m)) RO FZ OW)
    (h1 : (go P n s).a.eval (slOp (go P n s)).2.1 = .slice ao N c := by kernel_rfl) (hlo : boundOf (slB (go P n s) (slOp (go P n s)).2.2.1) 0 = some ((0 : Nat) : Int) := by kernel_rfl)
    (hhi : boundOf (slB (go P n s) (slOp (go P n s)).2.2.2.1) N = some (h : Int) := by kernel_rfl) (hmx : boundOf (slB (go P n s) (slOp (go P n s)).2.2.2.2) c = some (m : Int) := by kernel_rfl)
    (hc : ((sliceOf (cur (go P n s)).op).isSome && isSl P (slOp (go P n s)).1 && (elemSz P (slOp (go P n s)).1 == some sz) && !(hasB (slB (go P n s) (slOp (go P n s)).2.2.2.2) && !hasB (slB (go P n s) (slOp (go P n s)).2.2.2.1)) && onW (go P n s)) = true := by kernel_rfl) : J P Q L s RO FZ OW := by
  refine m_slc n sz N c 0 h m h m ao ⟨Nat.zero_le _, hb.1, hb.2⟩ rfl rfl ?_ h1 hlo hhi hmx hc
  rw [cutA_0]; exact k
/-- A row's element is written whole. -/
theorem m_stR (n i e sz j N cap : Nat) (ao : Option Addr) (xs xs' : List Value) (vs : Array Value) (hsz : vs.size = sz) (hp : 0 < sz) (hv : vs.toList.all (·.oneCell') = true) (hj : j + sz ≤ xs.length) (hx : xs.take j ++ vs.toList ++ xs.drop (j + sz) = xs')
    (k : J P Q L (nx (go P n s) undef) RO FZ (OW.set i (.row e sz ao N cap xs')))
    (h1 : (go P n s).a.eval (stX (go P n s)) = .pointer (some ((oad ao).add j)) := by kernel_rfl) (hy : (stY (go P n s)).cells = vs := by kernel_rfl) (hr : gr OW i = .row e sz ao N cap xs := by kernel_rfl)
    (hc : ((storeOf (cur (go P n s)).op).isSome && Nat.blt i OW.length && (sizeT P (stT (go P n s)) == some sz) && (acts (go P n s) && onW (go P n s))) = true := by kernel_rfl) : J P Q L s RO FZ OW := by
  simp only [Bool.and_eq_true, beq_iff_eq] at hc
  obtain ⟨⟨⟨h4, h5⟩, h6⟩, h8⟩ := hc
  have hlt : i < OW.length := by simpa using h5
  have hi : OW[i]? = some (.row e sz ao N cap xs) := by
    have := hr
    unfold gr at this
    rw [List.getD_eq_getElem?_getD, List.getElem?_eq_getElem hlt, Option.getD_some] at this
    rw [List.getElem?_eq_getElem hlt, this]
  refine m_act n (fun w hw _ => ?_) (by rw [Bool.and_eq_true]; exact h8)
  have hA : (Rc.row e sz ao N cap xs).A w := hw.a _ (by simp only [List.mem_append]; exact .inr (.inr (List.mem_of_getElem? hi)))
  have hA : Row w e sz (.slice ao N cap) N xs := hA
  have hl : xs.length = N * sz := hA.1
  have hpos : 0 < xs.length := by omega
  obtain ⟨g, cap', cur', hv', _, h2, h3, h3', h4', h5'⟩ : ∃ (g cap' : Nat) (cur' : Array Value), (Value.slice ao N cap) = .slice (some ⟨g, 0, none⟩) N cap' ∧ 0 ≤ g ∧ w.heap[g]? = some (.cells cur' e (0, 0)) ∧ N ≤ cap' ∧ cap' ≤ maxLen ∧ cur'.size = cap' * sz ∧ cur'.toList.take (N * sz) = xs := by
    rcases hA.2 with ⟨_, h0⟩ | h
    · exfalso; rw [hl, h0, Nat.zero_mul] at hpos; omega
    · exact h
  simp only [Value.slice.injEq, true_and] at hv'
  obtain ⟨hao, rfl⟩ := hv'
  have ho : storeOf (cur (go P n s)).op = some (stT (go P n s), stX (go P n s), ((storeOf (cur (go P n s)).op).getD (0, .tmp 0, .tmp 0)).2.2) := by
    unfold stT stX
    cases hl : storeOf (cur (go P n s)).op with
    | none => rw [hl] at h4; cases h4
    | some x => rfl
  have hx1 : (go P n s).a.eval (stX (go P n s)) = .pointer (some ⟨g, j, none⟩) := by
    rw [h1, hao]; simp [oad, Addr.add] <;> omega
  have hsz2 : N * sz ≤ cur'.size := by rw [h4']; exact Nat.mul_le_mul_right _ h3
  refine op_store _ _ _ g j (stY (go P n s)) cur' e _ ho hx1 rfl h2 (by rw [hy, hsz]; exact h6) (Nat.ble_eq_true_of_le (by rw [hy]; omega)) (by rw [hy]; exact hv) (by rw [hy]) fun w' hb hz F => ⟨_, _, rfl, Hs.set (r' := .row e sz ao N cap xs') hw hi (by
    show Fr w w' (Own (.slice ao N cap))
    have : One g = Own (.slice ao N cap) := by rw [hao]; funext k; simp [One, Own, Value.ownBlock, eq_comm]
    rw [← this]; exact F) (Row.put (by omega) (by rw [hsz]; exact hx) hao h2 hl h3 h3' h4' h5' hb) ?_, k⟩
  exact New.refl _ _
end
theorem RL_set {X : Type} {f : X → Array Value} {sz : Nat} (hs : ∀ x, (f x).size = sz) : ∀ (l : List X) (k : Nat) (x : X), k < l.length → (RL f l).take (k * sz) ++ (f x).toList ++ (RL f l).drop (k * sz + sz) = RL f (l.set k x)
  | [], _, _, h => by cases h
  | y :: l, 0, x, _ => by
    have h0 : (f y).toList.length = sz := by simp [hs]
    simp only [Nat.zero_mul, List.take_zero, List.nil_append, Nat.zero_add, RL, List.set_cons_zero]
    rw [← h0, List.drop_left]
  | y :: l, k + 1, x, h => by
    have h0 : (f y).toList.length = sz := by simp [hs]
    have ih := RL_set hs l k x (by simpa using h)
    simp only [RL, List.set_cons_succ]
    rw [show (k + 1) * sz = (f y).toList.length + k * sz by rw [h0, Nat.succ_mul, Nat.add_comm], List.take_length_add_append, Nat.add_assoc, List.drop_length_add_append, ← ih]
    simp only [List.append_assoc]
section
variable {P : Program} {Q : Exit → Act → World → Prop} {L : List Iv} {s : St} {RO FZ OW : List Rc}
/-- A record of a row is written. -/
theorem m_stRL {X : Type} (n i e sz N cap : Nat) (ao : Option Addr) (f : X → Array Value) (l : List X) (k : Nat) (x : X) (hs : ∀ x, (f x).size = sz) (hp : 0 < sz) (hv : (f x).toList.all (·.oneCell') = true) (hk : k < l.length)
    (kk : J P Q L (nx (go P n s) undef) RO FZ (OW.set i (.row e sz ao N cap (RL f (l.set k x)))))
    (h1 : (go P n s).a.eval (stX (go P n s)) = .pointer (some ((oad ao).add (k * sz))) := by kernel_rfl) (hy : (stY (go P n s)).cells = f x := by kernel_rfl) (hr : gr OW i = .row e sz ao N cap (RL f l) := by kernel_rfl)
    (hc : ((storeOf (cur (go P n s)).op).isSome && Nat.blt i OW.length && (sizeT P (stT (go P n s)) == some sz) && (acts (go P n s) && onW (go P n s))) = true := by kernel_rfl) : J P Q L s RO FZ OW :=
  m_stR n i e sz (k * sz) N cap ao (RL f l) (RL f (l.set k x)) (f x) (hs x) hp hv (by
    rw [RL_length hs, ← Nat.succ_mul]; exact Nat.mul_le_mul_right _ hk) (RL_set hs l k x hk) kk h1 hy hr hc
end
end Go.Alm

/- Strings: out of bytes, as bytes, and walked rune by rune as long as these are of one byte. -/
namespace Go.Alm
open Go Go.RowKit
def toStr (l : List Nat) : ByteArray := ⟨(l.map UInt8.ofNat).toArray⟩
theorem sB_toStr {l : List Nat} (h : Byt l) : sB (toStr l) = l := by
  unfold sB toStr
  rw [List.map_map]
  have : l.map (UInt8.toNat ∘ UInt8.ofNat) = l.map id := List.map_congr_left fun x hx => by
    have := h x hx
    simp only [Function.comp, id, UInt8.toNat_ofNat']
    omega
  rw [this, List.map_id]
theorem toStr_sB (s : ByteArray) : toStr (sB s) = s := sB_inj (sB_toStr (sB_byt s))
theorem toStr_size (l : List Nat) : (toStr l).size = l.length := by show (List.map UInt8.ofNat l).toArray.size = l.length; simp
theorem foldl_push_nat : ∀ (l : List Nat) (r : ByteArray), (l.map (fun (b : Nat) => (b : Int))).foldl (fun r n => r.push (UInt8.ofNat n.toNat)) r = ⟨r.data ++ (l.map UInt8.ofNat).toArray⟩
  | [], r => by simp
  | b :: l, r => by
    simp only [List.map_cons, List.foldl_cons]
    rw [foldl_push_nat l]
    simp [ByteArray.push]
section
variable {P : Program} {Q : Exit → Act → World → Prop} {a : Act} {w : World} {o : Oper} {K : Act → World → Prop}
def convOf : Op → Option (Nat × Nat × Operand)
  | .convert s d x => some (s, d, x)
  | _ => none
theorem run_bytes_str (src dst e : Nat) (x : Operand) (ao : Option Addr) (n c : Nat) (l : List Nat) (ho : convOf o.op = some (src, dst, x)) (hs : P.underlying src = some (.slice e)) (he : P.underlying e = some (.int .u8)) (hd : P.underlying dst = some .string)
    (hx : a.eval x = .slice ao n c) (hR : Rd w ao (B l)) (hl : l.length = n) : (execOp a.eval o).run P w = .ok (.value (.string (toStr l))) w := by
  subst hl
  have hc : (convert src dst (.slice ao l.length c)).run P w = .ok (.string (toStr l)) w := by
    rw [run_convert_bytes_string w src dst e ao l.length c hs he hd]
    cases ao with
    | none =>
      have : l = [] := by
        cases l with
        | nil => rfl
        | cons b r => obtain ⟨_, h, _⟩ := hR 0 (.int .u8 (b : Int)) rfl; cases h
      subst this
      rfl
    | some ad =>
      have hcells : (loadCells ad l.length).run P w = .ok ((l.map (fun (b : Nat) => (b : Int))).map (Value.int .u8)).toArray w := by
        have h := run_loadCells_list (P := P) (w := w) ad (B l) (fun j v hj => by
          obtain ⟨ad', ha, hcell⟩ := hR j v hj
          cases ha
          exact hcell)
        rw [B_length] at h
        rw [h]
        simp [B]
      rw [run_bytesToString w ad l.length c _ hcells, foldl_push_nat]
      simp [toStr, ByteArray.empty, ByteArray.emptyWithCapacity]
      rfl
  unfold convOf at ho
  split at ho
  · rename_i s' d' x' hop
    simp only [Option.some.injEq, Prod.mk.injEq] at ho
    obtain ⟨rfl, rfl, rfl⟩ := ho
    unfold execOp
    simp only [hop, hx, Sem.run_bind, hc, Result.andThen_ok, Sem.run_pure]
  · cases ho
theorem op_str_bytes (src dst e : Nat) (x : Operand) (s : ByteArray) (ho : convOf o.op = some (src, dst, x)) (hs : P.underlying src = some .string) (hd : P.underlying dst = some (.slice e)) (he : P.underlying e = some (.int .u8)) (hx : a.eval x = .string s)
    (k : ∀ w' b n, Rd w' (some ⟨b, 0, none⟩) (B (sB s)) → b = w.heap.size → Fr w w' N0 → In w' (One b) → (sB s).length ≤ n → K (a.put o.dst (.slice (some ⟨b, 0, none⟩) (sB s).length n)) w') : OpW P o a w K Q := by
  rw [sB_length] at k
  unfold convOf at ho
  split at ho
  · rename_i s' d' x' hop
    simp only [Option.some.injEq, Prod.mk.injEq] at ho
    obtain ⟨rfl, rfl, rfl⟩ := ho
    have hr := run_bytes_of_string (P := P) w s' d' e s hs hd he
    obtain ⟨ob, hob⟩ : ∃ ob, ob = Obj.cells (bytesRow s (grownCap w s.size 0 e)) e ((bytesRow s (grownCap w s.size 0 e)).size, (bytesRow s (grownCap w s.size 0 e)).size + 1) := ⟨_, rfl⟩
    rw [← hob] at hr
    refine op_run _ (w.drew.alloc ob) (by unfold execOp; simp only [hop, hx, Sem.run_bind, hr, Result.andThen_ok, Sem.run_pure]) (k _ w.heap.size _ ?_ rfl (Fr.of_drew (Fr.alloc1 w.drew ob)) ?_ (grownCap_ge w s.size 0 e))
    · have hb := heap_alloc_new w.drew ob
      rw [hob] at hb
      rw [hob]
      refine Rd.of_cut hb 0 s.size ?_
      rw [List.drop_zero, bytesRow, Array.toList_append, List.take_left' (by rw [Array.length_toList, Array.size_map]; rfl)]
      rw [← sB_cells]
      simp [byteCells]
    · intro j hj
      rw [hj]
      show w.heap.size < (w.heap.push _).size
      simp
  · cases ho
/-! ### walking a string -/
def nextOf : Op → Option (Operand × Bool)
  | .next x b => some (x, b)
  | _ => none
theorem get!_sB {s : ByteArray} {k : Nat} (h : k < s.size) : (s.get! k).toNat = (sB s).getD k 0 := by
  have hk' : k < s.data.size := h
  have hk2 : k < s.data.toList.length := by simpa using hk'
  unfold sB
  rw [List.getD_eq_getElem?_getD, List.getElem?_map, List.getElem?_eq_getElem hk2]
  unfold ByteArray.get!
  simp [hk']
  rw [getElem!_pos s.data k hk']
theorem dec_low {s : ByteArray} {k : Nat} (h : k < s.size) (hb : (sB s).getD k 0 < 128) : Utf8.decode s k = ((sB s).getD k 0, 1) := by
  unfold Utf8.decode
  simp only [Nat.add_zero, get!_sB h]
  rw [if_pos (by omega)]
theorem dec_high {s : ByteArray} {k : Nat} (h : k < s.size) (hb : ¬ (sB s).getD k 0 < 128) : 128 ≤ (Utf8.decode s k).1 := by
  unfold Utf8.decode
  simp only [Nat.add_zero, get!_sB h]
  rw [if_neg (by omega)]
  unfold Utf8.runeError
  repeat' split
  all_goals first | omega | (simp_all; omega)
theorem op_next (x : Operand) (b pos : Nat) (s : ByteArray) (ho : nextOf o.op = some (x, true)) (hx : a.eval x = .pointer (some ⟨b, 0, none⟩)) (hb : w.heap[b]? = some (.stringIter s pos)) (hp : pos < s.size)
    (k : ∀ w', w'.heap[b]? = some (.stringIter s (pos + (Utf8.decode s pos).2)) → w'.heap.size = w.heap.size → Fr w w' (One b) → K (a.put o.dst (.tuple #[.bool true, .int .i64 (pos : Int), .int .i32 ((Utf8.decode s pos).1 : Int)])) w') : OpW P o a w K Q := by
  unfold nextOf at ho
  split at ho
  · rename_i x' b' hop
    simp only [Option.some.injEq, Prod.mk.injEq] at ho
    obtain ⟨rfl, rfl⟩ := ho
    have hlt := lt_of_get hb
    refine op_run _ { w with heap := w.heap.setIfInBounds b (.stringIter s (pos + (Utf8.decode s pos).2)) } ?_ (k _ (by simp [hlt]) (by simp) ⟨rfl, rfl, rfl, by simp, fun j _ hj => ?_⟩)
    · unfold execOp
      simp only [hop, hx, Instr.next, Sem.run_bind, getObj, Sem.run, hb, Result.andThen_ok, if_pos hp, setObj, hlt, if_true]
      rfl
    · have : b ≠ j := fun e => hj e.symm
      simp [this]
  · cases ho
theorem run_over (x : Operand) (b pos : Nat) (s : ByteArray) (ho : nextOf o.op = some (x, true)) (hx : a.eval x = .pointer (some ⟨b, 0, none⟩)) (hb : w.heap[b]? = some (.stringIter s pos)) (hp : ¬ pos < s.size) : (execOp a.eval o).run P w = .ok (.value (.tuple #[.bool false])) w := by
  unfold nextOf at ho
  split at ho
  · rename_i x' b' hop
    simp only [Option.some.injEq, Prod.mk.injEq] at ho
    obtain ⟨rfl, rfl⟩ := ho
    unfold execOp
    simp only [hop, hx, Instr.next, Sem.run_bind, getObj, Sem.run, hb, Result.andThen_ok, if_neg hp, Sem.run_pure]
  · cases ho
end
end Go.Alm

/- Layer 14, plainly: which names are right; an account's bytes; what is read of bytes. -/
namespace Go.Alm
open Go Go.RowKit
def ltr (b : Nat) : Bool := Nat.ble 97 b && Nat.ble b 122
def rightS (s : ByteArray) : Bool := decide (0 < s.size) && decide (s.size ≤ 8) && (sB s).all ltr
theorem ltr_iff {b : Nat} : ltr b = true ↔ 97 ≤ b ∧ b ≤ 122 := by simp [ltr]
theorem all_step {l : List Nat} {k : Nat} (h : (l.take k).all ltr = true) (hk : k < l.length) (hb : 97 ≤ l.getD k 0 ∧ l.getD k 0 ≤ 122) : (l.take (k + 1)).all ltr = true := by
  rw [take_snoc l k hk, List.all_append, h]
  simp only [List.all_cons, List.all_nil, Bool.and_true, Bool.true_and]
  exact ltr_iff.2 hb
theorem right_no {s : ByteArray} {k : Nat} (hk : k < s.size) (hb : ¬ (97 ≤ (sB s).getD k 0 ∧ (sB s).getD k 0 ≤ 122)) : rightS s = false := by
  have : (sB s).all ltr = false := by
    cases h : (sB s).all ltr with
    | false => rfl
    | true =>
      have hk' : k < (sB s).length := by rw [sB_length]; exact hk
      have h1 := List.all_eq_true.1 h ((sB s)[k]) (List.getElem_mem hk')
      have e : (sB s).getD k 0 = (sB s)[k] := by simp [hk']
      rw [e] at hb
      exact absurd (ltr_iff.1 h1) hb
  unfold rightS
  rw [this, Bool.and_false]
theorem right_size {s : ByteArray} (h : ¬ (0 < s.size ∧ s.size ≤ 8)) : rightS s = false := by
  unfold rightS
  rcases Nat.lt_or_ge 0 s.size with h1 | h1
  · rw [decide_eq_false (show ¬ s.size ≤ 8 from fun h2 => h ⟨h1, h2⟩)]; simp
  · rw [decide_eq_false (show ¬ 0 < s.size by omega)]; simp
theorem right_yes {s : ByteArray} {k : Nat} (h : ((sB s).take k).all ltr = true) (hk : s.size ≤ k) (h1 : 0 < s.size) (h2 : s.size ≤ 8) : rightS s = true := by
  rw [List.take_of_length_le (by rw [sB_length]; exact hk)] at h
  unfold rightS
  rw [h, decide_eq_true h1, decide_eq_true h2]; rfl
theorem right_spec {s : ByteArray} (h : rightS s = true) : 0 < s.size ∧ s.size ≤ 8 ∧ (sB s).all ltr = true := by
  unfold rightS at h
  simp only [Bool.and_eq_true, decide_eq_true_eq] at h
  exact ⟨h.1.1, h.1.2, h.2⟩
theorem empty_size {s : ByteArray} (h : s ≠ (⟨#[]⟩ : ByteArray)) : 0 < s.size := by
  rcases Nat.eq_zero_or_pos s.size with h0 | h0
  · exfalso
    apply h
    have : s.data.size = 0 := h0
    have h2 : s.data = #[] := Array.eq_empty_of_size_eq_zero this
    cases s
    simp_all
  · exact h0
theorem empty_eq {s : ByteArray} (h : s = (⟨#[]⟩ : ByteArray)) : s.size = 0 := by subst h; rfl
section
variable {P : Program} {Q : Exit → Act → World → Prop} {a : Act} {w : World} {o : Oper} {K : Act → World → Prop}
theorem op_next_low (x : Operand) (b pos : Nat) (s : ByteArray) (ho : nextOf o.op = some (x, true)) (hx : a.eval x = .pointer (some ⟨b, 0, none⟩)) (hb : w.heap[b]? = some (.stringIter s pos)) (hp : pos < s.size) (hl : (sB s).getD pos 0 < 128)
    (k : ∀ w', w'.heap[b]? = some (.stringIter s (pos + 1)) → w'.heap.size = w.heap.size → Fr w w' (One b) → K (a.put o.dst (.tuple #[.bool true, .int .i64 (pos : Int), .int .i32 (((sB s).getD pos 0 : Nat) : Int)])) w') : OpW P o a w K Q := by
  refine op_next x b pos s ho hx hb hp ?_
  rw [dec_low hp hl]
  exact k
theorem op_next_high (x : Operand) (b pos : Nat) (s : ByteArray) (ho : nextOf o.op = some (x, true)) (hx : a.eval x = .pointer (some ⟨b, 0, none⟩)) (hb : w.heap[b]? = some (.stringIter s pos)) (hp : pos < s.size) (hl : ¬ (sB s).getD pos 0 < 128)
    (k : ∀ w' c p, 128 ≤ c → w'.heap[b]? = some (.stringIter s p) → w'.heap.size = w.heap.size → Fr w w' (One b) → K (a.put o.dst (.tuple #[.bool true, .int .i64 (pos : Int), .int .i32 ((c : Nat) : Int)])) w') : OpW P o a w K Q :=
  op_next x b pos s ho hx hb hp fun w' h1 h2 h3 => k w' _ _ (dec_high hp hl) h1 h2 h3
end
/-- An account's bytes. -/
def accL (s : ByteArray) (bal non : Nat) : List Nat := textW (sB s) ++ putB bal 8 8 ++ putB non 4 4
def accB (s : ByteArray) (bal non : Nat) : List Nat := if rightS s = true then accL s bal non else []
def accE (s : ByteArray) : Nat := if rightS s = true then 0 else 1
theorem accL_len {s : ByteArray} {bal non : Nat} : (accL s bal non).length ≤ 300 := by
  unfold accL
  rw [List.length_append, List.length_append, putB_length, putB_length]
  have : (textW (sB s)).length ≤ 256 := by
    unfold textW; split
    · rw [List.length_append, putB_length]; omega
    · simp
  omega
theorem accB_len {s : ByteArray} {bal non : Nat} : (accB s bal non).length ≤ 300 := by
  unfold accB; split
  · exact accL_len
  · simp
end Go.Alm

namespace Go.Alm
open Go Go.RowKit
/-- How far a walk over a string is from its end. -/
def itPos (b : Nat) (w : World) : Nat := match w.heap[b]? with | some (.stringIter s p) => s.size - p | _ => 0
theorem itPos_lt {b p p' : Nat} {s : ByteArray} {w w' : World} (h : w.heap[b]? = some (.stringIter s p)) (h' : w'.heap[b]? = some (.stringIter s p')) (h1 : p < p') (h2 : p < s.size) : itPos b w' < itPos b w := by
  unfold itPos; rw [h, h']; simp only; omega
end Go.Alm

namespace Go.Alm
open Go Go.RowKit
theorem accB_yes {s : ByteArray} {bal non : Nat} (h : rightS s = true) : accB s bal non = accL s bal non := if_pos h
theorem accB_no {s : ByteArray} {bal non : Nat} (h : rightS s = false) : accB s bal non = [] := if_neg (by rw [h]; decide)
theorem accE_yes {s : ByteArray} (h : rightS s = true) : accE s = 0 := if_pos h
theorem accE_no {s : ByteArray} (h : rightS s = false) : accE s = 1 := if_neg (by rw [h]; decide)
theorem accE_ne {s : ByteArray} (h : ((accE s : Nat) : Int) ≠ 0) : rightS s = false := by
  cases hr : rightS s with
  | false => rfl
  | true => rw [accE_yes hr] at h; exact absurd rfl h
theorem accE_eq {s : ByteArray} (h : ((accE s : Nat) : Int) = 0) : rightS s = true := by
  cases hr : rightS s with
  | true => rfl
  | false => rw [accE_no hr] at h; simp at h
theorem accL_ref {s : ByteArray} {bal non : Nat} (h : rightS s = true) : [s.size] ++ sB s ++ putB bal 8 8 ++ putB non 4 4 = accL s bal non := by
  have h2 := right_spec h
  unfold accL textW
  rw [if_pos (by rw [sB_length]; omega), putB_one (by rw [sB_length]; omega), sB_length]
theorem accL_byt (s : ByteArray) (bal non : Nat) : Byt (accL s bal non) := by
  have hp : ∀ n k j, Byt (putB n k j) := fun n k j x hx => by
    unfold Go.Alm.putB at hx
    obtain ⟨i, _, rfl⟩ := List.mem_map.1 hx
    exact Nat.mod_lt _ (by decide)
  unfold accL
  refine (Byt.cat ?_ (hp _ _ _)).cat (hp _ _ _)
  unfold textW
  split
  · exact (hp _ _ _).cat (sB_byt s)
  · exact Byt.nil
theorem accB_byt (s : ByteArray) (bal non : Nat) : Byt (accB s bal non) := by
  unfold accB; split
  · exact accL_byt s bal non
  · exact Byt.nil
def accS : ByteArray := ⟨#[97, 99, 99, 111, 117, 110, 116]⟩
def accH (s : ByteArray) (bal non : Nat) : List Nat := if rightS s = true then tag1 (sB accS) (accB s bal non) else List.replicate 32 0
theorem accH_length (s : ByteArray) (bal non : Nat) : (accH s bal non).length = 32 := by
  unfold accH; split
  · exact tagL_length _ _
  · simp
theorem accH_byt (s : ByteArray) (bal non : Nat) : Byt (accH s bal non) := by
  unfold accH; split
  · exact tagL_byt _ _
  · intro x hx; have := List.eq_of_mem_replicate hx; omega
end Go.Alm

namespace Go.Alm
open Go Go.RowKit
theorem accH_yes {s : ByteArray} {bal non : Nat} (h : rightS s = true) : accH s bal non = tag1 (sB accS) (accB s bal non) := if_pos h
theorem accH_no {s : ByteArray} {bal non : Nat} (h : rightS s = false) : accH s bal non = List.replicate 32 0 := if_neg (by rw [h]; decide)
def empS : ByteArray := ⟨#[101, 109, 112, 116, 121]⟩
def accNone : List Nat := tagL (sB empS) []
theorem accNone_length : accNone.length = 32 := tagL_length _ _
theorem accNone_byt : Byt accNone := tagL_byt _ _
/-- An account. -/
structure Acct where
  s : ByteArray
  bal : Nat
  non : Nat
structure Acct.Ok (a : Acct) : Prop where
  s : a.s.size ≤ maxLen
  bal : a.bal < 18446744073709551616
  non : a.non < 4294967296
def Acct.cells (a : Acct) : Array Value := #[.string a.s, .int .u64 (a.bal : Int), .int .u32 (a.non : Int)]
def acct0 : Acct := ⟨⟨#[]⟩, 0, 0⟩
/-- What is read of bytes. -/
abbrev accQ1 (l : List Nat) : Rs := (Rs.mk 0 l).textR 8
abbrev accQ2 (l : List Nat) : Rs := ((Rs.mk 0 l).textR 8).take 8
abbrev accQ3 (l : List Nat) : Rs := (((Rs.mk 0 l).textR 8).take 8).take 4
abbrev accN (l : List Nat) : ByteArray := toStr ((Rs.mk 0 l).text 8)
def accF (l : List Nat) : Nat := if (accQ3 l).end = 0 then (if rightS (accN l) = true then 0 else 2) else (accQ3 l).end
def accRd (l : List Nat) : Acct := if accF l = 0 then ⟨accN l, (accQ1 l).num 8, (accQ2 l).num 4⟩ else acct0
theorem accF_a {l : List Nat} (h : (accQ3 l).end = 0) (hr : rightS (accN l) = true) : accF l = 0 ∧ accRd l = ⟨accN l, (accQ1 l).num 8, (accQ2 l).num 4⟩ := by
  have : accF l = 0 := by unfold accF; rw [if_pos h, if_pos hr]
  exact ⟨this, if_pos this⟩
theorem accF_b {l : List Nat} (h : (accQ3 l).end = 0) (hr : rightS (accN l) = false) : accF l = 2 ∧ accRd l = acct0 := by
  have : accF l = 2 := by unfold accF; rw [if_pos h, if_neg (by rw [hr]; decide)]
  exact ⟨this, if_neg (by rw [this]; decide)⟩
theorem accF_c {l : List Nat} (h : (accQ3 l).end ≠ 0) : accF l = (accQ3 l).end ∧ accRd l = acct0 := by
  have : accF l = (accQ3 l).end := by unfold accF; rw [if_neg h]
  exact ⟨this, if_neg (by rw [this]; exact h)⟩
theorem accF_zero {l : List Nat} (h : accF l = 0) : (accQ3 l).end = 0 ∧ rightS (accN l) = true := by
  by_cases h1 : (accQ3 l).end = 0
  · refine ⟨h1, ?_⟩
    cases hr : rightS (accN l) with
    | true => rfl
    | false => rw [(accF_b h1 hr).1] at h; cases h
  · rw [(accF_c h1).1] at h; exact absurd h h1
theorem accRd_ok {l : List Nat} (hB : Byt l) : (accRd l).Ok := by
  unfold accRd
  split
  · have hB1 : Byt (accQ1 l).l := Byt.textR (r := ⟨0, l⟩) hB 8
    refine ⟨?_, ?_, ?_⟩
    · simp only [toStr_size]
      have := text_bound (r := ⟨0, l⟩) (m := 8) hB
      simp only [maxLen]; omega
    · exact Rs.num_lt hB1 (Nat.le_refl 8)
    · exact Rs.num_lt (hB1.rtake 8) (Nat.le_refl 4)
  · exact ⟨by decide, by decide, by decide⟩
theorem Acct.wf {a : Acct} (h : a.Ok) : WfA a.cells := WfA.lit (l := [.string a.s, .int .u64 (a.bal : Int), .int .u32 (a.non : Int)]) ⟨h.s, wf_n64 h.bal, wf_n32 h.non, trivial⟩
theorem Acct.inj {a b : Acct} (h : a.cells = b.cells) : a = b := by
  obtain ⟨s, m, n⟩ := a
  obtain ⟨s', m', n'⟩ := b
  simp only [Acct.cells, Array.mk.injEq, List.cons.injEq, Value.string.injEq, Value.int.injEq, true_and, and_true] at h
  obtain ⟨rfl, h2, h3⟩ := h
  have : m = m' := by omega
  subst this
  have : n = n' := by omega
  subst this
  rfl
theorem Acct.eq_iff {s t : ByteArray} {m n p q : Nat} : (#[Value.string s, .int .u64 (m : Int), .int .u32 (n : Int)] = #[Value.string t, .int .u64 (p : Int), .int .u32 (q : Int)]) ↔ s = t ∧ m = p ∧ n = q := by
  constructor
  · intro h
    have := Acct.inj (a := ⟨s, m, n⟩) (b := ⟨t, p, q⟩) h
    simp only [Acct.mk.injEq] at this
    exact this
  · rintro ⟨rfl, rfl, rfl⟩; rfl
/-! ### there and back -/
theorem sB_right {s : ByteArray} (h : rightS s = true) : (sB s).length ≤ 8 := by rw [sB_length]; exact (right_spec h).2.1
theorem acc_read {s : ByteArray} {bal non : Nat} (h : rightS s = true) (hb : bal < 18446744073709551616) (hn : non < 4294967296) : accF (accB s bal non) = 0 ∧ accRd (accB s bal non) = ⟨s, bal, non⟩ := by
  have hl : accB s bal non = textW (sB s) ++ (putB bal 8 8 ++ putB non 4 4) := by rw [accB_yes h]; unfold accL; rw [List.append_assoc]
  have h1 := textR_appm (b := putB bal 8 8 ++ putB non 4 4) (sB_right h) (by decide : 8 ≤ 255)
  have q1 : accQ1 (accB s bal non) = ⟨0, putB bal 8 8 ++ putB non 4 4⟩ := by unfold accQ1; rw [hl, h1.1]
  have q2 : accQ2 (accB s bal non) = ⟨0, putB non 4 4⟩ := by
    show (accQ1 (accB s bal non)).take 8 = _
    rw [q1, (take_app (putB_length _ _ _)).1]
  have q3 : accQ3 (accB s bal non) = ⟨0, []⟩ := by
    show (accQ2 (accB s bal non)).take 4 = _
    rw [q2, take_app1 (putB_length _ _ _)]
  have n1 : accN (accB s bal non) = s := by unfold accN; rw [hl, h1.2, toStr_sB]
  have he : (accQ3 (accB s bal non)).end = 0 := by rw [q3]; rfl
  have := accF_a he (by rw [n1]; exact h)
  refine ⟨this.1, ?_⟩
  rw [this.2, n1, q1, q2, num_app (by omega), num_app1 (by omega)]
theorem acc_back {l : List Nat} (hB : Byt l) (h : accF l = 0) : rightS (accRd l).s = true ∧ accB (accRd l).s (accRd l).bal (accRd l).non = l := by
  obtain ⟨he, hr⟩ := accF_zero h
  have hd := (accF_a he hr).2
  rw [hd]
  refine ⟨hr, ?_⟩
  have hB1 : Byt (accQ1 l).l := Byt.textR (r := ⟨0, l⟩) hB 8
  obtain ⟨e3, l3⟩ := Rs.end_ok he
  have n3 := Rs.num_ok (hB1.rtake 8) e3
  have e2 := (Rs.take_ok e3).1
  have n2 := Rs.num_ok hB1 e2
  have e1 := (Rs.take_ok e2).1
  obtain ⟨_, t1, t2⟩ := Rs.text_ok (r := ⟨0, l⟩) hB (by decide) e1
  simp only
  rw [accB_yes hr]
  unfold accL
  rw [sB_toStr (Byt.text (r := ⟨0, l⟩) hB 8)]
  unfold textW
  rw [if_pos (by omega)]
  rw [l3, List.append_nil] at n3
  rw [← n3] at n2
  rw [← n2] at t2
  simp only [List.append_assoc] at t2 ⊢
  exact t2
theorem acc_inj {s t : ByteArray} {m n p q : Nat} (h : rightS s = true) (h' : rightS t = true) (hm : m < 18446744073709551616) (hn : n < 4294967296) (hp : p < 18446744073709551616) (hq : q < 4294967296) :
    (s = t ∧ m = p ∧ n = q) ↔ accB s m n = accB t p q := by
  constructor
  · rintro ⟨rfl, rfl, rfl⟩; rfl
  · intro e
    have h1 := (acc_read h hm hn).2
    rw [e, (acc_read h' hp hq).2] at h1
    simp only [Acct.mk.injEq] at h1
    exact ⟨h1.1.symm, h1.2.1.symm, h1.2.2.symm⟩
theorem accL_length {s : ByteArray} {bal non : Nat} (h : rightS s = true) : (accB s bal non).length = s.size + 13 := by
  have := right_spec h
  rw [accB_yes h]
  unfold accL textW
  rw [if_pos (by rw [sB_length]; omega)]
  simp only [List.length_append, putB_length, sB_length]
  omega
theorem acc_short {s : ByteArray} {bal non : Nat} (h : rightS s = true) : accF (((accB s bal non).drop 0).take ((accB s bal non).length - 1)) = 3 := by
  have hl : accB s bal non = textW (sB s) ++ (putB bal 8 8 ++ putB non 4 4) := by rw [accB_yes h]; unfold accL; rw [List.append_assoc]
  have hs := right_spec h
  have hw : (textW (sB s)).length = s.size + 1 := by
    unfold textW
    rw [if_pos (by rw [sB_length]; omega)]
    simp only [List.length_append, putB_length, sB_length]
    omega
  have hc : ((accB s bal non).drop 0).take ((accB s bal non).length - 1) = textW (sB s) ++ (putB bal 8 8 ++ (putB non 4 4).take 3) := by
    rw [accL_length h, List.drop_zero, hl, List.take_append, hw, List.take_of_length_le (by omega), List.take_append, putB_length, List.take_of_length_le (by rw [putB_length]; omega)]
    congr 3
    omega
  rw [hc]
  have h1 := textR_appm (b := putB bal 8 8 ++ (putB non 4 4).take 3) (sB_right h) (by decide : 8 ≤ 255)
  have q3 : accQ3 (textW (sB s) ++ (putB bal 8 8 ++ (putB non 4 4).take 3)) = ⟨3, []⟩ := by
    unfold accQ3
    rw [h1.1, (take_app (putB_length _ _ _)).1, take_cut (by rw [List.length_take, putB_length]; omega)]
  have he : (accQ3 (textW (sB s) ++ (putB bal 8 8 ++ (putB non 4 4).take 3))).end = 3 := by rw [q3]; rfl
  rw [(accF_c (by rw [he]; decide)).1, he]
theorem acc_long {s : ByteArray} {bal non : Nat} (h : rightS s = true) (b : Nat) : accF (accB s bal non ++ [b]) = 4 := by
  have hl : accB s bal non ++ [b] = textW (sB s) ++ (putB bal 8 8 ++ (putB non 4 4 ++ [b])) := by rw [accB_yes h]; unfold accL; simp only [List.append_assoc]
  rw [hl]
  have h1 := textR_appm (b := putB bal 8 8 ++ (putB non 4 4 ++ [b])) (sB_right h) (by decide : 8 ≤ 255)
  have q3 : accQ3 (textW (sB s) ++ (putB bal 8 8 ++ (putB non 4 4 ++ [b]))) = ⟨0, [b]⟩ := by
    unfold accQ3
    rw [h1.1, (take_app (putB_length _ _ _)).1, (take_app (putB_length _ _ _)).1]
  have he : (accQ3 (textW (sB s) ++ (putB bal 8 8 ++ (putB non 4 4 ++ [b])))).end = 4 := by rw [q3]; rfl
  rw [(accF_c (by rw [he]; decide)).1, he]
theorem acc_iff (s : ByteArray) : ((((accE s : Nat) : Int) == 0) == rightS s) = true := by
  unfold accE
  cases rightS s <;> rfl
end Go.Alm

/- Maps by the machine: a map's block as a list of keys and values. -/
namespace Go.Alm
open Go Go.RowKit
structure KT {α : Type} (P : Program) (k : TypeId) (kc : α → Value) (ok : α → Prop) : Prop where
  inj : ∀ a b, ok a → ok b → kc a = kc b → a = b
  check : ∀ (w : World) (em : Bool) a, ok a → (Instr.checkKey em 10000 k (kc a)).run P w = .ok () w
  find : ∀ (w : World) a, ok a → ∀ es : List MapEntry, (∀ e ∈ es, ∃ b, ok b ∧ e.key = kc b) →
    ((Instr.findKey k (kc a) es).run P w = .ok none w ∧ ∀ e ∈ es, e.key ≠ kc a) ∨ ∃ j e, (Instr.findKey k (kc a) es).run P w = .ok (some (j, e.val)) w ∧ es[j]? = some e ∧ e.key = kc a
  stays : ∀ (w : World) a, ok a → (Instr.keyThatStays (kc a) (kc a)).run P w = .ok (kc a) w
/-- Keys of a plain type. -/
theorem KT.plain {α : Type} {P : Program} {k : TypeId} {d : TypeDesc} (hd : P.underlying k = some d) {kc : α → Value} (hk : ∀ a, MapKept.IsKey d (kc a)) (inj : ∀ a b, kc a = kc b → a = b) : KT P k kc (fun _ => True) where
  inj a b _ _ := inj a b
  check w em a _ := MapKept.run_checkKey hd (hk a) em 9999
  find w a _ es hes := by
    rcases MapKept.findNow_spec (hk a) es 0 (fun x hx => by obtain ⟨b, _, e⟩ := hes x hx; rw [e]; exact hk b) with ⟨h1, h2⟩ | ⟨j, e, h1, h2, h3⟩
    · exact .inl ⟨MapKept.run_findKey hd h1, h2⟩
    · exact .inr ⟨j, e, by rw [MapKept.run_findKey hd h1, Nat.zero_add], h2, h3⟩
  stays w a _ := MapKept.run_keyThatStays (hk a)
def intK (n : Int) : Value := .int .i64 n
theorem KT.int {P : Program} {k : TypeId} (hd : P.underlying k = some (.int .i64)) : KT P k intK (fun _ => True) := KT.plain hd (fun _ => rfl) (fun a b h => by simpa [intK] using h)
/-- Keys that are aggregates. -/
theorem KT.agg {α : Type} {P : Program} {k : TypeId} (KL : WideMaps.KeyLaw P k) {kc : α → Value} {ok : α → Prop} (hk : ∀ a, ok a → ∃ l, keyOf P k (kc a) = some l) (inj : ∀ a b, ok a → ok b → kc a = kc b → a = b) : KT P k kc ok where
  inj := inj
  check w em a ha := by obtain ⟨l, hl⟩ := hk a ha; exact KL.check w em hl
  find w a ha es hes := by
    obtain ⟨l, hl⟩ := hk a ha
    exact KL.find w hl es fun e he => by obtain ⟨b, hb, e1⟩ := hes e he; rw [e1]; exact hk b hb
  stays w a ha := by obtain ⟨l, hl⟩ := hk a ha; exact KL.stays w hl

section
variable {α β : Type} [DecidableEq α]
def getM : List (α × β) → α → Option β
  | [], _ => none
  | x :: l, a => if x.1 = a then some x.2 else getM l a
def repM (l : List (α × β)) (a : α) (b : β) : List (α × β) := l.map fun x => if x.1 = a then (a, b) else x
def setM (l : List (α × β)) (a : α) (b : β) : List (α × β) := if (getM l a).isSome then repM l a b else l ++ [(a, b)]
def delM (l : List (α × β)) (a : α) : List (α × β) := l.filter fun x => decide (x.1 ≠ a)
theorem getM_none {l : List (α × β)} {a : α} : getM l a = none ↔ ∀ x ∈ l, x.1 ≠ a := by
  induction l with
  | nil => simp [getM]
  | cons x l ih =>
    unfold getM
    split
    · rename_i h; simp [h]
    · rename_i h; rw [ih]; simp [h]
theorem getM_some {l : List (α × β)} {a : α} {b : β} (h : getM l a = some b) : (a, b) ∈ l := by
  induction l with
  | nil => cases h
  | cons x l ih =>
    unfold getM at h
    split at h
    · rename_i e; cases h; cases x; cases e; exact .head _
    · exact .tail _ (ih h)
theorem getM_set (l : List (α × β)) (a : α) (b : β) (c : α) : getM (setM l a b) c = if a = c then some b else getM l c := by
  have h1 : ∀ m : List (α × β), getM (repM m a b) c = if a = c then (getM m c).map fun _ => b else getM m c := by
    intro m
    induction m with
    | nil => simp [repM, getM]
    | cons x m ih =>
      simp only [repM, List.map_cons] at ih ⊢
      by_cases e : x.1 = a
      · subst e
        rw [if_pos rfl, getM, ih]
        by_cases e2 : x.1 = c
        · subst e2; simp [getM]
        · simp [getM, e2]
      · rw [if_neg e, getM, ih]
        by_cases e2 : a = c
        · subst e2; simp [getM, e]
        · simp [getM, e2]
  have h2 : ∀ m : List (α × β), getM (m ++ [(a, b)]) c = match getM m c with | some d => some d | none => if a = c then some b else none := by
    intro m
    induction m with
    | nil => simp [getM]
    | cons x m ih =>
      simp only [List.cons_append, getM]
      split
      · rfl
      · exact ih
  unfold setM
  cases hq : getM l a with
  | none =>
    rw [if_neg (by simp), h2]
    by_cases e : a = c
    · subst e; rw [hq, if_pos rfl]
    · rw [if_neg e]; cases getM l c <;> simp [e]
  | some d =>
    rw [if_pos (by simp), h1]
    by_cases e : a = c
    · subst e; simp [hq]
    · rw [if_neg e, if_neg e]
theorem getM_del (l : List (α × β)) (a c : α) : getM (delM l a) c = if a = c then none else getM l c := by
  induction l with
  | nil => simp [delM, getM]
  | cons x l ih =>
    simp only [delM, List.filter_cons] at ih ⊢
    by_cases e : x.1 = a
    · rw [if_neg (by simp [e]), ih, getM]
      by_cases e2 : a = c
      · rw [if_pos e2, if_pos e2]
      · rw [if_neg e2, if_neg e2, if_neg (by rw [e]; exact e2)]
    · rw [if_pos (by simp [e]), getM, ih, getM]
      by_cases e2 : a = c
      · subst e2; simp [e]
      · simp [e2]
def keysM (l : List (α × β)) : List α := l.map (·.1)
theorem keysM_rep (l : List (α × β)) (a : α) (b : β) : keysM (repM l a b) = keysM l := by
  unfold keysM repM
  rw [List.map_map]
  refine List.map_congr_left fun x _ => ?_
  show (if x.1 = a then (a, b) else x).1 = x.1
  split
  · rename_i h; exact h.symm
  · rfl
theorem nodup_set {l : List (α × β)} (h : (keysM l).Nodup) (a : α) (b : β) : (keysM (setM l a b)).Nodup := by
  unfold setM
  split
  · rw [keysM_rep]; exact h
  · rename_i hq
    have hn : getM l a = none := by cases hg : getM l a with | none => rfl | some _ => rw [hg] at hq; exact absurd rfl hq
    unfold keysM at h ⊢
    rw [List.map_append, List.nodup_append]
    refine ⟨h, by simp, ?_⟩
    intro x hx y hy e
    simp only [List.map_cons, List.map_nil, List.mem_singleton] at hy
    obtain ⟨z, hz, rfl⟩ := List.mem_map.1 hx
    exact getM_none.1 hn z hz (e.trans hy)
theorem nodup_del {l : List (α × β)} (h : (keysM l).Nodup) (a : α) : (keysM (delM l a)).Nodup := h.sublist (List.Sublist.map _ List.filter_sublist)
end

def kvL {α β : Type} (kc : α → Value) (vc : β → Value) (l : List (α × β)) : List (Value × Value) := l.map fun x => (kc x.1, vc x.2)
structure MapT {α β : Type} (kc : α → Value) (ok : α → Prop) (vc : β → Value) (w : World) (mb : Nat) (l : List (α × β)) : Prop where
  es : ∃ es clock, w.heap[mb]? = some (.map es clock) ∧ es.toList.map (fun e => (e.key, e.val)) = kvL kc vc l ∧ MapKept.Stamped es clock
  ok : ∀ x ∈ l, ok x.1
theorem MapT.keep {α β : Type} {kc : α → Value} {ok : α → Prop} {vc : β → Value} {w w' : World} {mb : Nat} {l : List (α × β)} {S : Nat → Prop} (h : MapT kc ok vc w mb l) (F : Fr w w' S) (d : Dis (One mb) S) : MapT kc ok vc w' mb l := by
  obtain ⟨⟨es, cl, hb, hk, hg⟩, h2⟩ := h
  exact ⟨⟨es, cl, F.keep hb d, hk, hg⟩, h2⟩
theorem MapT.in {α β : Type} {kc : α → Value} {ok : α → Prop} {vc : β → Value} {w : World} {mb : Nat} {l : List (α × β)} (h : MapT kc ok vc w mb l) : In w (One mb) := by
  obtain ⟨⟨es, cl, hb, _, _⟩, _⟩ := h
  exact In.one hb
theorem MapT.nil {α β : Type} (kc : α → Value) (ok : α → Prop) (vc : β → Value) {w : World} {mb : Nat} (h : w.heap[mb]? = some (.map #[] 0)) : MapT kc ok vc w mb [] := ⟨⟨#[], 0, h, rfl, MapKept.stamped_empty 0⟩, fun _ h => (by cases h)⟩
def mapRe {α β : Type} (kc : α → Value) (ok : α → Prop) (vc : β → Value) (mb : Nat) (l : List (α × β)) : Re := ⟨One mb, fun w => MapT kc ok vc w mb l, fun _ h => h.in, fun _ _ _ h F d => h.keep F d⟩
theorem kv_mem {es : List MapEntry} {α β : Type} {kc : α → Value} {vc : β → Value} {l : List (α × β)} (h : es.map (fun e => (e.key, e.val)) = kvL kc vc l) {e : MapEntry} (he : e ∈ es) : ∃ x ∈ l, e.key = kc x.1 ∧ e.val = vc x.2 := by
  have : (e.key, e.val) ∈ kvL kc vc l := h ▸ List.mem_map.2 ⟨e, he, rfl⟩
  obtain ⟨x, hx, e1⟩ := List.mem_map.1 this
  simp only [Prod.mk.injEq] at e1
  exact ⟨x, hx, e1.1.symm, e1.2.symm⟩
theorem kv_mem2 {es : List MapEntry} {α β : Type} {kc : α → Value} {vc : β → Value} {l : List (α × β)} (h : es.map (fun e => (e.key, e.val)) = kvL kc vc l) {x : α × β} (hx : x ∈ l) : ∃ e ∈ es, e.key = kc x.1 ∧ e.val = vc x.2 := by
  have : (kc x.1, vc x.2) ∈ es.map (fun e => (e.key, e.val)) := h ▸ List.mem_map.2 ⟨x, hx, rfl⟩
  obtain ⟨e, he, e1⟩ := List.mem_map.1 this
  simp only [Prod.mk.injEq] at e1
  exact ⟨e, he, e1.1, e1.2⟩
theorem keysM_nodup {es : Array MapEntry} {clock : Nat} {α β : Type} {kc : α → Value} {vc : β → Value} {l : List (α × β)} (h : es.toList.map (fun e => (e.key, e.val)) = kvL kc vc l) (hs : MapKept.Stamped es clock) : (keysM l).Nodup := by
  have h1 : es.toList.map (·.key) = (keysM l).map kc := by
    have := congrArg (List.map Prod.fst) h
    rw [List.map_map] at this
    unfold kvL at this
    rw [List.map_map] at this
    unfold keysM
    rw [List.map_map]
    exact this
  have h2 := hs.2.2
  rw [h1] at h2
  exact (List.pairwise_map.1 h2).imp fun h e => h (by rw [e])
section
variable {α β : Type} [DecidableEq α] {P : Program} {Q : Exit → Act → World → Prop} {a : Act} {w : World} {o : Oper} {K : Act → World → Prop} {kc : α → Value} {ok : α → Prop} {vc : β → Value} {mb : Nat} {l : List (α × β)} {t k e : Nat}
def lookV (cok : Bool) (z : Value) (vc : β → Value) : Option β → Value
  | none => if cok then .tuple #[z, .bool false] else z
  | some b => if cok then .tuple #[vc b, .bool true] else vc b
theorem find_spec (T : KT P k kc ok) (h : MapT kc ok vc w mb l) (x : α) (hx : ok x) : ∃ es clock, w.heap[mb]? = some (.map es clock) ∧ es.toList.map (fun e => (e.key, e.val)) = kvL kc vc l ∧ MapKept.Stamped es clock ∧
    ((getM l x = none ∧ (Instr.findKey k (kc x) es.toList).run P w = .ok none w ∧ ∀ e ∈ es.toList, e.key ≠ kc x) ∨ ∃ b j e, getM l x = some b ∧ (Instr.findKey k (kc x) es.toList).run P w = .ok (some (j, vc b)) w ∧ es[j]? = some e ∧ e.key = kc x ∧ e.val = vc b) := by
  obtain ⟨⟨es, cl, hb, hkv, hs⟩, hok⟩ := h
  refine ⟨es, cl, hb, hkv, hs, ?_⟩
  have hnd := keysM_nodup hkv hs
  rcases T.find w x hx es.toList (fun e he => by obtain ⟨y, hy, h1, _⟩ := kv_mem hkv he; exact ⟨y.1, hok y hy, h1⟩) with ⟨h1, h2⟩ | ⟨j, e, h1, h2, h3⟩
  · refine .inl ⟨getM_none.2 fun y hy he => ?_, h1, h2⟩
    obtain ⟨e, he', e1, _⟩ := kv_mem2 hkv hy
    exact h2 e he' (by rw [e1, he])
  · have hm : e ∈ es.toList := List.mem_of_getElem? h2
    obtain ⟨y, hy, e1, e2⟩ := kv_mem hkv hm
    have hyx : y.1 = x := T.inj _ _ (hok y hy) hx (e1.symm.trans h3)
    refine .inr ⟨y.2, j, e, ?_, by rw [h1, e2], by simpa using h2, h3, e2⟩
    cases hg : getM l x with
    | none => exact absurd hyx (getM_none.1 hg y hy)
    | some b =>
      have hb2 := getM_some hg
      have : y = (x, b) := by
        have hp := List.pairwise_map.1 hnd
        obtain ⟨i, hi, ei⟩ := List.mem_iff_getElem.1 hy
        obtain ⟨i', hi', ei'⟩ := List.mem_iff_getElem.1 hb2
        rcases Nat.lt_trichotomy i i' with hlt | heq | hgt
        · have := List.pairwise_iff_getElem.1 hp i i' hi hi' hlt
          rw [ei, ei'] at this; exact absurd hyx this
        · subst heq; rw [← ei, ei']
        · have := List.pairwise_iff_getElem.1 hp i' i hi' hi hgt
          rw [ei, ei'] at this; exact absurd hyx.symm this
      rw [this]
theorem run_lookT (T : KT P k kc ok) (x kx : Operand) (y : α) (cok : Bool) (z : Value) (ho : lookOf o.op = some (t, x, kx, cok)) (ht : P.underlying t = some (.map k e)) (hz : zeroT P e = some z) (hx : a.eval x = .map (some mb)) (hkx : a.eval kx = kc y)
    (h : MapT kc ok vc w mb l) (hy : ok y) : (execOp a.eval o).run P w = .ok (.value (lookV cok z vc (getM l y))) w := by
  obtain ⟨es, cl, hb, _, _, hc⟩ := find_spec T h y hy
  unfold lookOf at ho
  split at ho
  · rename_i t' x' k' ok' hop
    simp only [Option.some.injEq, Prod.mk.injEq] at ho
    obtain ⟨rfl, rfl, rfl, rfl⟩ := ho
    have e1 : execOp a.eval o = (do pure (.value (← Instr.lookup t' (a.eval x') (a.eval k') ok'))) := by unfold execOp; simp only [hop]
    rcases hc with ⟨h1, h2, _⟩ | ⟨b, j, e0, h1, h2, _⟩
    · rw [e1, hx, hkx, h1]
      simp [Instr.lookup, run_underlying ht, MapKept.run_getObj_map hb, T.check w _ y hy, h2, zeroT_run hz, Result.andThen, lookV]
    · rw [e1, hx, hkx, h1]
      simp [Instr.lookup, run_underlying ht, MapKept.run_getObj_map hb, T.check w _ y hy, h2, Result.andThen, lookV]
  · cases ho
theorem run_lookNil {P : Program} {a : Act} {w : World} {o : Oper} {t k e : Nat} (x kx : Operand) (key : Value) (cok : Bool) (z : Value) (ho : lookOf o.op = some (t, x, kx, cok)) (ht : P.underlying t = some (.map k e)) (hz : zeroT P e = some z) (hx : a.eval x = .map none) (hkx : a.eval kx = key)
    (hc : (Instr.checkKey true 10000 k key).run P w = .ok () w) (hf : (Instr.findKey k key []).run P w = .ok none w) : (execOp a.eval o).run P w = .ok (.value (if cok then .tuple #[z, .bool false] else z)) w := by
  unfold lookOf at ho
  split at ho
  · rename_i t' x' k' ok' hop
    simp only [Option.some.injEq, Prod.mk.injEq] at ho
    obtain ⟨rfl, rfl, rfl, rfl⟩ := ho
    have e1 : execOp a.eval o = (do pure (.value (← Instr.lookup t' (a.eval x') (a.eval k') ok'))) := by unfold execOp; simp only [hop]
    rw [e1, hx, hkx]
    simp [Instr.lookup, run_underlying ht, hc, hf, zeroT_run hz, Result.andThen]
  · cases ho
theorem kv_rep {es : Array MapEntry} (T : KT P k kc ok) (h : es.toList.map (fun e => (e.key, e.val)) = kvL kc vc l) (hok : ∀ x ∈ l, ok x.1) {x : α} (hx : ok x) (b : β) {j : Nat} {e : MapEntry} (hj : es[j]? = some e) (he : e.key = kc x) (hnd : (es.toList.map (·.key)).Nodup) :
    (es.modify j fun e => { e with key := kc x, val := vc b }).toList.map (fun e => (e.key, e.val)) = kvL kc vc (repM l x b) := by
  have hlen : es.toList.length = l.length := by have := congrArg List.length h; simpa [kvL] using this
  refine List.ext_getElem? fun i => ?_
  have hi := congrArg (·[i]?) h
  simp only [kvL, List.getElem?_map] at hi
  simp only [kvL, repM, List.map_map, List.getElem?_map, Array.getElem?_toList, Array.getElem?_modify]
  by_cases hij : j = i
  · subst hij
    rw [if_pos rfl, hj]
    rw [Array.getElem?_toList, hj] at hi
    cases hl : l[j]? with
    | none => rw [hl] at hi; cases hi
    | some y =>
      rw [hl] at hi
      simp only [Option.map_some, Option.some.injEq, Prod.mk.injEq, Function.comp_apply] at hi ⊢
      have : y.1 = x := T.inj _ _ (hok y (List.mem_of_getElem? hl)) hx (hi.1.symm.trans he)
      simp [this]
  · rw [if_neg hij]
    rw [Array.getElem?_toList] at hi
    cases hl : l[i]? with
    | none => rw [hl] at hi; rw [hi]; rfl
    | some y =>
      rw [hl] at hi
      rw [hi]
      have : y.1 ≠ x := by
        intro e2
        cases hei : es[i]? with
        | none => rw [hei] at hi; cases hi
        | some e' =>
          rw [hei] at hi
          simp only [Option.map_some, Option.some.injEq, Prod.mk.injEq] at hi
          have hk : e'.key = e.key := by rw [hi.1, he, e2]
          have g1 : (es.toList.map (·.key))[i]? = some e'.key := by simp [hei]
          have g2 : (es.toList.map (·.key))[j]? = some e'.key := by simp [hj, hk]
          exact hij (((List.getElem?_inj (List.getElem?_eq_some_iff.1 g1).1 hnd).1 (g1.trans g2.symm)).symm)
      simp [this]
theorem op_mapset (T : KT P k kc ok) (x kx vx : Operand) (y : α) (b : β) (ho : updOf o.op = some (t, x, kx, vx)) (ht : P.underlying t = some (.map k e)) (hx : a.eval x = .map (some mb)) (hkx : a.eval kx = kc y) (hvx : a.eval vx = vc b)
    (h : MapT kc ok vc w mb l) (hy : ok y)
    (kk : ∀ w', MapT kc ok vc w' mb (setM l y b) → w'.heap.size = w.heap.size → Fr w w' (One mb) → K (a.put o.dst undef) w') : OpW P o a w K Q := by
  obtain ⟨es, cl, hb, hkv, hs, hc⟩ := find_spec T h y hy
  have hok := h.ok
  have hokS : ∀ x ∈ setM l y b, ok x.1 := by
    intro x hx
    unfold setM at hx
    split at hx
    · obtain ⟨z, hz, rfl⟩ := List.mem_map.1 hx
      show ok (if z.1 = y then (y, b) else z).1
      split
      · exact hy
      · exact hok z hz
    · rcases List.mem_append.1 hx with hx | hx
      · exact hok x hx
      · rw [List.mem_singleton.1 hx]; exact hy
  unfold updOf at ho
  split at ho
  · rename_i t' x' k' v' hop
    simp only [Option.some.injEq, Prod.mk.injEq] at ho
    obtain ⟨rfl, rfl, rfl, rfl⟩ := ho
    have e1 : execOp a.eval o = (do Instr.mapUpdate t' (a.eval x') (a.eval k') (a.eval v'); pure .skip) := by unfold execOp; simp only [hop]
    have hlt := lt_of_get hb
    have hF : ∀ (ob : Obj), Fr w { w with heap := w.heap.setIfInBounds mb ob } (One mb) := fun ob => ⟨rfl, rfl, rfl, by simp, fun j _ hj => by
      have : mb ≠ j := fun e => hj e.symm
      simp [this]⟩
    rcases hc with ⟨h1, h2, h3⟩ | ⟨b0, j, e0, h1, h2, h3, h4, h5⟩
    · have hset : setM l y b = l ++ [(y, b)] := by unfold setM; rw [h1]; rfl
      have hst : MapKept.Stamped (es.push ⟨kc y, vc b, cl⟩) (cl + 1) := by
        refine ⟨fun x hx => ?_, ?_, ?_⟩
        · simp only [Array.toList_push, List.mem_append, List.mem_singleton] at hx
          rcases hx with hx | rfl
          · have := hs.1 x hx; omega
          · exact Nat.lt_succ_self _
        · simp only [Array.toList_push, List.map_append, List.map_cons, List.map_nil]
          rw [List.nodup_append]
          refine ⟨hs.2.1, by simp, ?_⟩
          intro p hp q hq e
          obtain ⟨x, hx, rfl⟩ := List.mem_map.1 hp
          have := hs.1 x hx
          simp only [List.mem_singleton] at hq
          omega
        · simp only [Array.toList_push, List.map_append, List.map_cons, List.map_nil]
          rw [List.nodup_append]
          refine ⟨hs.2.2, by simp, ?_⟩
          intro p hp q hq e
          obtain ⟨x, hx, rfl⟩ := List.mem_map.1 hp
          simp only [List.mem_singleton] at hq
          exact h3 x hx (e.trans hq)
      refine op_run_skip { w with heap := w.heap.setIfInBounds mb (.map (es.push ⟨kc y, vc b, cl⟩) (cl + 1)) } ?_ (kk _ ⟨⟨_, _, by simp [hlt], ?_, hst⟩, hokS⟩ (by simp) (hF _))
      · rw [e1, hx, hkx, hvx]
        simp [Instr.mapUpdate, run_underlying ht, MapKept.run_getObj_map hb, T.check w _ y hy, h2, MapKept.run_setObj_map _ hb, Result.andThen]
      · rw [hset]
        simp [kvL] at hkv ⊢
        exact hkv
    · have hset : setM l y b = repM l y b := by unfold setM; rw [h1]; rfl
      have hst : MapKept.Stamped (es.modify j fun e => { e with key := kc y, val := vc b }) cl := by
        have hb1 : (es.modify j fun e => { e with key := kc y, val := vc b }).toList.map (·.born) = es.toList.map (·.born) := by
          refine List.ext_getElem? fun i => ?_
          simp only [List.getElem?_map, Array.getElem?_toList, Array.getElem?_modify]
          split
          · cases es[i]? <;> rfl
          · rfl
        have hk1 : (es.modify j fun e => { e with key := kc y, val := vc b }).toList.map (·.key) = es.toList.map (·.key) := by
          refine List.ext_getElem? fun i => ?_
          simp only [List.getElem?_map, Array.getElem?_toList, Array.getElem?_modify]
          split
          · rename_i hij; subst hij; rw [h3]; simp [h4]
          · rfl
        refine ⟨fun x hx => ?_, by rw [hb1]; exact hs.2.1, by rw [hk1]; exact hs.2.2⟩
        have : x.born ∈ (es.modify j fun e => { e with key := kc y, val := vc b }).toList.map (·.born) := List.mem_map.2 ⟨x, hx, rfl⟩
        rw [hb1] at this
        obtain ⟨z, hz, e2⟩ := List.mem_map.1 this
        rw [← e2]; exact hs.1 z hz
      refine op_run_skip { w with heap := w.heap.setIfInBounds mb (.map (es.modify j fun e => { e with key := kc y, val := vc b }) cl) } ?_ (kk _ ⟨⟨_, _, by simp [hlt], ?_, hst⟩, hokS⟩ (by simp) (hF _))
      · rw [e1, hx, hkx, hvx]
        simp [Instr.mapUpdate, run_underlying ht, MapKept.run_getObj_map hb, T.check w _ y hy, h2, h3, h4, T.stays w y hy, MapKept.run_setObj_map _ hb, Result.andThen]
      · rw [hset]; exact kv_rep T hkv hok hy b h3 h4 hs.2.2
  · cases ho
def delOf : Op → Option (Nat × Nat × Operand × Operand)
  | .call c => match c.callee, c.args.toList, c.argTypes.toList with
    | .builtin .delete, [x, kx], [t, k] => some (t, k, x, kx)
    | _, _, _ => none
  | _ => none
theorem toList_erase {es : Array MapEntry} {j : Nat} (h : j < es.size) : (es.eraseIdxIfInBounds j).toList = es.toList.eraseIdx j := by
  unfold Array.eraseIdxIfInBounds
  rw [dif_pos h, Array.toList_eraseIdx]
theorem delM_eraseL (T : KT P k kc ok) {x : α} (hx : ok x) : ∀ (L : List MapEntry) (l : List (α × β)) (j : Nat) (e : MapEntry), L.map (fun e => (e.key, e.val)) = kvL kc vc l → (∀ y ∈ l, ok y.1) → L[j]? = some e → e.key = kc x → (L.map (·.key)).Nodup →
    (L.eraseIdx j).map (fun e => (e.key, e.val)) = kvL kc vc (delM l x)
  | [], _, _, _, _, _, hj, _, _ => by cases hj
  | y :: L, [], _, _, h, _, _, _, _ => by simp [kvL] at h
  | y :: L, z :: l, j, e, h, hok, hj, he, hnd => by
    simp only [kvL, List.map_cons, List.cons.injEq, Prod.mk.injEq] at h
    obtain ⟨⟨h1, h2⟩, h3⟩ := h
    simp only [List.map_cons, List.nodup_cons] at hnd
    cases j with
    | zero =>
      simp only [List.getElem?_cons_zero, Option.some.injEq] at hj
      subst hj
      have hz : z.1 = x := T.inj _ _ (hok z (.head _)) hx (h1.symm.trans he)
      have hno : ∀ q ∈ l, q.1 ≠ x := by
        intro q hq e3
        have : kc q.1 ∈ L.map (·.key) := by
          obtain ⟨e', he', e1, _⟩ := kv_mem2 (vc := vc) h3 hq
          exact List.mem_map.2 ⟨e', he', e1⟩
        exact hnd.1 (by rw [he, ← e3]; exact this)
      rw [List.eraseIdx_cons_zero, delM, List.filter_cons, if_neg (by simp [hz]), List.filter_eq_self.2 (fun q hq => by simpa using hno q hq)]
      exact h3
    | succ j =>
      simp only [List.getElem?_cons_succ] at hj
      have hz : z.1 ≠ x := by
        intro e3
        exact hnd.1 (List.mem_map.2 ⟨e, List.mem_of_getElem? hj, by rw [he, h1, e3]⟩)
      rw [List.eraseIdx_cons_succ, delM, List.filter_cons, if_pos (by simp [hz])]
      simp only [kvL, List.map_cons, List.cons.injEq, Prod.mk.injEq]
      exact ⟨⟨h1, h2⟩, delM_eraseL T hx L l j e h3 (fun q hq => hok q (.tail _ hq)) hj he hnd.2⟩
theorem delM_erase {es : Array MapEntry} (T : KT P k kc ok) (h : es.toList.map (fun e => (e.key, e.val)) = kvL kc vc l) (hok : ∀ x ∈ l, ok x.1) {x : α} (hx : ok x) {j : Nat} {e : MapEntry} (hj : es[j]? = some e) (he : e.key = kc x) (hnd : (es.toList.map (·.key)).Nodup) :
    (es.eraseIdxIfInBounds j).toList.map (fun e => (e.key, e.val)) = kvL kc vc (delM l x) := by
  have hlt : j < es.size := by
    rcases Nat.lt_or_ge j es.size with h1 | h1
    · exact h1
    · rw [Array.getElem?_eq_none h1] at hj; cases hj
  rw [toList_erase hlt]
  exact delM_eraseL T hx es.toList l j e h hok (by simpa using hj) he hnd
theorem op_mapdel (T : KT P k kc ok) (x kx : Operand) (y : α) (ho : delOf o.op = some (t, k, x, kx)) (ht : P.underlying t = some (.map k e)) (hx : a.eval x = .map (some mb)) (hkx : a.eval kx = kc y)
    (h : MapT kc ok vc w mb l) (hy : ok y)
    (kk : ∀ w', MapT kc ok vc w' mb (delM l y) → w'.heap.size = w.heap.size → Fr w w' (One mb) → K (a.put o.dst (.tuple #[])) w') : OpW P o a w K Q := by
  obtain ⟨es, cl, hb, hkv, hs, hc⟩ := find_spec T h y hy
  have hok := h.ok
  have hokD : ∀ x ∈ delM l y, ok x.1 := fun x hx => hok x (List.mem_filter.1 hx).1
  have hlt := lt_of_get hb
  have hF : ∀ (ob : Obj), Fr w { w with heap := w.heap.setIfInBounds mb ob } (One mb) := fun ob => ⟨rfl, rfl, rfl, by simp, fun j _ hj => by
    have : mb ≠ j := fun e => hj e.symm
    simp [this]⟩
  unfold delOf at ho
  split at ho
  · rename_i c hcal
    split at ho
    · rename_i h1 h2 h3
      simp only [Option.some.injEq, Prod.mk.injEq] at ho
      obtain ⟨rfl, rfl, rfl, rfl⟩ := ho
      obtain ⟨cal, args, tys⟩ := c
      simp only at h1 h2 h3
      obtain rfl : args = #[_, _] := by rw [← Array.toArray_toList (xs := args), h2]
      obtain rfl : tys = #[_, _] := by rw [← Array.toArray_toList (xs := tys), h3]
      subst h1
      rcases hc with ⟨g1, g2, g3⟩ | ⟨b0, j, e0, g1, g2, g3, g4, g5⟩
      · have hd : delM l y = l := List.filter_eq_self.2 fun x hx => by simpa using getM_none.1 g1 x hx
        refine op_run (.tuple #[]) { w with heap := w.heap.setIfInBounds mb (.map es cl) } ?_ (kk _ ⟨⟨_, _, by simp [hlt], by rw [hd]; exact hkv, hs⟩, hokD⟩ (by simp) (hF _))
        unfold execOp
        simp [hcal, resolve, invoke, builtin, hx, hkx, Builtin.delete_, run_underlying ht, MapKept.run_getObj_map hb, T.check w _ y hy, g2, MapKept.run_setObj_map _ hb, Result.andThen]
      · have hst : MapKept.Stamped (es.eraseIdxIfInBounds j) cl := by
          have e1 : (es.eraseIdxIfInBounds j).toList = es.toList.eraseIdx j := toList_erase (by rcases Nat.lt_or_ge j es.size with h1 | h1; exact h1; rw [Array.getElem?_eq_none h1] at g3; cases g3)
          have hsub : (es.eraseIdxIfInBounds j).toList.Sublist es.toList := by rw [e1]; exact List.eraseIdx_sublist _ _
          exact ⟨fun x hx => hs.1 x (hsub.mem hx), hs.2.1.sublist (hsub.map _), hs.2.2.sublist (hsub.map _)⟩
        refine op_run (.tuple #[]) { w with heap := w.heap.setIfInBounds mb (.map (es.eraseIdxIfInBounds j) cl) } ?_ (kk _ ⟨⟨_, _, by simp [hlt], delM_erase T hkv hok hy g3 g4 hs.2.2, hst⟩, hokD⟩ (by simp) (hF _))
        unfold execOp
        simp [hcal, resolve, invoke, builtin, hx, hkx, Builtin.delete_, run_underlying ht, MapKept.run_getObj_map hb, T.check w _ y hy, g2, MapKept.run_setObj_map _ hb, Result.andThen]
    · cases ho
  · cases ho
omit [DecidableEq α] in
theorem run_lenT (x : Operand) (ho : lenOf o.op = some (t, x)) (ht : P.underlying t = some (.map k e)) (hx : a.eval x = .map (some mb)) (h : MapT kc ok vc w mb l) : (execOp a.eval o).run P w = .ok (.value (.int .i64 (l.length : Int))) w := by
  obtain ⟨⟨es, cl, hb, hkv, _⟩, _⟩ := h
  have hl : es.size = l.length := by have := congrArg List.length hkv; simpa [kvL] using this
  unfold lenOf at ho
  split at ho
  · rename_i c hc
    split at ho
    · rename_i h1 h2 h3
      simp only [Option.some.injEq, Prod.mk.injEq] at ho
      obtain ⟨rfl, rfl⟩ := ho
      obtain ⟨cal, args, tys⟩ := c
      simp only at h1 h2 h3
      obtain rfl : args = #[_] := by rw [← Array.toArray_toList (xs := args), h2]
      obtain rfl : tys = #[_] := by rw [← Array.toArray_toList (xs := tys), h3]
      subst h1
      unfold execOp
      simp [hc, resolve, invoke, builtin, hx, Builtin.len_, run_underlying ht, MapKept.run_getObj_map hb, goInt, Result.andThen, hl]
    · cases ho
  · cases ho
end
/-! ### by the machine -/
def lkT (s : St) : Nat := ((lookOf (cur s).op).getD (0, .tmp 0, .tmp 0, false)).1
def lkX (s : St) : Operand := ((lookOf (cur s).op).getD (0, .tmp 0, .tmp 0, false)).2.1
def lkK (s : St) : Operand := ((lookOf (cur s).op).getD (0, .tmp 0, .tmp 0, false)).2.2.1
def lkC (s : St) : Bool := ((lookOf (cur s).op).getD (0, .tmp 0, .tmp 0, false)).2.2.2
def upT (s : St) : Nat := ((updOf (cur s).op).getD (0, .tmp 0, .tmp 0, .tmp 0)).1
def upX (s : St) : Operand := ((updOf (cur s).op).getD (0, .tmp 0, .tmp 0, .tmp 0)).2.1
def upK (s : St) : Operand := ((updOf (cur s).op).getD (0, .tmp 0, .tmp 0, .tmp 0)).2.2.1
def upV (s : St) : Operand := ((updOf (cur s).op).getD (0, .tmp 0, .tmp 0, .tmp 0)).2.2.2
def dlT (s : St) : Nat := ((delOf (cur s).op).getD (0, 0, .tmp 0, .tmp 0)).1
def dlN (s : St) : Nat := ((delOf (cur s).op).getD (0, 0, .tmp 0, .tmp 0)).2.1
def dlX (s : St) : Operand := ((delOf (cur s).op).getD (0, 0, .tmp 0, .tmp 0)).2.2.1
def dlK (s : St) : Operand := ((delOf (cur s).op).getD (0, 0, .tmp 0, .tmp 0)).2.2.2
def mlT (s : St) : Nat := ((lenOf (cur s).op).getD (0, .tmp 0)).1
def mlX (s : St) : Operand := ((lenOf (cur s).op).getD (0, .tmp 0)).2
def mapTy (P : Program) (t : Nat) : Option (Nat × Nat) := match P.underlying t with | some (.map k e) => some (k, e) | _ => none
theorem mapTy_spec {P : Program} {t k e : Nat} (h : mapTy P t = some (k, e)) : P.underlying t = some (.map k e) := by
  unfold mapTy at h
  split at h
  · rename_i k' e' hq; cases h; exact hq
  · cases h
section
variable {α β : Type} [DecidableEq α] {P : Program} {Q : Exit → Act → World → Prop} {L : List Iv} {s : St} {RO FZ OW : List Rc} {kc : α → Value} {ok : α → Prop} {vc : β → Value} {k : Nat}
theorem m_look (n i : Nat) (T : KT P k kc ok) (vc : β → Value) (mb : Nat) (l : List (α × β)) (y : α) (hy : ok y) (e : Nat) (z : Value)
    (k0 : getM l y = none → J P Q L (nx (go P n s) (lookV (lkC (go P n s)) z vc none)) RO FZ OW)
    (k1 : ∀ b, getM l y = some b → J P Q L (nx (go P n s) (lookV (lkC (go P n s)) z vc (some b))) RO FZ OW)
    (hr : gr (RO ++ (FZ ++ OW)) i = .gen (mapRe kc ok vc mb l) := by kernel_rfl) (h1 : (go P n s).a.eval (lkX (go P n s)) = .map (some mb) := by kernel_rfl) (h2 : (go P n s).a.eval (lkK (go P n s)) = kc y := by kernel_rfl)
    (h3 : zeroT P e = some z := by kernel_rfl) (h4 : mapTy P (lkT (go P n s)) = some (k, e) := by kernel_rfl)
    (hc : ((lookOf (cur (go P n s)).op).isSome && (onW (go P n s) && rdOk (go P n s) i (RO ++ FZ).length)) = true := by kernel_rfl) : J P Q L s RO FZ OW := by
  simp only [Bool.and_eq_true] at hc
  obtain ⟨h5, h8, h9⟩ := hc
  have ho : lookOf (cur (go P n s)).op = some (lkT (go P n s), lkX (go P n s), lkK (go P n s), lkC (go P n s)) := by
    unfold lkT lkX lkK lkC
    cases hl : lookOf (cur (go P n s)).op with
    | none => rw [hl] at h5; cases h5
    | some x => rfl
  refine m_r n i (lookV (lkC (go P n s)) z vc (getM l y)) (fun w hA => ?_) ?_ h8 h9
  · rw [hr] at hA
    exact run_lookT T _ _ y _ z ho (mapTy_spec h4) h3 h1 h2 hA hy
  · cases hg : getM l y with
    | none => exact k0 hg
    | some b => exact k1 b hg
omit [DecidableEq α] in
theorem m_mlen (n i : Nat) (vc : β → Value) (kc : α → Value) (ok : α → Prop) (mb : Nat) (l : List (α × β)) (e k : Nat) (kk : J P Q L (nx (go P n s) (.int .i64 (l.length : Int))) RO FZ OW)
    (hr : gr (RO ++ (FZ ++ OW)) i = .gen (mapRe kc ok vc mb l) := by kernel_rfl) (h1 : (go P n s).a.eval (mlX (go P n s)) = .map (some mb) := by kernel_rfl) (h4 : mapTy P (mlT (go P n s)) = some (k, e) := by kernel_rfl)
    (hc : ((lenOf (cur (go P n s)).op).isSome && (onW (go P n s) && rdOk (go P n s) i (RO ++ FZ).length)) = true := by kernel_rfl) : J P Q L s RO FZ OW := by
  simp only [Bool.and_eq_true] at hc
  obtain ⟨h5, h8, h9⟩ := hc
  have ho : lenOf (cur (go P n s)).op = some (mlT (go P n s), mlX (go P n s)) := by
    unfold mlT mlX
    cases hl : lenOf (cur (go P n s)).op with
    | none => rw [hl] at h5; cases h5
    | some x => rfl
  refine m_r n i _ (fun w hA => ?_) kk h8 h9
  rw [hr] at hA
  exact run_lenT _ ho (mapTy_spec h4) h1 hA
theorem gr_get {H : List Rc} {i : Nat} {r : Re} (h : gr H i = .gen r) : H[i]? = some (.gen r) := by
  unfold gr at h
  rw [List.getD_eq_getElem?_getD] at h
  cases hi : H[i]? with
  | none => rw [hi] at h; cases h
  | some x => rw [hi, Option.getD_some] at h; rw [h]
theorem m_mset (n i : Nat) (T : KT P k kc ok) (vc : β → Value) (mb : Nat) (l : List (α × β)) (y : α) (b : β) (hy : ok y) (e : Nat)
    (kk : J P Q L (nx (go P n s) undef) RO FZ (OW.set i (.gen (mapRe kc ok vc mb (setM l y b)))))
    (hr : gr OW i = .gen (mapRe kc ok vc mb l) := by kernel_rfl) (h1 : (go P n s).a.eval (upX (go P n s)) = .map (some mb) := by kernel_rfl) (h2 : (go P n s).a.eval (upK (go P n s)) = kc y := by kernel_rfl) (h3 : (go P n s).a.eval (upV (go P n s)) = vc b := by kernel_rfl)
    (h4 : mapTy P (upT (go P n s)) = some (k, e) := by kernel_rfl)
    (hc : ((updOf (cur (go P n s)).op).isSome && (acts (go P n s) && onW (go P n s))) = true := by kernel_rfl) : J P Q L s RO FZ OW := by
  rw [Bool.and_eq_true] at hc
  refine m_act n (fun w hw _ => ?_) hc.2
  have h5 := hc.1
  have ho : updOf (cur (go P n s)).op = some (upT (go P n s), upX (go P n s), upK (go P n s), upV (go P n s)) := by
    unfold upT upX upK upV
    cases hl : updOf (cur (go P n s)).op with
    | none => rw [hl] at h5; cases h5
    | some x => rfl
  have hi := gr_get hr
  have hA : MapT kc ok vc w mb l := hw.a (.gen (mapRe kc ok vc mb l)) (by simp only [List.mem_append]; exact .inr (.inr (List.mem_of_getElem? hi)))
  exact op_mapset T _ _ _ y b ho (mapTy_spec h4) h1 h2 h3 hA hy fun w' hM _ F => ⟨_, _, rfl, Hs.set (r' := .gen (mapRe kc ok vc mb (setM l y b))) hw hi F hM (New.refl _ _), kk⟩
theorem m_mdel (n i : Nat) (T : KT P k kc ok) (vc : β → Value) (mb : Nat) (l : List (α × β)) (y : α) (hy : ok y) (e : Nat)
    (kk : J P Q L (nx (go P n s) (.tuple #[])) RO FZ (OW.set i (.gen (mapRe kc ok vc mb (delM l y)))))
    (hr : gr OW i = .gen (mapRe kc ok vc mb l) := by kernel_rfl) (h1 : (go P n s).a.eval (dlX (go P n s)) = .map (some mb) := by kernel_rfl) (h2 : (go P n s).a.eval (dlK (go P n s)) = kc y := by kernel_rfl)
    (h4 : mapTy P (dlT (go P n s)) = some (k, e) := by kernel_rfl) (h6 : dlN (go P n s) = k := by kernel_rfl)
    (hc : ((delOf (cur (go P n s)).op).isSome && (acts (go P n s) && onW (go P n s))) = true := by kernel_rfl) : J P Q L s RO FZ OW := by
  rw [Bool.and_eq_true] at hc
  refine m_act n (fun w hw _ => ?_) hc.2
  have h5 := hc.1
  have ho : delOf (cur (go P n s)).op = some (dlT (go P n s), k, dlX (go P n s), dlK (go P n s)) := by
    rw [← h6]
    unfold dlT dlX dlK dlN
    cases hl : delOf (cur (go P n s)).op with
    | none => rw [hl] at h5; cases h5
    | some x => rfl
  have hi := gr_get hr
  have hA : MapT kc ok vc w mb l := hw.a (.gen (mapRe kc ok vc mb l)) (by simp only [List.mem_append]; exact .inr (.inr (List.mem_of_getElem? hi)))
  exact op_mapdel T _ _ y ho (mapTy_spec h4) h1 h2 hA hy fun w' hM _ F => ⟨_, _, rfl, Hs.set (r' := .gen (mapRe kc ok vc mb (delM l y))) hw hi F hM (New.refl _ _), kk⟩
omit [DecidableEq α] in
theorem m_mnew (n : Nat) (kc : α → Value) (ok : α → Prop) (vc : β → Value) (kk : ∀ mb, J P Q L (nx (go P n s) (.map (some mb))) RO FZ (.gen (mapRe kc ok vc mb ([] : List (α × β))) :: OW))
    (h : ∀ N, newStep P (go P n s).a (cur (go P n s)) N = some (.map #[] 0, .map (some N)) := by intro _; kernel_rfl) (hc : (acts (go P n s) && onW (go P n s)) = true := by kernel_rfl) : J P Q L s RO FZ OW :=
  m_act n (fun w hw _ => op_new _ _ h fun w' b hb he F => ⟨_, _, rfl, Hs.new (r := .gen (mapRe kc ok vc b [])) hw F (MapT.nil kc ok vc hb) (fun i hi => by rw [show i = b from hi, he]; exact Nat.le_refl _), kk b⟩) hc
end
end Go.Alm

/- Strings by the machine: walking one, to bytes, and back. -/
namespace Go.Alm
open Go Go.RowKit
def iterRe (b : Nat) (s : ByteArray) (pos : Nat) : Re := ⟨One b, fun w => w.heap[b]? = some (.stringIter s pos), fun _ h => In.one h, fun _ _ _ h F d => Fr.keep F h d⟩
def nextX (s : St) : Operand := ((nextOf (cur s).op).getD (.tmp 0, false)).1
def convS (s : St) : Nat := ((convOf (cur s).op).getD (0, 0, .tmp 0)).1
def convD (s : St) : Nat := ((convOf (cur s).op).getD (0, 0, .tmp 0)).2.1
def convX (s : St) : Operand := ((convOf (cur s).op).getD (0, 0, .tmp 0)).2.2
def isStr (P : Program) (t : Nat) : Bool := match P.underlying t with | some .string => true | _ => false
def isU8s (P : Program) (t : Nat) : Option Nat := match P.underlying t with | some (.slice e) => (match P.underlying e with | some (.int .u8) => some e | _ => none) | _ => none
theorem isStr_spec {P : Program} {t : Nat} (h : isStr P t = true) : P.underlying t = some .string := by
  unfold isStr at h
  split at h
  · rename_i hq; exact hq
  · cases h
theorem isU8s_spec {P : Program} {t : Nat} (h : (isU8s P t).isSome = true) : ∃ e, P.underlying t = some (.slice e) ∧ P.underlying e = some (.int .u8) := by
  unfold isU8s at h
  split at h
  · rename_i e hq
    split at h
    · rename_i h2; exact ⟨e, hq, h2⟩
    · cases h
  · cases h
section
variable {P : Program} {Q : Exit → Act → World → Prop} {L : List Iv} {s : St} {RO FZ OW : List Rc}
theorem m_srange (n : Nat) (t : ByteArray) (kk : ∀ b, J P Q L (nx (go P n s) (.pointer (some ⟨b, 0, none⟩))) RO FZ (.gen (iterRe b t 0) :: OW))
    (h : ∀ N, newStep P (go P n s).a (cur (go P n s)) N = some (.stringIter t 0, .pointer (some ⟨N, 0, none⟩)) := by intro _; kernel_rfl) (hc : (acts (go P n s) && onW (go P n s)) = true := by kernel_rfl) : J P Q L s RO FZ OW :=
  m_act n (fun w hw _ => op_new _ _ h fun w' b hb he F => ⟨_, _, rfl, Hs.new (r := .gen (iterRe b t 0)) hw F hb (fun i hi => by rw [show i = b from hi, he]; exact Nat.le_refl _), kk b⟩) hc
theorem gr_getR {H : List Rc} {i : Nat} {r : Re} (h : gr H i = .gen r) : H[i]? = some (.gen r) := by
  unfold gr at h
  rw [List.getD_eq_getElem?_getD] at h
  cases hi : H[i]? with
  | none => rw [hi] at h; cases h
  | some x => rw [hi, Option.getD_some] at h; rw [h]
/-- One step of a range over a string: a byte below 128, another rune, or the end. -/
theorem m_snext (n i b pos : Nat) (t : ByteArray)
    (k1 : pos < t.size → (sB t).getD pos 0 < 128 → J P Q L (nx (go P n s) (.tuple #[.bool true, .int .i64 (pos : Int), .int .i32 (((sB t).getD pos 0 : Nat) : Int)])) RO FZ (OW.set i (.gen (iterRe b t (pos + 1)))))
    (k2 : pos < t.size → ¬ (sB t).getD pos 0 < 128 → ∀ c p, 128 ≤ c → J P Q L (nx (go P n s) (.tuple #[.bool true, .int .i64 (pos : Int), .int .i32 ((c : Nat) : Int)])) RO FZ (OW.set i (.gen (iterRe b t p))))
    (k3 : ¬ pos < t.size → J P Q L (nx (go P n s) (.tuple #[.bool false])) RO FZ OW)
    (hr : gr OW i = .gen (iterRe b t pos) := by kernel_rfl) (h1 : (go P n s).a.eval (nextX (go P n s)) = .pointer (some ⟨b, 0, none⟩) := by kernel_rfl)
    (h2 : nextOf (cur (go P n s)).op = some (nextX (go P n s), true) := by kernel_rfl)
    (hc : (acts (go P n s) && onW (go P n s)) = true := by kernel_rfl) : J P Q L s RO FZ OW := by
  have hi := gr_getR hr
  by_cases hp : pos < t.size
  · refine m_act n (fun w hw _ => ?_) hc
    have hA : w.heap[b]? = some (.stringIter t pos) := hw.a (.gen (iterRe b t pos)) (by simp only [List.mem_append]; exact .inr (.inr (List.mem_of_getElem? hi)))
    by_cases hl : (sB t).getD pos 0 < 128
    · exact op_next_low _ b pos t h2 h1 hA hp hl fun w' hb' _ F => ⟨_, _, rfl, Hs.set (r' := .gen (iterRe b t (pos + 1))) hw hi F hb' (New.refl _ _), k1 hp hl⟩
    · exact op_next_high _ b pos t h2 h1 hA hp hl fun w' c p hc' hb' _ F => ⟨_, _, rfl, Hs.set (r' := .gen (iterRe b t p)) hw hi F hb' (New.refl _ _), k2 hp hl c p hc'⟩
  · refine m_act n (fun w hw _ => ?_) hc
    have hA : w.heap[b]? = some (.stringIter t pos) := hw.a (.gen (iterRe b t pos)) (by simp only [List.mem_append]; exact .inr (.inr (List.mem_of_getElem? hi)))
    exact op_run _ _ (run_over _ b pos t h2 h1 hA hp) ⟨_, _, rfl, hw, k3 hp⟩
theorem m_sbytes (n : Nat) (t : ByteArray) (kk : ∀ b c, (sB t).length ≤ c → J P Q L (nx (go P n s) (.slice (some ⟨b, 0, none⟩) (sB t).length c)) RO FZ (.rd (some ⟨b, 0, none⟩) (B (sB t)) :: OW))
    (h1 : (go P n s).a.eval (convX (go P n s)) = .string t := by kernel_rfl)
    (h2 : ((convOf (cur (go P n s)).op).isSome && isStr P (convS (go P n s)) && (isU8s P (convD (go P n s))).isSome && (acts (go P n s) && onW (go P n s))) = true := by kernel_rfl) : J P Q L s RO FZ OW := by
  simp only [Bool.and_eq_true] at h2
  obtain ⟨⟨⟨h3, h4⟩, h5⟩, h6⟩ := h2
  have ho : convOf (cur (go P n s)).op = some (convS (go P n s), convD (go P n s), convX (go P n s)) := by
    unfold convS convD convX
    cases hl : convOf (cur (go P n s)).op with
    | none => rw [hl] at h3; cases h3
    | some x => rfl
  obtain ⟨e, g1, g2⟩ := isU8s_spec h5
  refine m_act n (fun w hw _ => ?_) (by rw [Bool.and_eq_true]; exact h6)
  exact op_str_bytes _ _ e _ t ho (isStr_spec h4) g1 g2 h1 fun w' b c hR hb F _ hl => ⟨_, _, rfl, Hs.new (r := .rd (some ⟨b, 0, none⟩) (B (sB t))) hw F hR (fun k hk => by rw [show k = b from Sub.arOne k hk, hb]; exact Nat.le_refl _), kk b c hl⟩
theorem m_bytess (n i : Nat) (ao : Option Addr) (c : Nat) (l : List Nat) (kk : J P Q L (nx (go P n s) (.string (toStr l))) RO FZ OW)
    (hr : (gr (RO ++ (FZ ++ OW)) i).ao = ao := by kernel_rfl) (hx : (gr (RO ++ (FZ ++ OW)) i).xs = B l := by kernel_rfl) (h1 : (go P n s).a.eval (convX (go P n s)) = .slice ao l.length c := by kernel_rfl)
    (h2 : ((convOf (cur (go P n s)).op).isSome && isStr P (convD (go P n s)) && (isU8s P (convS (go P n s))).isSome && (gr (RO ++ (FZ ++ OW)) i).isRd && (onW (go P n s) && rdOk (go P n s) i (RO ++ FZ).length)) = true := by kernel_rfl) : J P Q L s RO FZ OW := by
  simp only [Bool.and_eq_true] at h2
  obtain ⟨⟨⟨⟨h3, h4⟩, h5⟩, h7⟩, h8, h9⟩ := h2
  have ho : convOf (cur (go P n s)).op = some (convS (go P n s), convD (go P n s), convX (go P n s)) := by
    unfold convS convD convX
    cases hl : convOf (cur (go P n s)).op with
    | none => rw [hl] at h3; cases h3
    | some x => rfl
  obtain ⟨e, g1, g2⟩ := isU8s_spec h5
  refine m_r n i _ (fun w hA => ?_) kk h8 h9
  have hR := Rc.rd_of h7 hA
  rw [hr, hx] at hR
  exact run_bytes_str _ _ e _ ao _ c l ho g1 g2 (isStr_spec h4) h1 hR rfl
def eqB (s : St) : Bool := ((eqlOf (cur s).op).getD (true, 0, .tmp 0, .tmp 0)).1
/-- Two strings are compared; `yes` is the value where they are the same. -/
theorem m_sstr (n : Nat) (yes : Bool) (x y : ByteArray) (k1 : x = y → J P Q L (nx (go P n s) (.bool yes)) RO FZ OW) (k2 : ¬ x = y → J P Q L (nx (go P n s) (.bool (!yes))) RO FZ OW)
    (h1 : (go P n s).a.eval (eqX (go P n s)) = .string x := by kernel_rfl) (h2 : (go P n s).a.eval (eqY (go P n s)) = .string y := by kernel_rfl) (h3 : eqB (go P n s) = yes := by kernel_rfl)
    (hc : ((eqlOf (cur (go P n s)).op).isSome && onW (go P n s)) = true := by kernel_rfl) : J P Q L s RO FZ OW := by
  rw [Bool.and_eq_true] at hc
  have ho : eqlOf (cur (go P n s)).op = some (yes, ((eqlOf (cur (go P n s)).op).getD (true, 0, .tmp 0, .tmp 0)).2.1, eqX (go P n s), eqY (go P n s)) := by
    rw [← h3]
    unfold eqB eqX eqY
    cases hl : eqlOf (cur (go P n s)).op with
    | none => rw [hl] at hc; cases hc.1
    | some x => rfl
  by_cases e : x = y
  · have hb : (x == y) = true := (MapKept.bytes_beq x y).2 e
    refine m_p n (.bool yes) (fun w => ?_) (k1 e) hc.2
    rw [run_eq_str yes _ _ _ x y ho h1 h2, hb]; cases yes <;> rfl
  · have hb : (x == y) = false := by
      cases hq : (x == y) with
      | false => rfl
      | true => exact absurd ((MapKept.bytes_beq x y).1 hq) e
    refine m_p n (.bool (!yes)) (fun w => ?_) (k2 e) hc.2
    rw [run_eq_str yes _ _ _ x y ho h1 h2, hb]; cases yes <;> rfl
end
end Go.Alm

/- An account out of a row's reading. -/
namespace Go.Alm
open Go Go.RowKit Go.ChangeShapes Go.WideShapes Go.ChangeAt
section
variable {H : Type} {enc : TypeId × Value → H} {P : Program} {w : World} {base : Nat} {sp : Nat → Bool} {held : Bool} {fuel t e : Nat} {cs : List Value} {x : DataW H × List MemPlace}
theorem acct_of_trod {fs : Array Field} {ts tu tn : Nat} (he : P.underlying e = some (.struct fs)) (hfs : fs.toList.map (fun f => (f.type, f.offset)) = [(ts, 0), (tu, 1), (tn, 2)])
    (hs : P.underlying ts = some .string) (hu : P.underlying tu = some (.int .u64)) (hn : P.underlying tn = some (.int .u32)) (zs : P.cellsOf ts = 1) (zu : P.cellsOf tu = 1) (zn : P.cellsOf tn = 1) (ze : P.cellsOf e = 3)
    (h : DataW.trod enc P w base sp held fuel e cs = some x) : ∃ y : Acct, cs = y.cells.toList ∧ y.Ok := by
  obtain ⟨xs, n, _, _, hlen, hxl, hget⟩ := DataW.trod_struct he h
  rw [ze] at hlen
  have hsz : fs.size = 3 := by have := congrArg List.length hfs; simpa using this
  have get : ∀ (i a b : Nat), i < 3 → ([(ts, 0), (tu, 1), (tn, 2)] : List (TypeId × Nat))[i]? = some (a, b) → ∃ z, DataW.trod enc P w base sp held n a ((cs.drop b).take (P.cellsOf a)) = some z := fun i a b hi5 hL => by
    obtain ⟨f, hf, rfl, rfl⟩ := field_of hfs i hL
    have h1 := hget i f hf
    have hs : i < xs.length := by omega
    exact ⟨xs[i], by rw [h1]; simp [hs]⟩
  obtain ⟨z0, g0⟩ := get 0 ts 0 (by decide) rfl
  obtain ⟨z1, g1⟩ := get 1 tu 1 (by decide) rfl
  obtain ⟨z2, g2⟩ := get 2 tn 2 (by decide) rfl
  obtain ⟨s, e0, _, hsl⟩ := DataW.trod_string hs g0
  obtain ⟨m, e1, _, w1⟩ := DataW.trod_int hu g1
  obtain ⟨q, e2, _, w2⟩ := DataW.trod_int hn g2
  rw [zs] at e0; rw [zu] at e1; rw [zn] at e2
  simp only [Lit.wf, Bool.and_eq_true, decide_eq_true_eq] at w1 w2
  have c1 : IntKind.u64.min = 0 := by decide
  have c2 : IntKind.u64.max = 18446744073709551615 := by decide
  have c3 : IntKind.u32.min = 0 := by decide
  have c4 : IntKind.u32.max = 4294967295 := by decide
  refine ⟨⟨s, m.toNat, q.toNat⟩, ?_, ⟨hsl, by simp only; omega, by simp only; omega⟩⟩
  have hm : ((m.toNat : Nat) : Int) = m := Int.toNat_of_nonneg (by omega)
  have hq : ((q.toNat : Nat) : Int) = q := Int.toNat_of_nonneg (by omega)
  have es : cs = (cs.drop 0).take 1 ++ ((cs.drop 1).take 1 ++ (cs.drop 2).take 1) := by
    have s2 : (cs.drop 1).take 1 ++ (cs.drop 2).take 1 = cs.drop 1 := by
      have : (cs.drop 2).take 1 = (cs.drop 1).drop 1 := by rw [List.drop_drop, List.take_of_length_le (by rw [List.length_drop]; omega)]
      rw [this, List.take_append_drop]
    rw [s2, List.drop_zero, List.take_append_drop]
  rw [es, e0, e1, e2]
  simp [Acct.cells, hm, hq]
end
end Go.Alm
