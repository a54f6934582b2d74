/- Plain lemmas and laws of the machine that the walks use; without conditions of their own. -/
import Derived.WalkKit
import Derived.OrdersHeld
import Derived.Deep.AppendSrc
import Derived.Laws.IdiomCopy
/- The steps of a walk by the kernel's own reckoning: what leaves the world alone is run by the kernel; one law for each step that reads or writes. -/
namespace Go.Alm
open Go Go.RowKit

/-! ### worlds -/

/-- Of the blocks that were there, all but those of `S` are as they were. -/
structure Fr (w w' : World) (S : Nat → Prop) : Prop where
  os : w'.os = w.os
  tape : w'.tape = w.tape
  output : w'.output = w.output
  size : w.heap.size ≤ w'.heap.size
  block : ∀ k, k < w.heap.size → ¬ S k → w'.heap[k]? = w.heap[k]?

/-- No block; one; those below a number. -/
def N0 : Nat → Prop := fun _ => False
def One (b : Nat) : Nat → Prop := fun k => k = b
def Old (B : Nat) : Nat → Prop := fun k => k < B
def Own (v : Value) : Nat → Prop := fun k => v.ownBlock = some k
def Or2 (S T : Nat → Prop) : Nat → Prop := fun k => S k ∨ T k
/-- Two have no block in common. -/
def Dis (S T : Nat → Prop) : Prop := ∀ k, S k → ¬ T k
/-- What `T` has is of `S`, or new. -/
def New (w : World) (S T : Nat → Prop) : Prop := ∀ k, T k → S k ∨ w.heap.size ≤ k
def In (w : World) (S : Nat → Prop) : Prop := ∀ k, S k → k < w.heap.size

theorem Dis.sym {S T : Nat → Prop} (h : Dis S T) : Dis T S := fun k ht hs => h k hs ht
theorem Dis.n0 {S : Nat → Prop} : Dis S N0 := fun _ _ h => h
theorem Dis.n0' {S : Nat → Prop} : Dis N0 S := fun _ h => h.elim
theorem Dis.step {w : World} {S S' T : Nat → Prop} (h : Dis S T) (hn : New w S S') (ht : In w T) : Dis S' T := fun k hk hT => by
  rcases hn k hk with h1 | h1
  · exact h k h1 hT
  · have := ht k hT; omega
theorem Dis.fresh {w : World} {S T : Nat → Prop} (hn : New w N0 S) (ht : In w T) : Dis S T := Dis.n0'.step hn ht
theorem Dis.or {S T U : Nat → Prop} (h : Dis S U) (k : Dis T U) : Dis (Or2 S T) U := fun i hi => hi.elim (h i) (k i)
theorem Dis.or' {S T U : Nat → Prop} (h : Dis U S) (k : Dis U T) : Dis U (Or2 S T) := fun i hi hx => hx.elim (h i hi) (k i hi)
theorem Dis.left {S T U : Nat → Prop} (h : Dis (Or2 S T) U) : Dis S U := fun k hk => h k (.inl hk)
theorem Dis.right {S T U : Nat → Prop} (h : Dis (Or2 S T) U) : Dis T U := fun k hk => h k (.inr hk)
theorem Dis.sub {S T U : Nat → Prop} (h : ∀ k, T k → S k) (d : Dis U S) : Dis U T := fun k hk ht => d k hk (h k ht)
theorem New.refl (w : World) (S : Nat → Prop) : New w S S := fun _ h => .inl h
theorem New.trans {w w1 : World} {S T U : Nat → Prop} (h : New w S T) (k : New w1 T U) (hs : w.heap.size ≤ w1.heap.size) : New w S U := fun i hi => by
  rcases k i hi with h1 | h1
  · exact h i h1
  · exact .inr (Nat.le_trans hs h1)
theorem New.one {w : World} {b : Nat} (h : b = w.heap.size) : New w N0 (One b) := fun k hk => .inr (by rw [hk, h]; exact Nat.le_refl _)
theorem New.later {w w1 : World} {S : Nat → Prop} (h : New w1 N0 S) (hs : w.heap.size ≤ w1.heap.size) : New w N0 S := fun k hk => (h k hk).imp id (Nat.le_trans hs)
theorem New.made {w w1 : World} {S : Nat → Prop} {b : Nat} (h : b = w1.heap.size) (hs : w.heap.size ≤ w1.heap.size) : New w S (One b) := fun k hk => .inr (by rw [hk, h]; exact hs)
theorem New.later' {w w1 : World} {S T : Nat → Prop} (h : New w1 N0 T) (hs : w.heap.size ≤ w1.heap.size) : New w S T := fun k hk => .inr (Nat.le_trans hs ((h k hk).elim (fun h => h.elim) id))
theorem New.or {w : World} {S T U V : Nat → Prop} (h : New w S U) (k : New w T V) : New w (Or2 S T) (Or2 U V) := fun i hi => by
  rcases hi with hi | hi
  · exact (h i hi).imp .inl id
  · exact (k i hi).imp .inr id
theorem New.left {w : World} {S T U : Nat → Prop} (h : New w S (Or2 T U)) : New w S T := fun k hk => h k (.inl hk)
theorem New.right {w : World} {S T U : Nat → Prop} (h : New w S (Or2 T U)) : New w S U := fun k hk => h k (.inr hk)
theorem New.two {w : World} {S T U : Nat → Prop} (h : New w S T) (k : New w S U) : New w S (Or2 T U) := fun i hi => hi.elim (h i) (k i)
theorem In.le {w w' : World} {S : Nat → Prop} (h : In w S) (hs : w.heap.size ≤ w'.heap.size) : In w' S := fun k hk => Nat.lt_of_lt_of_le (h k hk) hs
theorem In.n0 {w : World} : In w N0 := fun _ h => h.elim
theorem In.old {w : World} {B : Nat} (h : B ≤ w.heap.size) : In w (Old B) := fun _ hk => Nat.lt_of_lt_of_le hk h

theorem Fr.refl (w : World) (S : Nat → Prop) : Fr w w S := ⟨rfl, rfl, rfl, Nat.le_refl _, fun _ _ _ => rfl⟩
theorem Fr.mono {w w' : World} {S T : Nat → Prop} (h : Fr w w' S) (hs : ∀ k, S k → k < w.heap.size → T k) : Fr w w' T :=
  ⟨h.os, h.tape, h.output, h.size, fun k hk ht => h.block k hk fun hx => ht (hs k hx hk)⟩
theorem Fr.any {w w' : World} {S : Nat → Prop} (h : Fr w w' N0) : Fr w w' S := h.mono fun _ h _ => h.elim
theorem Fr.trans {a b c : World} {S T U : Nat → Prop} (h : Fr a b S) (k : Fr b c T) (hs : ∀ i, i < a.heap.size → S i ∨ T i → U i) : Fr a c U :=
  ⟨k.os.trans h.os, k.tape.trans h.tape, k.output.trans h.output, Nat.le_trans h.size k.size, fun i hi hu =>
    (k.block i (Nat.lt_of_lt_of_le hi h.size) fun ht => hu (hs i hi (.inr ht))).trans (h.block i hi fun hx => hu (hs i hi (.inl hx)))⟩
/-- A step behind others, that touches what is of `S` or new. -/
theorem Fr.then {a b c : World} {S T : Nat → Prop} (h : Fr a b S) (k : Fr b c T) (hn : New a S T) : Fr a c S := h.trans k fun i hi hx => by
  rcases hx with hx | hx
  · exact hx
  · rcases hn i hx with h1 | h1
    · exact h1
    · omega
theorem Fr.tr {a b c : World} {S : Nat → Prop} (h : Fr a b S) (k : Fr b c N0) : Fr a c S := h.then k fun _ h => h.elim
theorem lt_of_get {w : World} {b : Nat} {o : Obj} (h : w.heap[b]? = some o) : b < w.heap.size := (Array.getElem?_eq_some_iff.1 h).1
theorem In.one {w : World} {b : Nat} {o : Obj} (h : w.heap[b]? = some o) : In w (One b) := fun k hk => by rw [hk]; exact lt_of_get h
theorem Fr.keep {w w' : World} {S : Nat → Prop} (h : Fr w w' S) {b : Nat} {o : Obj} (hb : w.heap[b]? = some o) (hn : Dis (One b) S) : w'.heap[b]? = some o :=
  (h.block b (lt_of_get hb) (hn b rfl)).trans hb
theorem Fr.below {w w' : World} (h : Fr w w' N0) : Below w.heap.size w w' := ⟨h.os, h.tape, h.output, h.size, fun k hk => h.block k hk (fun h => h)⟩
theorem Fr.of_below {w w' : World} (h : Below w.heap.size w w') : Fr w w' N0 := ⟨h.os, h.tape, h.output, h.size, fun k hk _ => h.block k hk⟩
theorem Fr.drew {w w' : World} {S : Nat → Prop} (h : Fr w w' S) : Fr w w'.drew S := ⟨h.os, h.tape, h.output, h.size, h.block⟩
theorem Fr.of_drew {w w' : World} {S : Nat → Prop} (h : Fr w.drew w' S) : Fr w w' S := ⟨h.os, h.tape, h.output, h.size, h.block⟩
theorem Fr.alloc1 (w : World) (o : Obj) : Fr w (w.alloc o) N0 := ⟨rfl, rfl, rfl, by simp, fun k hk _ => Below.heap_alloc _ _ _ hk⟩
theorem Fr.grown {w w' : World} {v : Value} (h : w.grownBy w' v.ownBlock) : Fr w w' (Own v) :=
  ⟨h.os, h.tape, h.output, h.size, fun k hk hn => h.block k hk (fun e => hn e.symm)⟩
theorem Fr.cell {w w' : World} {S : Nat → Prop} (h : Fr w w' S) {x : Addr} {v : Value} (hc : w.cell? x = some v) (hn : ¬ S x.block) : w'.cell? x = some v :=
  (World.cell?_of_block (h.block x.block (World.block_lt_of_cell? w x hc) hn)).trans hc

theorem off {b : Bool} {p : Prop} (h : b = false) : b = true → p := fun h' => by rw [h] at h'; cases h'

/-! ### what the kernel runs -/

def pureVal {α : Type} (P : Program) : Sem α → Option α
  | .pure a => some a
  | .program k => pureVal P (k P)
  | .mark _ k => pureVal P k
  | _ => none

theorem pureVal_run {α : Type} {P : Program} : ∀ {s : Sem α} {a : α}, pureVal P s = some a → ∀ w, s.run P w = .ok a w
  | .pure a, b, h, w => by simp [pureVal] at h; subst h; rfl
  | .program k, b, h, w => by simp only [pureVal] at h; simp only [Sem.run]; exact pureVal_run h w
  | .mark m k, b, h, w => by simp only [pureVal] at h; simp only [Sem.run]; exact pureVal_run h w
  | .load .., _, h, _ | .store .., _, h, _ | .new .., _, h, _ | .shape .., _, h, _ | .freeze .., _, h, _ | .frozen .., _, h, _ | .getObj .., _, h, _ | .setObj .., _, h, _ | .choose .., _, h, _ | .sys .., _, h, _ | .halt .., _, h, _ => by simp [pureVal] at h

def stepVal (P : Program) (a : Act) (o : Oper) : Option Value :=
  match pureVal P (execOp a.eval o) with
  | some (.value v) => some v
  | some .skip => some undef
  | _ => none

def okP (P : Program) (ops : Array Oper) : List Oper → Act → Bool
  | [], _ => true
  | o :: l, a => if Region.wanted o (yielded ops a.tmps) then
      match stepVal P a o with
      | some v => okP P ops l (a.put o.dst v)
      | none => false
    else okP P ops l (a.put o.dst undef)

def runP (P : Program) (ops : Array Oper) : List Oper → Act → Act
  | [], a => a
  | o :: l, a => runP P ops l (a.put o.dst (if Region.wanted o (yielded ops a.tmps) then (stepVal P a o).getD undef else undef))

/-- A frame: what some slots hold; the others hold whatever. -/
def mk (n : Nat) (l : List (Nat × Value)) (u : Nat → Value) : Act := ⟨((List.range n).map fun i => (l.lookup i).getD (u i)).toArray, []⟩
theorem mem_of_lookup {l : List (Nat × Value)} {i : Nat} {v : Value} (h : l.lookup i = some v) : (i, v) ∈ l := by
  induction l with
  | nil => simp at h
  | cons x l ih =>
    obtain ⟨j, u⟩ := x
    simp only [List.lookup_cons] at h
    split at h
    · rename_i hj
      simp only [Option.some.injEq] at h
      have : i = j := by simpa using hj
      subst this; subst h
      exact List.mem_cons_self
    · exact List.mem_cons_of_mem _ (ih h)
theorem is_mk {n : Nat} {l : List (Nat × Value)} {a : Act} (hs : a.tmps.size = n) (hd : a.defers = []) (hl : l.map (fun x => a.eval (.tmp x.1)) = l.map (·.2)) : ∃ u, a = mk n l u := by
  refine ⟨fun i => a.eval (.tmp i), ?_⟩
  have hmem : ∀ j v, (j, v) ∈ l → a.eval (.tmp j) = v := by
    intro j v hm
    have := List.map_inj_left.1 hl (j, v) hm
    simpa using this
  obtain ⟨tmps, defers⟩ := a
  simp only at hs hd
  subst hd
  unfold mk
  congr 1
  apply Array.ext
  · simp [hs]
  · intro i h1 h2
    simp only [List.getElem_toArray, List.getElem_map, List.getElem_range]
    cases hlk : l.lookup i with
    | none => simp [Act.eval, h1]
    | some v =>
      have := hmem i v (mem_of_lookup hlk)
      simp only [Option.getD_some]
      rw [← this]
      simp [Act.eval, h1]

/-! ### code, by its place -/

def child : Code → Nat → Code
  | .seq a _, 0 => a
  | .seq _ b, _ => b
  | .cond _ a _, 0 => a
  | .cond _ _ b, _ => b
  | .block _ b, _ => b
  | .loop b, _ => b
  | .scope b, _ => b
  | .rangeFunc _ _ a _, 0 => a
  | .rangeFunc _ _ _ b, _ => b
  | c, _ => c
def bodyOf (P : Program) (f : Nat) : Code := match (P.funcs[f]?).bind (·.body) with | some c => c | none => .skip
def cAt (P : Program) (f : Nat) (p : List Nat) : Code := p.foldl child (bodyOf P f)
def opsOf : Code → Array Oper
  | .region _ ops _ => ops
  | _ => #[]
/-- The operations of the region at a place. -/
def rAt (P : Program) (f : Nat) (p : List Nat) : Array Oper := opsOf (cAt P f p)

/-- The code at a place, shut: no tactic looks into it. -/
structure CW (P : Program) (f : Nat) (p : List Nat) (Q : Exit → Act → World → Prop) (a : Act) (w : World) : Prop where
  out : (cAt P f p).wp P Q a w

section
variable {P : Program} {Q : Exit → Act → World → Prop} {a : Act} {w : World} {f : Nat} {p : List Nat}

theorem c_seq (p0 p1 : List Nat) (h : cAt P f p = .seq (cAt P f p0) (cAt P f p1)) (k : CW P f p0 (Exit.then (fun a w => CW P f p1 Q a w) Q) a w) : CW P f p Q a w := by
  refine ⟨?_⟩
  rw [h]
  exact wp_seq (Code.wp_mono (fun e a w hq => by cases e <;> first | exact CW.out hq | exact hq) k.out)
theorem c_skip (h : cAt P f p = .skip) (k : Q .normal a w) : CW P f p Q a w := ⟨by rw [h]; exact wp_skip k⟩
theorem c_ret (h : cAt P f p = .ret) (k : Q .ret a w) : CW P f p Q a w := ⟨by rw [h]; exact wp_ret k⟩
theorem c_exit (id : Nat) (h : cAt P f p = .exit id) (k : Q (.exit id) a w) : CW P f p Q a w := ⟨by rw [h]; exact wp_exit k⟩
theorem c_goto (l : Nat) (h : cAt P f p = .goto l) (k : Q (.goto l) a w) : CW P f p Q a w := ⟨by rw [h]; exact wp_goto k⟩
theorem c_block (id : Nat) (p0 : List Nat) (h : cAt P f p = .block id (cAt P f p0)) (k : CW P f p0 (Exit.inBlock id Q) a w) : CW P f p Q a w := ⟨by rw [h]; exact wp_block k.out⟩
theorem c_label (l : Nat) (h : cAt P f p = .label l) (k : Q .normal a w) : CW P f p Q a w := ⟨by rw [h]; exact wp_label k⟩
theorem c_then (c : Operand) (p0 p1 : List Nat) (h : cAt P f p = .cond c (cAt P f p0) (cAt P f p1)) (hc : a.eval c = .bool true) (k : CW P f p0 Q a w) : CW P f p Q a w := ⟨by rw [h]; exact wp_cond_true hc k.out⟩
theorem c_else (c : Operand) (p0 p1 : List Nat) (h : cAt P f p = .cond c (cAt P f p0) (cAt P f p1)) (hc : a.eval c = .bool false) (k : CW P f p1 Q a w) : CW P f p Q a w := ⟨by rw [h]; exact wp_cond_false hc k.out⟩
theorem c_if (c : Operand) (t : Bool) (p0 p1 : List Nat) (h : cAt P f p = .cond c (cAt P f p0) (cAt P f p1)) (hc : a.eval c = .bool t)
    (k1 : t = true → CW P f p0 Q a w) (k2 : t = false → CW P f p1 Q a w) : CW P f p Q a w := ⟨by rw [h]; exact wp_cond_split hc (fun e => (k1 e).out) (fun e => (k2 e).out)⟩
theorem c_loop (I : Act → World → Prop) (μ : Act → World → Nat) (p0 : List Nat) (h : cAt P f p = .loop (cAt P f p0)) (h0 : I a w)
    (round : ∀ a w, I a w → CW P f p0 (Exit.then (fun a' w' => I a' w' ∧ μ a' w' < μ a w) Q) a w) : CW P f p Q a w := ⟨by rw [h]; exact wp_loop I μ h0 fun a w hi => (round a w hi).out⟩

theorem inBlock_hit {id : Nat} (h : Q .normal a w) : Exit.inBlock id Q (.exit id) a w := by simp [Exit.inBlock, h]
theorem inBlock_miss {id id' : Nat} (hn : id' ≠ id) (h : Q (.exit id') a w) : Exit.inBlock id Q (.exit id') a w := by simp [Exit.inBlock, hn, h]

/-- At a region's operation number `i`. -/
structure wpAt (P : Program) (ops : Array Oper) (Q : Exit → Act → World → Prop) (i : Nat) (a : Act) (w : World) : Prop where
  out : wpList P ops Q (ops.toList.drop i) a w
/-- One operation, shut. -/
structure OpW (P : Program) (o : Oper) (a : Act) (w : World) (K : Act → World → Prop) (Q : Exit → Act → World → Prop) : Prop where
  out : o.wp P a w K Q

theorem c_reg (id : Nat) (R : Array Oper) (h : cAt P f p = .region id R false) (k : wpAt P R Q 0 a w) : CW P f p Q a w := ⟨by
  rw [h]; exact wp_region_list (by simpa using k.out)⟩

variable {ops : Array Oper} {i : Nat}

theorem at_done (h : i = ops.size) (k : Q .normal a w) : wpAt P ops Q i a w := by
  subst h
  refine ⟨?_⟩
  rw [List.drop_eq_nil_of_le (by simp)]
  exact k

theorem at_pures_list (rest : List Oper) : ∀ (l : List Oper) (a : Act), okP P ops l a = true → wpList P ops Q rest (runP P ops l a) w → wpList P ops Q (l ++ rest) a w
  | [], _, _, h => h
  | o :: l, a, hok, h => by
    simp only [List.cons_append, wpList]
    simp only [okP] at hok
    simp only [runP] at h
    by_cases hw : Region.wanted o (yielded ops a.tmps) = true
    · simp only [hw, if_true] at hok h ⊢
      refine .inl ?_
      cases hs : stepVal P a o with
      | none => rw [hs] at hok; cases hok
      | some v =>
        rw [hs] at hok h
        simp only [Option.getD_some] at h
        have ih := at_pures_list rest l (a.put o.dst v) hok h
        unfold stepVal at hs
        cases hp : pureVal P (execOp a.eval o) with
        | none => rw [hp] at hs; cases hs
        | some n =>
          rw [hp] at hs
          have hr := pureVal_run hp w
          unfold Oper.wp
          rw [hr]
          cases n <;> simp at hs
          case value u => subst hs; exact ih
          case skip => subst hs; exact ih
    · simp only [hw] at hok h ⊢
      simp only [Bool.false_eq_true, if_false] at hok h ⊢
      exact at_pures_list rest l _ hok h

def okI (P : Program) (ops : Array Oper) (i j : Nat) (a : Act) : Bool := okP P ops ((ops.toList.drop i).take (j - i)) a
def runI (P : Program) (ops : Array Oper) (i j : Nat) (a : Act) : Act := runP P ops ((ops.toList.drop i).take (j - i)) a

/-- Operations `i` to `j` leave the world alone: the kernel runs them. -/
theorem at_pures (j : Nat) (hij : Nat.ble i j = true) (hok : okI P ops i j a = true)
    (k : wpAt P ops Q j (runI P ops i j a) w) : wpAt P ops Q i a w := by
  unfold okI at hok
  unfold runI at k
  have hle := Nat.le_of_ble_eq_true hij
  have k := k.out
  refine ⟨?_⟩
  have e : ops.toList.drop i = (ops.toList.drop i).take (j - i) ++ ops.toList.drop j := by
    conv => lhs; rw [← List.take_append_drop (j - i) (ops.toList.drop i)]
    rw [List.drop_drop, Nat.add_sub_cancel' hle]
  rw [e]
  exact at_pures_list _ _ _ hok k

theorem drop_get {o : Oper} (h : ops[i]? = some o) : ops.toList.drop i = o :: ops.toList.drop (i + 1) := by
  have hi := (Array.getElem?_eq_some_iff.1 h).1
  have he := (Array.getElem?_eq_some_iff.1 h).2
  rw [List.drop_eq_getElem_cons (by simpa using hi)]
  simp [he]

/-- The operation at a place. -/
def opAt (ops : Array Oper) (i : Nat) : Oper := ops.getD i default

theorem at_op (hi : Nat.blt i ops.size = true) (hw : Region.wanted (opAt ops i) (yielded ops a.tmps) = true) (h : OpW P (opAt ops i) a w (wpAt P ops Q i.succ) Q) : wpAt P ops Q i a w := by
  have hlt : i < ops.size := by simpa using hi
  have ho : ops[i]? = some (opAt ops i) := by simp [opAt, hlt]
  refine ⟨?_⟩
  rw [drop_get ho, wpList, if_pos hw]
  exact .inl (Oper.wp_mono (fun a w h => h.out) h.out)

/-- It is there, and its guard says yes. -/
def onAt (ops : Array Oper) (i : Nat) (a : Act) : Bool := Nat.blt i ops.size && Region.wanted (opAt ops i) (yielded ops a.tmps)
theorem onAt_spec (h : onAt ops i a = true) : Nat.blt i ops.size = true ∧ Region.wanted (opAt ops i) (yielded ops a.tmps) = true := by
  simpa [onAt] using h

theorem at_do (hon : onAt ops i a = true) (h : OpW P (opAt ops i) a w (wpAt P ops Q i.succ) Q) : wpAt P ops Q i a w := at_op (onAt_spec hon).1 (onAt_spec hon).2 h

theorem op_run {o : Oper} {K : Act → World → Prop} (v : Value) (w' : World) (h : (execOp a.eval o).run P w = .ok (.value v) w') (k : K (a.put o.dst v) w') : OpW P o a w K Q := by
  refine ⟨?_⟩
  unfold Oper.wp
  rw [h]
  exact k
theorem op_run_skip {o : Oper} {K : Act → World → Prop} (w' : World) (h : (execOp a.eval o).run P w = .ok .skip w') (k : K (a.put o.dst undef) w') : OpW P o a w K Q := by
  refine ⟨?_⟩
  unfold Oper.wp
  rw [h]
  exact k
theorem at_run (v : Value) (w' : World) (hon : onAt ops i a = true) (h : (execOp a.eval (opAt ops i)).run P w = .ok (.value v) w') (k : wpAt P ops Q i.succ (a.put (opAt ops i).dst v) w') : wpAt P ops Q i a w := by
  obtain ⟨h1, h2⟩ := onAt_spec hon
  refine at_op h1 h2 ⟨?_⟩
  unfold Oper.wp
  rw [h]
  exact k
theorem at_run_skip (w' : World) (hon : onAt ops i a = true) (h : (execOp a.eval (opAt ops i)).run P w = .ok .skip w') (k : wpAt P ops Q i.succ (a.put (opAt ops i).dst undef) w') : wpAt P ops Q i a w := by
  obtain ⟨h1, h2⟩ := onAt_spec hon
  refine at_op h1 h2 ⟨?_⟩
  unfold Oper.wp
  rw [h]
  exact k

/-- The kernel runs it; what it yields is said in other words. -/
theorem at_as (v v' : Value) (hon : onAt ops i a = true) (h : stepVal P a (opAt ops i) = some v) (e : v = v') (k : wpAt P ops Q i.succ (a.put (opAt ops i).dst v') w) : wpAt P ops Q i a w := by
  subst e
  have ho := onAt_spec hon
  refine at_op ho.1 ho.2 ⟨?_⟩
  unfold stepVal at h
  cases hp : pureVal P (execOp a.eval (opAt ops i)) with
  | none => rw [hp] at h; cases h
  | some n =>
    rw [hp] at h
    have hr := pureVal_run hp w
    unfold Oper.wp
    rw [hr]
    cases n <;> simp at h
    case value u => subst h; exact k
    case skip => subst h; exact k
theorem at_int {kd : IntKind} (x y : Int) (hon : onAt ops i a = true) (h : stepVal P a (opAt ops i) = some (.int kd x)) (e : x = y) (k : wpAt P ops Q i.succ (a.put (opAt ops i).dst (.int kd y)) w) : wpAt P ops Q i a w :=
  at_as _ _ hon h (by rw [e]) k
/-- It yields a Bool: two ways. -/
theorem at_split (t : Bool) (hon : onAt ops i a = true) (h : stepVal P a (opAt ops i) = some (.bool t)) (k1 : t = true → wpAt P ops Q i.succ (a.put (opAt ops i).dst (.bool true)) w)
    (k2 : t = false → wpAt P ops Q i.succ (a.put (opAt ops i).dst (.bool false)) w) : wpAt P ops Q i a w := by
  cases t with
  | true => exact at_as _ _ hon h rfl (k1 rfl)
  | false => exact at_as _ _ hon h rfl (k2 rfl)

/-! ### calls -/

def callOf : Op → Option (Nat × Array Operand)
  | .call c => match c.callee with
    | .value (.func f) => some (f, c.args)
    | _ => none
  | _ => none
def hasBody (P : Program) (f : Nat) : Bool := match P.funcs[f]? with | some fn => fn.body.isSome && !(fn.name == "runtime.NumGoroutine") | none => false

theorem run_callFunc {f : Nat} {args : Array Value} (h : hasBody P f = true) : (callFunc f args).run P w = .ok (.enter f args) w := by
  unfold hasBody at h
  cases hf : P.funcs[f]? with
  | none => simp [hf] at h
  | some fn =>
    simp only [hf, Bool.and_eq_true, Bool.not_eq_true'] at h
    have h1 : (fn.name == "runtime.NumGoroutine") = false := h.2
    have h2 : fn.body.isNone = false := by cases hb : fn.body <;> simp_all
    simp only [callFunc, program, Bind.bind, Sem.bind, Sem.run, hf, h1, h2, Bool.false_eq_true, if_false]
    simp only [Pure.pure, Sem.run]

theorem op_call {o : Oper} {K : Act → World → Prop} (g : Nat) (xs : Array Operand) (args : Array Value) (ho : callOf o.op = some (g, xs)) (ha : xs.map a.eval = args) (hb : hasBody P g = true)
    (k : Calls P g args w fun e w' => ∃ v, e = .returned v ∧ K (a.put o.dst v) w') : OpW P o a w K Q := by
  refine ⟨?_⟩
  subst ha
  unfold callOf at ho
  split at ho
  · rename_i c hc
    split at ho
    · rename_i g' hcal
      simp only [Option.some.injEq, Prod.mk.injEq] at ho
      obtain ⟨rfl, rfl⟩ := ho
      unfold Oper.wp
      have hr : (execOp a.eval o).run P w = .ok (.enter g' (c.args.map a.eval)) w := by
        unfold execOp
        simp only [hc, resolve, hcal, Act.eval, Deferred.ofValue, invoke]
        simp only [Sem.run_bind, Sem.run_pure, Result.andThen_ok, Array.empty_append, Array.append_empty]
        exact run_callFunc hb
      rw [hr]
      simp only [Oper.upon]
      refine k.mono fun e w' ⟨v, he, hk⟩ => ?_
      subst he
      exact hk
    · cases ho
  · cases ho

/-! ### reading and writing -/

def loadOf : Op → Option (Nat × Operand)
  | .load t x => some (t, x)
  | _ => none
def storeOf : Op → Option (Nat × Operand × Operand)
  | .store t x y => some (t, x, y)
  | _ => none
/-- Is it read as a row of cells? -/
def rowed (P : Program) (t : TypeId) : Option Bool := (P.underlying t).map fun d => match d with | .struct _ | .array _ _ => true | _ => false
def sizeT (P : Program) (t : TypeId) : Option Nat := (P.info? t).map (·.size)

theorem run_isAgg (t : TypeId) (b : Bool) (h : rowed P t = some b) : (isAgg t).run P w = .ok b w := by
  unfold rowed at h
  cases hu : P.underlying t with
  | none => simp [hu] at h
  | some d =>
    simp only [hu, Option.map_some, Option.some.injEq] at h
    unfold isAgg
    simp only [Sem.run_bind, run_underlying hu, Result.andThen_ok]
    subst h
    cases d <;> simp

theorem run_load1 {o : Oper} (t : Nat) (x : Operand) (b off : Nat) (c : Array Value) (te : Nat) (fz : Nat × Nat) (v : Value) (ho : loadOf o.op = some (t, x)) (hr : rowed P t = some false)
    (hx : a.eval x = .pointer (some ⟨b, off, none⟩)) (hb : w.heap[b]? = some (.cells c te fz)) (hc : c[off]? = some v) : (execOp a.eval o).run P w = .ok (.value v) w := by
  unfold loadOf at ho
  split at ho
  · rename_i t' x' hop
    simp only [Option.some.injEq, Prod.mk.injEq] at ho
    obtain ⟨rfl, rfl⟩ := ho
    have hcell : w.cell? ⟨b, off, none⟩ = some v := by rw [cell_of_row w b off c te fz hb]; exact hc
    unfold execOp
    simp only [hop, hx, Instr.loadAt, Instr.sureAddr, loadVar, load, Sem.run_bind, Sem.run_pure, Result.andThen_ok, run_isAgg _ _ hr, Bool.false_eq_true, if_false, Sem.run, hcell]
  · cases ho

/-- A cell, wherever. -/
theorem run_loadC {o : Oper} (t : Nat) (x : Operand) (ad : Addr) (v : Value) (ho : loadOf o.op = some (t, x)) (hr : rowed P t = some false)
    (hx : a.eval x = .pointer (some ad)) (hc : w.cell? ad = some v) : (execOp a.eval o).run P w = .ok (.value v) w := by
  unfold loadOf at ho
  split at ho
  · rename_i t' x' hop
    simp only [Option.some.injEq, Prod.mk.injEq] at ho
    obtain ⟨rfl, rfl⟩ := ho
    unfold execOp
    simp only [hop, hx, Instr.loadAt, Instr.sureAddr, loadVar, load, Sem.run_bind, Sem.run_pure, Result.andThen_ok, run_isAgg _ _ hr, Bool.false_eq_true, if_false, Sem.run, hc]
  · cases ho

theorem run_sizeOf {t n : Nat} (hn : sizeT P t = some n) : (sizeOf t).run P w = .ok n w := by
  unfold sizeT at hn
  cases hi : P.info? t with
  | none => simp [hi] at hn
  | some inf => simp only [hi, Option.map_some, Option.some.injEq] at hn; simp [sizeOf, typeInfo, hi, hn]

theorem run_loadN {o : Oper} (t : Nat) (x : Operand) (b off n : Nat) (c : Array Value) (te : Nat) (fz : Nat × Nat) (vs : Array Value) (ho : loadOf o.op = some (t, x)) (hr : rowed P t = some true) (hn : sizeT P t = some n)
    (hx : a.eval x = .pointer (some ⟨b, off, none⟩)) (hb : w.heap[b]? = some (.cells c te fz)) (hle : Nat.ble (off + n) c.size = true) (hv : c.extract off (off + n) = vs) : (execOp a.eval o).run P w = .ok (.value (.agg vs)) w := by
  have hle' := Nat.le_of_ble_eq_true hle
  unfold loadOf at ho
  split at ho
  · rename_i t' x' hop
    simp only [Option.some.injEq, Prod.mk.injEq] at ho
    obtain ⟨rfl, rfl⟩ := ho
    subst hv
    have hl : (loadCells ⟨b, off, none⟩ n).run P w = .ok (c.extract off (off + n)) w := by
      have := run_loadCells_list (P := P) (w := w) ⟨b, off, none⟩ (c.extract off (off + n)).toList (by
        intro j v hj
        have hj' : (c.extract off (off + n))[j]? = some v := by rw [← hj]; exact (Array.getElem?_toList).symm
        have hadd : (⟨b, off, none⟩ : Addr).add j = ⟨b, off + j, none⟩ := by unfold Addr.add; split <;> simp_all
        rw [hadd, cell_of_row w b (off + j) c te fz hb]
        rw [Array.getElem?_extract] at hj'
        split at hj'
        · exact hj'
        · cases hj')
      have hlen : (c.extract off (off + n)).toList.length = n := by simp; omega
      rw [hlen] at this
      rw [this]
    unfold execOp
    simp only [hop, hx, Instr.loadAt, Instr.sureAddr, loadVar, Sem.run_bind, Sem.run_pure, Result.andThen_ok, run_isAgg _ _ hr, if_true, run_sizeOf hn, hl]
  · cases ho

theorem at_load1 (t : Nat) (x : Operand) (b off : Nat) (c : Array Value) (te : Nat) (fz : Nat × Nat) (v : Value) (hon : onAt ops i a = true) (ho : loadOf (opAt ops i).op = some (t, x)) (hr : rowed P t = some false)
    (hx : a.eval x = .pointer (some ⟨b, off, none⟩)) (hb : w.heap[b]? = some (.cells c te fz)) (hc : c[off]? = some v) (k : wpAt P ops Q i.succ (a.put (opAt ops i).dst v) w) : wpAt P ops Q i a w :=
  at_run v w hon (run_load1 t x b off c te fz v ho hr hx hb hc) k
theorem at_loadN (t : Nat) (x : Operand) (b off n : Nat) (c : Array Value) (te : Nat) (fz : Nat × Nat) (vs : Array Value) (hon : onAt ops i a = true) (ho : loadOf (opAt ops i).op = some (t, x)) (hr : rowed P t = some true) (hn : sizeT P t = some n)
    (hx : a.eval x = .pointer (some ⟨b, off, none⟩)) (hb : w.heap[b]? = some (.cells c te fz)) (hle : Nat.ble (off + n) c.size = true) (hv : c.extract off (off + n) = vs) (k : wpAt P ops Q i.succ (a.put (opAt ops i).dst (.agg vs)) w) : wpAt P ops Q i a w :=
  at_run (.agg vs) w hon (run_loadN t x b off n c te fz vs ho hr hn hx hb hle hv) k
end
end Go.Alm

/- Steps that make memory or write it; a function's beginning and end. -/
namespace Go.Alm
open Go Go.RowKit

/-- One new block, and what is yielded then. -/
def newVal {α : Type} (P : Program) (N : Nat) : Sem α → Option (Obj × α)
  | .new o k => (pureVal P (k N)).map fun x => (o, x)
  | .program k => newVal P N (k P)
  | .mark _ k => newVal P N k
  | _ => none

theorem newVal_run {α : Type} {P : Program} {o : Obj} {x : α} : ∀ {s : Sem α} (w : World), newVal P w.heap.size s = some (o, x) → s.run P w = .ok x (w.alloc o)
  | .new o' k, w, h => by
    simp only [newVal] at h
    cases hp : pureVal P (k w.heap.size) with
    | none => simp [hp] at h
    | some y =>
      simp only [hp, Option.map_some, Option.some.injEq, Prod.mk.injEq] at h
      obtain ⟨rfl, rfl⟩ := h
      simp only [Sem.run]
      exact pureVal_run hp _
  | .program k, w, h => by simp only [newVal] at h; simp only [Sem.run]; exact newVal_run w h
  | .mark m k, w, h => by simp only [newVal] at h; simp only [Sem.run]; exact newVal_run w h
  | .pure _, _, h | .load .., _, h | .store .., _, h | .shape .., _, h | .freeze .., _, h | .frozen .., _, h | .getObj .., _, h | .setObj .., _, h | .choose .., _, h | .sys .., _, h | .halt .., _, h => by simp [newVal] at h

def newStep (P : Program) (a : Act) (o : Oper) (N : Nat) : Option (Obj × Value) :=
  match newVal P N (execOp a.eval o) with
  | some (ob, .value v) => some (ob, v)
  | _ => none

/-- `c`, with `vs` from place `off` on. -/
def spl (c : Array Value) (off : Nat) (vs : Array Value) : Array Value := (c.toList.take off ++ vs.toList ++ c.toList.drop (off + vs.size)).toArray
theorem size_spl {c : Array Value} {off : Nat} {vs : Array Value} (h : off + vs.size ≤ c.size) : (spl c off vs).size = c.size := by
  simp [spl]; omega

section
variable {P : Program} {Q : Exit → Act → World → Prop} {a : Act} {w : World} {ops : Array Oper} {i : Nat} {R : Ending → World → Prop}

theorem op_new {op : Oper} {K : Act → World → Prop} (o : Obj) (v : Nat → Value) (h : ∀ N, newStep P a op N = some (o, v N))
    (k : ∀ w' b, w'.heap[b]? = some o → b = w.heap.size → Fr w w' N0 → K (a.put op.dst (v b)) w') : OpW P op a w K Q := by
  have hn := h w.heap.size
  unfold newStep at hn
  split at hn
  · rename_i ob u hs
    simp only [Option.some.injEq, Prod.mk.injEq] at hn
    obtain ⟨rfl, rfl⟩ := hn
    exact op_run _ _ (newVal_run w hs) (k _ _ (heap_alloc_new w ob) rfl (Fr.alloc1 w ob))
  · cases hn

theorem op_store {o : Oper} {K : Act → World → Prop} (t : Nat) (x y : Operand) (b off : Nat) (v : Value) (c : Array Value) (te : Nat) (c' : Array Value) (ho : storeOf o.op = some (t, x, y))
    (hx : a.eval x = .pointer (some ⟨b, off, none⟩)) (hy : a.eval y = v) (hb : w.heap[b]? = some (.cells c te (0, 0))) (hs : sizeT P t = some v.cells.size) (hle : Nat.ble (off + v.cells.size) c.size = true)
    (h1 : v.cells.toList.all (·.oneCell') = true) (hc' : spl c off v.cells = c')
    (k : ∀ w', w'.heap[b]? = some (.cells c' te (0, 0)) → w'.heap.size = w.heap.size → Fr w w' (One b) → K (a.put o.dst undef) w') : OpW P o a w K Q := by
  have hle' := Nat.le_of_ble_eq_true hle
  unfold storeOf at ho
  split at ho
  · rename_i t' x' y' hop
    simp only [Option.some.injEq, Prod.mk.injEq] at ho
    obtain ⟨rfl, rfl, rfl⟩ := ho
    have hsz : (sizeOf t').run P w = .ok v.cells.size w := run_sizeOf hs
    have hst := run_storeCells_at P b off te v.cells.toList 0 c w hb (by simpa using hle') (fun u hu => List.all_eq_true.1 h1 u hu)
    subst hc'
    refine op_run_skip (w.setRow b (spl c off v.cells)) ?_ (k _ (setRow_heap w b c _ te _ hb) (size_setRow _ _ _) ⟨rfl, rfl, rfl, by simp, fun j _ hj => setRow_other w b j _ hj⟩)
    unfold execOp
    simp only [hop, hx, hy, Instr.storeAt, Instr.sureAddr, storeVar, Sem.run_bind, Sem.run_pure, Result.andThen_ok, hsz, ne_eq, not_true_eq_false, if_false, hst, spl]
    simp
  · cases ho

/-- One cell. -/
theorem op_store1 {o : Oper} {K : Act → World → Prop} (t : Nat) (x y : Operand) (b off : Nat) (v : Value) (c : Array Value) (te : Nat) (c' : Array Value) (ho : storeOf o.op = some (t, x, y))
    (hx : a.eval x = .pointer (some ⟨b, off, none⟩)) (hy : a.eval y = v) (hv : v.cells = #[v]) (hv1 : v.oneCell' = true) (hb : w.heap[b]? = some (.cells c te (0, 0))) (hs : sizeT P t = some 1) (hle : Nat.ble (off + 1) c.size = true)
    (hc' : spl c off #[v] = c')
    (k : ∀ w', w'.heap[b]? = some (.cells c' te (0, 0)) → w'.heap.size = w.heap.size → Fr w w' (One b) → K (a.put o.dst undef) w') : OpW P o a w K Q := by
  refine op_store t x y b off v c te c' ho hx hy hb (by rw [hv]; exact hs) (by rw [hv]; exact hle) (by rw [hv]; simp [hv1]) (by rw [hv]; exact hc') k

theorem c_enter {f : Nat} {fn : Func} {args : Array Value} (a0 : Act) (hf : P.funcs[f]? = some fn) (hb : fn.body.isSome = true) (ha : Act.mk (args ++ Array.replicate (fn.ntmps - args.size) undef) [] = a0)
    (k : CW P f [] (bodyPost P fn R) a0 w) : Calls P f args w R := by
  subst ha
  cases hbo : fn.body with
  | none => simp [hbo] at hb
  | some c =>
    refine calls_of_wp hf hbo ?_
    have e : cAt P f [] = c := by simp [cAt, bodyOf, hf, hbo]
    have k := k.out
    rw [e] at k
    exact k

/-- What slot by slot is handed back. -/
theorem fin_ret {fn : Func} (v : Value) (hd : a.defers = []) (hr : pureVal P (results fn a.tmps) = some v) (k : R (.returned v) w) : bodyPost P fn R .ret a w :=
  ⟨hd, v, pureVal_run hr w, k⟩
theorem fin_end {fn : Func} (v : Value) (hd : a.defers = []) (hr : pureVal P (results fn a.tmps) = some v) (k : R (.returned v) w) : bodyPost P fn R .normal a w :=
  ⟨hd, v, pureVal_run hr w, k⟩
end
end Go.Alm

/- A region whose order is open: one order serves, where what reads or reckons may be done ahead and what acts comes one by one. -/
namespace Go.Alm
open Go Go.RowKit

section
variable {P : Program} {ops : Array Oper} {Q : Exit → Act → World → Prop} {S : World → Prop} {sk : Nat → Bool}

/-- Whatever order is picked; `S` holds behind those of `sk`. -/
def wpAnyP (P : Program) (ops : Array Oper) (Q : Exit → Act → World → Prop) (S : World → Prop) (sk : Nat → Bool) : Nat → Array Bool → Act → World → Prop
  | 0, listed, a, w => Region.ready .any ops listed = [] ∧ Q .normal a w
  | fuel + 1, listed, a, w =>
    (Region.ready .any ops listed = [] → Q .normal a w) ∧
    ∀ i ∈ Region.ready .any ops listed, wpOp P ops Q i (fun a' w' => (sk i = true → S w') ∧ wpAnyP P ops Q S sk fuel (listed.setIfInBounds i true) a' w') a w

theorem wpAny_of_P : ∀ (fuel : Nat) (listed : Array Bool) (a : Act) (w : World), wpAnyP P ops Q S sk fuel listed a w → wpAny P .any ops Q fuel listed a w
  | 0, _, _, _, h => h
  | fuel + 1, _, _, _, h => ⟨h.1, fun i hi => wpOp_mono (fun a' w' h' => wpAny_of_P fuel _ a' w' h'.2) (h.2 i hi)⟩

def Closed (ops : Array Oper) (listed : Array Bool) : Prop :=
  ∀ j oj, ops[j]? = some oj → listed.getD j false = true → ∀ e ∈ oj.after, Region.binds .any e = true → listed.getD e.on false = true

theorem Closed.set {listed : Array Bool} {i : Nat} (hc : Closed ops listed) (hi : i ∈ Region.ready .any ops listed) : Closed ops (listed.setIfInBounds i true) := by
  obtain ⟨_, oi, hoi, hall⟩ := mem_ready.1 hi
  intro j oj hj hl e he hb
  by_cases hij : i = j
  · subst hij
    obtain rfl : oj = oi := Option.some.inj (hj.symm.trans hoi)
    exact getD_set_true (hall e he hb)
  · rw [getD_set_ne false hij] at hl
    exact getD_set_true (hc j oj hj hl e he hb)

/-- Does `j` wait for `i`, by edges? -/
def reach (ops : Array Oper) : Nat → Nat → Nat → Bool
  | 0, _, _ => false
  | n + 1, j, i => match ops[j]? with
    | some o => o.after.any fun e => Region.binds .any e && (e.on == i || (Nat.blt i e.on && reach ops n e.on i))
    | none => false

theorem reach_listed {listed : Array Bool} (hc : Closed ops listed) : ∀ (n j i : Nat), reach ops n j i = true → listed.getD j false = true → listed.getD i false = true
  | n + 1, j, i, h, hj => by
    simp only [reach] at h
    split at h
    · rename_i o ho
      obtain ⟨e, he, hb⟩ := Array.any_eq_true'.1 h
      simp only [Bool.and_eq_true, Bool.or_eq_true, beq_iff_eq] at hb
      have h1 := hc j o ho hj e he hb.1
      rcases hb.2 with rfl | hr
      · exact h1
      · exact reach_listed hc n e.on i hr.2 h1
    · cases h

theorem reach_ready {listed : Array Bool} (hc : Closed ops listed) {n j i : Nat} (h : reach ops n j i = true) (hj : j ∈ Region.ready .any ops listed) : listed.getD i false = true := by
  obtain ⟨_, o, ho, hall⟩ := mem_ready.1 hj
  cases n with
  | zero => simp [reach] at h
  | succ n =>
    simp only [reach, ho] at h
    obtain ⟨e, he, hb⟩ := Array.any_eq_true'.1 h
    simp only [Bool.and_eq_true, Bool.or_eq_true, beq_iff_eq] at hb
    have h1 := hall e he hb.1
    rcases hb.2 with rfl | hr
    · exact h1
    · exact reach_listed hc n e.on i hr.2 h1

theorem not_listed {listed : Array Bool} {i : Nat} (h : listed.getD i true = false) : listed.getD i false ≠ true := by
  rcases Nat.lt_or_ge i listed.size with h' | h'
  · simp [h'] at h ⊢; exact h
  · simp [Array.getElem?_eq_none h'] at h

/-- What is quiet may be done first. -/
theorem anyP_first {i n : Nat} {oi : Oper} {v : Value} (ld : Bool) (hi : ops[i]? = some oi) (hsel : ∀ (j : Nat) (o : Oper) cs b, ops[j]? = some o → o.op ≠ .select cs b)
    (hQ : ∀ c a w, Q (.panic c) (a.put oi.dst v) w → Q (.panic c) a w) :
    ∀ (fuel : Nat) (listed : Array Bool) (a : Act) (w : World), Closed ops listed →
      (∀ j oj, ops[j]? = some oj → j ≠ i → listed.getD j true = false → reach ops n j i = false → oi.apart ops oj = true ∧ ((ld || sk i) = true → sk j = true)) →
      i ∈ Region.ready .any ops listed → YieldsIf P ops (fun w => ld = true → S w) oi v a → ((ld || sk i) = true → S w) →
      wpAnyP P ops Q S sk fuel (listed.setIfInBounds i true) (a.put oi.dst v) w → wpAnyP P ops Q S sk (fuel + 1) listed a w := by
  intro fuel
  induction fuel with
  | zero =>
    intro listed a w _ _ hr hy hS H
    refine ⟨fun h => (by rw [h] at hr; cases hr), fun j hj => ?_⟩
    by_cases hji : j = i
    · subst hji; exact hy.wpOp hi (fun h => hS (by simp [h])) ⟨fun h => hS (by simp [h]), H⟩
    · have := ready_mono hj hji
      rw [H.1] at this
      cases this
  | succ fuel ih =>
    intro listed a w hc hfree hr hy hS H
    refine ⟨fun h => (by rw [h] at hr; cases hr), fun j hj => ?_⟩
    by_cases hji : j = i
    · subst hji; exact hy.wpOp hi (fun h => hS (by simp [h])) ⟨fun h => hS (by simp [h]), H⟩
    · have h1 := H.2 j (ready_mono hj hji)
      obtain ⟨hjun, oj, hoj, hall⟩ := mem_ready.1 hj
      have hiun := (mem_ready.1 hr).1
      have hnr : reach ops n j i = false := by
        cases hre : reach ops n j i with
        | false => rfl
        | true => exact absurd (reach_ready hc hre hj) (not_listed hiun)
      obtain ⟨hap, hsk⟩ := hfree j oj hoj hji hjun hnr
      have h2 := wpOp_putIf hoj hap (fun cs b => hsel i oi cs b hi) (fun cs b => hsel j oj cs b hoj) hQ hy h1
      have hfree' : ∀ k ok, ops[k]? = some ok → k ≠ i → (listed.setIfInBounds j true).getD k true = false → reach ops n k i = false →
          oi.apart ops ok = true ∧ ((ld || sk i) = true → sk k = true) := fun k ok hk hki hun hno => by
        refine hfree k ok hk hki ?_ hno
        by_cases hjk : j = k
        · subst hjk; exact hjun
        · rw [getD_set_ne true hjk] at hun; exact hun
      refine wpOp_mono (fun a' w' h3 => ⟨h3.2.1, ?_⟩) h2
      refine ih (listed.setIfInBounds j true) a' w' (hc.set hj) hfree' (ready_mono hr (Ne.symm hji)) h3.1 (fun hl => h3.2.1 (hsk hl)) ?_
      rw [Array.setIfInBounds_comm _ _ hji]
      exact h3.2.2

/-- How an operation is met: quietly (does it read?), or as one that acts. -/
inductive PK where
  | q (ld : Bool)
  | e

/-- One order, in which it is shown. -/
def wpPlan (P : Program) (ops : Array Oper) (Q : Exit → Act → World → Prop) (S : World → Prop) (sk : Nat → Bool) : List (Nat × PK) → Act → World → Prop
  | [], a, w => Q .normal a w
  | (i, .q ld) :: π, a, w => ∃ v, YieldsIf P ops (fun w => ld = true → S w) (opAt ops i) v a ∧ ((ld || sk i) = true → S w) ∧ wpPlan P ops Q S sk π (a.put (opAt ops i).dst v) w
  | (i, .e) :: π, a, w => wpOp P ops Q i (fun a' w' => (sk i = true → S w') ∧ wpPlan P ops Q S sk π a' w') a w

def freeB (ops : Array Oper) (sk : Nat → Bool) (listed : Array Bool) (i : Nat) (ld : Bool) : Bool :=
  (List.range ops.size).all fun j => j == i || listed.getD j true || reach ops 9 j i || ((opAt ops i).apart ops (opAt ops j) && (!(ld || sk i) || sk j))
theorem freeB_spec {listed : Array Bool} {i : Nat} {ld : Bool} (h : freeB ops sk listed i ld = true) (j : Nat) (oj : Oper) (hj : ops[j]? = some oj) (hne : j ≠ i) (hun : listed.getD j true = false) (hno : reach ops 9 j i = false) :
    (opAt ops i).apart ops oj = true ∧ ((ld || sk i) = true → sk j = true) := by
  have hlt := (Array.getElem?_eq_some_iff.1 hj).1
  have h1 := List.all_eq_true.1 h j (List.mem_range.2 hlt)
  have hoj : opAt ops j = oj := by simp [opAt, hlt, (Array.getElem?_eq_some_iff.1 hj).2]
  simp only [Bool.or_eq_true, Bool.and_eq_true, beq_iff_eq, hne, hun, hno, false_or, Bool.false_eq_true, Bool.not_eq_true', hoj] at h1
  refine ⟨h1.1, fun hl => ?_⟩
  rcases h1.2 with h2 | h2
  · simp only [Bool.or_eq_true] at hl; simp only [Bool.or_eq_false_iff] at h2; rcases hl with hl | hl <;> simp_all
  · exact h2

def planB (ops : Array Oper) (sk : Nat → Bool) : List (Nat × PK) → Array Bool → Bool
  | [], listed => (Region.ready .any ops listed).isEmpty
  | (i, .q ld) :: π, listed => (Region.ready .any ops listed).contains i && freeB ops sk listed i ld && planB ops sk π (listed.setIfInBounds i true)
  | (i, .e) :: π, listed => decide (Region.ready .any ops listed = [i]) && planB ops sk π (listed.setIfInBounds i true)

theorem opAt_of {i : Nat} {o : Oper} (h : ops[i]? = some o) : ops[i]? = some (opAt ops i) := by
  have hlt := (Array.getElem?_eq_some_iff.1 h).1
  simp [opAt, hlt]

theorem plan_any (hs : Region.noSelect ops = true) (hQ : ∀ c a w, ¬ Q (.panic c) a w) : ∀ (π : List (Nat × PK)) (listed : Array Bool) (a : Act) (w : World), Closed ops listed →
    planB ops sk π listed = true → wpPlan P ops Q S sk π a w → wpAnyP P ops Q S sk π.length listed a w
  | [], listed, a, w, _, hB, h => ⟨by simpa [planB] using hB, h⟩
  | (i, .q ld) :: π, listed, a, w, hc, hB, h => by
    simp only [planB, Bool.and_eq_true] at hB
    obtain ⟨⟨hr, hf⟩, hB'⟩ := hB
    have hr' : i ∈ Region.ready .any ops listed := by simpa using hr
    obtain ⟨_, o, ho, _⟩ := mem_ready.1 hr'
    obtain ⟨v, hy, hS, hk⟩ := h
    exact anyP_first (n := 9) ld (opAt_of ho) (Region.noSelect_spec hs) (fun c a w hq => absurd hq (hQ _ _ _)) π.length listed a w hc
      (fun j oj hj hne hun hno => freeB_spec hf j oj hj hne hun hno) hr' hy hS (plan_any hs hQ π _ _ _ (hc.set hr') hB' hk)
  | (i, .e) :: π, listed, a, w, hc, hB, h => by
    simp only [planB, Bool.and_eq_true, decide_eq_true_eq] at hB
    obtain ⟨hr, hB'⟩ := hB
    have hi : i ∈ Region.ready .any ops listed := by rw [hr]; simp
    refine ⟨fun h0 => (by rw [h0] at hr; cases hr), fun j hj => ?_⟩
    rw [hr] at hj
    obtain rfl : j = i := by simpa using hj
    exact wpOp_mono (fun a' w' hk => ⟨hk.1, plan_any hs hQ π _ _ _ (hc.set hi) hB' hk.2⟩) h

theorem getD_rep {m j : Nat} : (Array.replicate m false).getD j false = false := by
  rcases Nat.lt_or_ge j m with h | h
  · simp [h]
  · simp [h]

/-- Only the plain way out. -/
def OnlyN (K : Act → World → Prop) : Exit → Act → World → Prop
  | .normal, a, w => K a w
  | _, _, _ => False

/-- At number `n` of the order. -/
structure plAt (P : Program) (ops : Array Oper) (K : Act → World → Prop) (S : World → Prop) (sk : Nat → Bool) (π : List (Nat × PK)) (n : Nat) (a : Act) (w : World) : Prop where
  out : wpPlan P ops (OnlyN K) S sk (π.drop n) a w

theorem c_plan {f : Nat} {p : List Nat} {a : Act} {w : World} (id : Nat) (R : Array Oper) (S : World → Prop) (sk : Nat → Bool) (π : List (Nat × PK)) (hm : P.follows .mixedOrders = true) (h : cAt P f p = .region id R true) (hs : Region.noSelect R = true)
    (hlen : π.length = R.size) (hB : planB R sk π (Array.replicate R.size false) = true)
    (k : ∀ w1, Fr w w1 N0 → plAt P R (fun a w => Q .normal a w) S sk π 0 a w1) : CW P f p Q a w := by
  refine ⟨?_⟩
  rw [h]
  refine Code.wp_mono (Q := OnlyN (fun a w => Q .normal a w)) (fun e a w hq => by cases e <;> first | exact hq | exact hq.elim) ?_
  refine wp_region_any hm (wpAny_of_P (S := S) (sk := sk) _ _ _ _ ?_)
  rw [← hlen]
  refine plan_any hs (fun _ _ _ h => h) π _ a _ (fun j oj _ hl => ?_) (hlen ▸ hB) (by simpa using (k w.drew (Fr.refl _ _).drew).out)
  rw [getD_rep] at hl
  cases hl

variable {K : Act → World → Prop} {π : List (Nat × PK)} {n : Nat} {a : Act} {w : World}

theorem pl_done (h : n = π.length) (k : K a w) : plAt P ops K S sk π n a w := by
  subst h
  refine ⟨?_⟩
  rw [List.drop_eq_nil_of_le (Nat.le_refl _)]
  exact k

theorem dropL {α : Type} {l : List α} {n : Nat} {x : α} (h : l[n]? = some x) : l.drop n = x :: l.drop (n + 1) := by
  obtain ⟨hi, he⟩ := List.getElem?_eq_some_iff.1 h
  rw [List.drop_eq_getElem_cons hi, he]

def okQ (P : Program) (ops : Array Oper) : List (Nat × PK) → Act → Bool
  | [], _ => true
  | (i, .q false) :: l, a => if Region.wanted (opAt ops i) (yielded ops a.tmps) then
      match pureVal P (execOp a.eval (opAt ops i)) with
      | some (.value v) => okQ P ops l (a.put (opAt ops i).dst v)
      | _ => false
    else okQ P ops l (a.put (opAt ops i).dst undef)
  | _, _ => false
def runQ (P : Program) (ops : Array Oper) : List (Nat × PK) → Act → Act
  | [], a => a
  | (i, _) :: l, a => runQ P ops l (a.put (opAt ops i).dst (if Region.wanted (opAt ops i) (yielded ops a.tmps) then (stepVal P a (opAt ops i)).getD undef else undef))

theorem pl_pures_list (rest : List (Nat × PK)) : ∀ (l : List (Nat × PK)) (a : Act), okQ P ops l a = true → ((l.any fun x => sk x.1) = true → S w) → wpPlan P ops Q S sk rest (runQ P ops l a) w → wpPlan P ops Q S sk (l ++ rest) a w
  | [], _, _, _, h => h
  | (i, .e) :: l, a, hok, _, _ => by simp [okQ] at hok
  | (i, .q true) :: l, a, hok, _, _ => by simp [okQ] at hok
  | (i, .q false) :: l, a, hok, hS, h => by
    simp only [List.cons_append, wpPlan]
    simp only [okQ] at hok
    simp only [runQ] at h
    have hS1 : (false || sk i) = true → S w := fun hk => hS (by simp only [Bool.false_or] at hk; simp [hk])
    have hS2 : (l.any fun x => sk x.1) = true → S w := fun hk => hS (by simp only [List.any_cons, hk, Bool.or_true])
    by_cases hw : Region.wanted (opAt ops i) (yielded ops a.tmps) = true
    · simp only [hw, if_true] at hok h
      split at hok
      · rename_i v hp
        have hs : stepVal P a (opAt ops i) = some v := by simp [stepVal, hp]
        rw [hs] at h
        refine ⟨v, .inl ⟨hw, fun w' _ => pureVal_run hp w'⟩, hS1, pl_pures_list rest l _ hok hS2 h⟩
      · cases hok
    · simp only [hw] at hok h
      simp only [Bool.false_eq_true, if_false] at hok h
      exact ⟨undef, .inr ⟨by simpa using hw, rfl⟩, hS1, pl_pures_list rest l _ hok hS2 h⟩

def okJ (P : Program) (ops : Array Oper) (π : List (Nat × PK)) (n m : Nat) (a : Act) : Bool := okQ P ops ((π.drop n).take (m - n)) a
def runJ (P : Program) (ops : Array Oper) (π : List (Nat × PK)) (n m : Nat) (a : Act) : Act := runQ P ops ((π.drop n).take (m - n)) a
def skJ (sk : Nat → Bool) (π : List (Nat × PK)) (n m : Nat) : Bool := ((π.drop n).take (m - n)).any fun x => sk x.1

theorem pl_pures (m : Nat) (hnm : Nat.ble n m = true) (hok : okJ P ops π n m a = true) (hS : skJ sk π n m = true → S w)
    (k : plAt P ops K S sk π m (runJ P ops π n m a) w) : plAt P ops K S sk π n a w := by
  unfold okJ at hok
  unfold skJ at hS
  unfold runJ at k
  have hle := Nat.le_of_ble_eq_true hnm
  have k := k.out
  refine ⟨?_⟩
  have e : π.drop n = (π.drop n).take (m - n) ++ π.drop m := by
    conv => lhs; rw [← List.take_append_drop (m - n) (π.drop n)]
    rw [List.drop_drop, Nat.add_sub_cancel' hle]
  rw [e]
  exact pl_pures_list _ _ _ hok hS k

/-- What reads: its value in every world that is as `S` says. -/
theorem pl_read (i : Nat) (v : Value) (hn : π[n]? = some (i, .q true)) (hon : onAt ops i a = true) (h : ∀ w', S w' → (execOp a.eval (opAt ops i)).run P w' = .ok (.value v) w') (hS : S w)
    (k : plAt P ops K S sk π n.succ (a.put (opAt ops i).dst v) w) : plAt P ops K S sk π n a w := by
  have k := k.out
  refine ⟨?_⟩
  rw [dropL hn]
  exact ⟨v, .inl ⟨(onAt_spec hon).2, fun w' hw' => h w' (hw' rfl)⟩, fun _ => hS, k⟩

/-- What acts. -/
theorem pl_do (i : Nat) (hn : π[n]? = some (i, .e)) (hon : onAt ops i a = true) (h : OpW P (opAt ops i) a w (fun a' w' => (sk i = true → S w') ∧ plAt P ops K S sk π n.succ a' w') (OnlyN K)) : plAt P ops K S sk π n a w := by
  obtain ⟨h1, h2⟩ := onAt_spec hon
  have hlt : i < ops.size := by simpa using h1
  refine ⟨?_⟩
  rw [dropL hn]
  have ho : ops[i]? = some (opAt ops i) := by simp [opAt, hlt]
  simp only [wpPlan, wpOp, ho, h2, if_true]
  exact .inl (Oper.wp_mono (fun a w hk => ⟨hk.1, hk.2.out⟩) h.out)
/-- What would act is not wanted. -/
theorem pl_off (i : Nat) (hn : π[n]? = some (i, .e)) (hi : Nat.blt i ops.size = true) (hw : Region.wanted (opAt ops i) (yielded ops a.tmps) = false) (hS : sk i = true → S w)
    (k : plAt P ops K S sk π n.succ (a.put (opAt ops i).dst undef) w) : plAt P ops K S sk π n a w := by
  have hlt : i < ops.size := by simpa using hi
  have k := k.out
  refine ⟨?_⟩
  rw [dropL hn]
  have ho : ops[i]? = some (opAt ops i) := by simp [opAt, hlt]
  simp only [wpPlan, wpOp, ho, hw, Bool.false_eq_true, if_false]
  exact ⟨hS, k⟩
end
end Go.Alm

namespace Go.Alm
open Go
section
variable {P : Program} {ops : Array Oper} {S : World → Prop} {sk : Nat → Bool} {K : Act → World → Prop} {π : List (Nat × PK)} {n : Nat} {a : Act} {w : World}

theorem stepVal_run {o : Oper} {v : Value} (h : pureVal P (execOp a.eval o) = some (.value v)) (w : World) : (execOp a.eval o).run P w = .ok (.value v) w := pureVal_run h w

/-- The kernel runs it; said in other words. -/
theorem pl_as (i : Nat) (v v' : Value) (hn : π[n]? = some (i, .q false)) (hon : onAt ops i a = true) (h : okQ P ops [(i, .q false)] a = true ∧ stepVal P a (opAt ops i) = some v) (e : v = v') (hS : sk i = true → S w)
    (k : plAt P ops K S sk π n.succ (a.put (opAt ops i).dst v') w) : plAt P ops K S sk π n a w := by
  subst e
  have hw := (onAt_spec hon).2
  obtain ⟨h1, h2⟩ := h
  simp only [okQ, hw, if_true] at h1
  have k := k.out
  refine ⟨?_⟩
  rw [dropL hn]
  split at h1
  · rename_i u hp
    have : u = v := by simpa [stepVal, hp] using h2
    subst this
    exact ⟨u, .inl ⟨hw, fun w' _ => pureVal_run hp w'⟩, fun hk => hS (by simpa using hk), k⟩
  · cases h1

theorem pl_split (i : Nat) (t : Bool) (hn : π[n]? = some (i, .q false)) (hon : onAt ops i a = true) (h : pureVal P (execOp a.eval (opAt ops i)) = some (.value (.bool t))) (hS : sk i = true → S w)
    (k1 : t = true → plAt P ops K S sk π n.succ (a.put (opAt ops i).dst (.bool true)) w) (k2 : t = false → plAt P ops K S sk π n.succ (a.put (opAt ops i).dst (.bool false)) w) : plAt P ops K S sk π n a w := by
  have hw := (onAt_spec hon).2
  have key : plAt P ops K S sk π n.succ (a.put (opAt ops i).dst (.bool t)) w := by cases t with | true => exact k1 rfl | false => exact k2 rfl
  have key := key.out
  refine ⟨?_⟩
  rw [dropL hn]
  exact ⟨_, .inl ⟨hw, fun w' _ => pureVal_run h w'⟩, fun hk => hS (by simpa using hk), key⟩

/-- A quiet one by a law of its own. -/
theorem pl_quiet (i : Nat) (v : Value) (hn : π[n]? = some (i, .q false)) (hon : onAt ops i a = true) (h : ∀ w' : World, (execOp a.eval (opAt ops i)).run P w' = .ok (.value v) w') (hS : sk i = true → S w)
    (k : plAt P ops K S sk π n.succ (a.put (opAt ops i).dst v) w) : plAt P ops K S sk π n a w := by
  have k := k.out
  refine ⟨?_⟩
  rw [dropL hn]
  exact ⟨v, .inl ⟨(onAt_spec hon).2, fun w' _ => h w'⟩, fun hk => hS (by simpa using hk), k⟩

/-- What would read is not wanted. -/
theorem pl_roff (i : Nat) (hn : π[n]? = some (i, .q true)) (_ : Nat.blt i ops.size = true) (hw : Region.wanted (opAt ops i) (yielded ops a.tmps) = false) (hS : S w)
    (k : plAt P ops K S sk π n.succ (a.put (opAt ops i).dst undef) w) : plAt P ops K S sk π n a w := by
  have k := k.out
  refine ⟨?_⟩
  rw [dropL hn]
  exact ⟨undef, .inr ⟨hw, rfl⟩, fun _ => hS, k⟩
end
end Go.Alm

/- Slices: what is read of them; rows of the call's own, and what is appended to them. -/
namespace Go.Alm
open Go Go.RowKit

/-- From an address on, if there is one, these cells stand. -/
def Rd (w : World) (ao : Option Addr) (xs : List Value) : Prop := ∀ j u, xs[j]? = some u → ∃ ad, ao = some ad ∧ w.cell? (ad.add j) = some u

theorem Rd.nil (w : World) (ao : Option Addr) : Rd w ao [] := fun j u h => by simp at h
theorem add_block (ad : Addr) (j : Nat) : (ad.add j).block = ad.block := by unfold Addr.add; split <;> rfl
theorem Rd.keep {w w' : World} {S : Nat → Prop} {ao : Option Addr} {xs : List Value} (h : Rd w ao xs) (hF : Fr w w' S) (hn : ∀ ad, ao = some ad → ¬ S ad.block) : Rd w' ao xs := fun j u hj => by
  obtain ⟨ad, rfl, hc⟩ := h j u hj
  exact ⟨ad, rfl, hF.cell hc (by rw [add_block]; exact hn ad rfl)⟩
/-- Where what is read stands. -/
def Ar (ao : Option Addr) (xs : List Value) : Nat → Prop := fun k => xs ≠ [] ∧ ∃ ad, ao = some ad ∧ ad.block = k
theorem Rd.keep' {w w' : World} {S : Nat → Prop} {ao : Option Addr} {xs : List Value} (h : Rd w ao xs) (hF : Fr w w' S) (hn : Dis (Ar ao xs) S) : Rd w' ao xs := fun j u hj => by
  obtain ⟨ad, rfl, hc⟩ := h j u hj
  exact ⟨ad, rfl, hF.cell hc (by rw [add_block]; exact hn _ ⟨(by rintro rfl; simp at hj), ad, rfl, rfl⟩)⟩
theorem Rd.in {w : World} {ao : Option Addr} {xs : List Value} (h : Rd w ao xs) : In w (Ar ao xs) := by
  rintro k ⟨hx, ad, rfl, rfl⟩
  cases xs with
  | nil => exact absurd rfl hx
  | cons u r =>
    obtain ⟨ad', he, hc⟩ := h 0 u rfl
    cases he
    have := World.block_lt_of_cell? w _ hc
    rwa [add_block] at this
theorem Rd.drew {w : World} {ao : Option Addr} {xs : List Value} (h : Rd w ao xs) : Rd w.drew ao xs := fun j u hj => by
  obtain ⟨ad, hao, hc⟩ := h j u hj
  exact ⟨ad, hao, by simpa using hc⟩
theorem Rd.take {w : World} {ao : Option Addr} {xs : List Value} (h : Rd w ao xs) (n : Nat) : Rd w ao (xs.take n) := fun j u hj => by
  rw [List.getElem?_take] at hj
  split at hj
  · exact h j u hj
  · cases hj
theorem Rd.drop {w : World} {ad : Addr} {xs : List Value} (h : Rd w (some ad) xs) (n : Nat) : Rd w (some (ad.add n)) (xs.drop n) := fun j u hj => by
  rw [List.getElem?_drop] at hj
  obtain ⟨ad', he, hc⟩ := h (n + j) u hj
  cases he
  refine ⟨_, rfl, ?_⟩
  have e : (ad.add n).add j = ad.add (n + j) := by
    unfold Addr.add
    by_cases hn : n = 0 <;> by_cases hj0 : j = 0 <;> simp [hn, hj0, Nat.add_assoc]
  rw [e]; exact hc

theorem Rd.src {P : Program} {w : World} {ao : Option Addr} {xs : List Value} {size n c tx e : Nat} (hk : P.underlying tx = some (.slice e)) (h : Rd w ao xs) (hl : xs.length = n * size) (hs : 0 < size) (h1 : ∀ u ∈ xs, u.oneCell' = true) :
    Src P size tx (.slice ao n c) n xs w := by
  cases ao with
  | some ad => exact Src.ofSlice w hk ad n c xs hl (fun j u hj => by obtain ⟨ad', he, hc⟩ := h j u hj; cases he; exact hc) h1
  | none =>
    have hx : xs = [] := by
      cases xs with
      | nil => rfl
      | cons u r => obtain ⟨_, he, _⟩ := h 0 u rfl; cases he
    subst hx
    have hn : n = 0 := by
      rcases Nat.eq_zero_or_pos n with h0 | h0
      · exact h0
      · have := Nat.mul_pos h0 hs; simp at hl; omega
    subst hn
    exact Src.ofNil w hk c

/-- A slice, of which `n` elements' cells `xs` are read. -/
def SlV (w : World) (v : Value) (n : Nat) (xs : List Value) : Prop := ∃ ao cap, v = .slice ao n cap ∧ Rd w ao xs
/-- Where it stands. -/
def SlF (v : Value) (xs : List Value) : Nat → Prop := match v with
  | .slice ao _ _ => Ar ao xs
  | _ => N0
theorem SlV.keep {w w' : World} {S : Nat → Prop} {v : Value} {n : Nat} {xs : List Value} (h : SlV w v n xs) (F : Fr w w' S) (d : Dis (SlF v xs) S) : SlV w' v n xs := by
  obtain ⟨ao, cap, rfl, hR⟩ := h
  exact ⟨ao, cap, rfl, hR.keep' F d⟩
theorem SlV.in {w : World} {v : Value} {n : Nat} {xs : List Value} (h : SlV w v n xs) : In w (SlF v xs) := by
  obtain ⟨ao, cap, rfl, hR⟩ := h
  exact hR.in
theorem SlV.nil (w : World) : SlV w (.slice none 0 0) 0 [] := ⟨none, 0, rfl, Rd.nil _ _⟩

/-- A row of the call's own. -/
def Row (w : World) (e size : Nat) (v : Value) (n : Nat) (xs : List Value) : Prop := w.ownsRow 0 e size v n xs

theorem Row.nil (w : World) (e size : Nat) : Row w e size (.slice none 0 0) 0 [] := World.ownsRow_nil w 0 e size
theorem Row.length {w : World} {e size n : Nat} {v : Value} {xs : List Value} (h : Row w e size v n xs) : xs.length = n * size := h.1
theorem Row.lt {w : World} {e size n : Nat} {v : Value} {xs : List Value} (h : Row w e size v n xs) : ∀ k, v.ownBlock = some k → k < w.heap.size := fun k hk => (World.ownsRow.lt h k hk).2
theorem Row.keep {w w' : World} {S : Nat → Prop} {e size n : Nat} {v : Value} {xs : List Value} (h : Row w e size v n xs) (hF : Fr w w' S) (hn : Dis (Own v) S) : Row w' e size v n xs := by
  refine ⟨h.1, ?_⟩
  rcases h.2 with h0 | ⟨g, cap, cur, rfl, h1, h2, h3⟩
  · exact .inl h0
  · exact .inr ⟨g, cap, cur, rfl, h1, hF.keep h2 (fun k hk => by rw [hk]; exact hn g rfl), h3⟩
theorem Row.drew {w : World} {e size n : Nat} {v : Value} {xs : List Value} (h : Row w e size v n xs) : Row w.drew e size v n xs := h
/-- Its shape, and what is read of it. -/
theorem Row.read {w : World} {e size n : Nat} {v : Value} {xs : List Value} (h : Row w e size v n xs) : ∃ ao cap, v = .slice ao n cap ∧ n ≤ cap ∧ cap ≤ maxLen ∧ Rd w ao xs ∧ (∀ ad, ao = some ad → v.ownBlock = some ad.block ∧ ad.off = 0 ∧ ad.spot = none) := by
  rcases h.2 with ⟨rfl, rfl⟩ | ⟨g, cap, cur, rfl, h1, h2, h3, h4, h5, h6⟩
  · refine ⟨none, 0, rfl, Nat.le_refl _, Nat.zero_le _, ?_, by simp⟩
    have hx : xs = [] := List.eq_nil_of_length_eq_zero (by simpa using h.1)
    subst hx
    exact Rd.nil _ _
  · refine ⟨some ⟨g, 0, none⟩, cap, rfl, h3, h4, fun j u hj => ⟨_, rfl, World.ownsRow.cells h rfl j u hj⟩, ?_⟩
    rintro ad ⟨rfl⟩
    exact ⟨rfl, rfl, rfl⟩
theorem Row.cells {w : World} {e size n : Nat} {v : Value} {xs : List Value} (h : Row w e size v n xs) : v.cells = #[v] ∧ v.oneCell' = true := by
  obtain ⟨ao, cap, rfl, _⟩ := h.read
  exact ⟨rfl, rfl⟩
theorem Row.made {w : World} {b e size n : Nat} {c : Array Value} (hb : w.heap[b]? = some (.cells c e (0, 0))) (hs : c.size = n * size) (hm : n ≤ maxLen) : Row w e size (.slice (some ⟨b, 0, none⟩) n n) n c.toList :=
  ⟨by simpa using hs, .inr ⟨b, n, c, rfl, Nat.zero_le _, hb, Nat.le_refl _, hm, hs, by rw [List.take_of_length_le (by simp [hs])]⟩⟩
theorem Row.made' {w : World} {b e size n cap : Nat} {c : Array Value} {xs : List Value} (hb : w.heap[b]? = some (.cells c e (0, 0))) (hs : c.size = cap * size) (hm : cap ≤ maxLen) (hn : n ≤ cap) (hx : c.toList.take (n * size) = xs) : Row w e size (.slice (some ⟨b, 0, none⟩) n cap) n xs :=
  ⟨by rw [← hx, List.length_take, Array.length_toList, hs]; exact Nat.min_eq_left (Nat.mul_le_mul_right _ hn), .inr ⟨b, cap, c, rfl, Nat.zero_le _, hb, hn, hm, hs, hx⟩⟩

theorem Row.in {w : World} {e size n : Nat} {v : Value} {xs : List Value} (h : Row w e size v n xs) : In w (Own v) := fun k hk => h.lt k hk

theorem Row.sl {w : World} {e size n : Nat} {v : Value} {xs : List Value} (h : Row w e size v n xs) : SlV w v n xs := by
  obtain ⟨ao, cap, hv, _, _, hR, _⟩ := h.read
  exact ⟨ao, cap, hv, hR⟩
theorem Row.slDis {w : World} {e size n : Nat} {v : Value} {xs : List Value} {T : Nat → Prop} (h : Row w e size v n xs) (d : Dis (Own v) T) : Dis (SlF v xs) T := by
  obtain ⟨ao, cap, rfl, _, _, hR, ho⟩ := h.read
  rintro k ⟨_, ad, rfl, rfl⟩
  exact d _ (ho ad rfl).1
theorem Own_one {b n c : Nat} : Own (.slice (some ⟨b, 0, none⟩) n c) = One b := by
  funext k
  simp [Own, One, Value.ownBlock, eq_comm]
theorem Own_nil {n c : Nat} : Own (.slice none n c) = N0 := by
  funext k
  simp [Own, N0, Value.ownBlock]
theorem Dis.own {b n c : Nat} {T : Nat → Prop} (h : Dis (One b) T) : Dis (Own (.slice (some ⟨b, 0, none⟩) n c)) T := by rw [Own_one]; exact h
theorem New.own {w : World} {S : Nat → Prop} {b n c : Nat} (h : New w S (One b)) : New w S (Own (.slice (some ⟨b, 0, none⟩) n c)) := by rw [Own_one]; exact h

theorem run_append_row {P : Program} {w : World} {t tx ty e : Nat} {i : TypeInfo} {z : Value} {size bytes : Nat} (ht : P.underlying t = some (.slice e)) (hi : P.info? e = some i) (hz : i.zero = some z)
    (hsize : i.size = size) (hby : i.bytes = bytes) (hzs : z.cells.size = size)
    {v : Value} {n : Nat} {xs : List Value} (hown : Row w e size v n xs) {x : Value} {m : Nat} {news : List Value} (hs : Src P size tx x m news w)
    (h63 : n + m ≤ maxLen) (hbytes : (n + m) * bytes ≤ 140737488355328) :
    ∃ v' w', (Builtin.append_ #[t, tx] ty #[v, x]).run P w = .ok v' w' ∧ Row w' e size v' (n + m) (xs ++ news) ∧ Fr w w' (Own v) ∧ New w (Own v) (Own v') := by
  subst hsize
  subst hby
  have hsmall : n + m ≤ 9223372036854775807 := by simp only [maxLen] at h63; omega
  have hlen : (xs ++ news).length = (n + m) * i.size := by rw [List.length_append, hown.1, hs.newsLen, Nat.add_mul]
  have grown : ∀ (old : Nat), old < n + m → ∀ (S : Nat → Prop),
      Row (w.drew.alloc (.cells ((xs ++ news).toArray ++ Builtin.zeroCells z.cells (grownCap w (n + m) old e - (n + m))) e)) e i.size
        (.slice (some ⟨w.heap.size, 0, none⟩) (n + m) (grownCap w (n + m) old e)) (n + m) (xs ++ news) ∧
      Fr w (w.drew.alloc (.cells ((xs ++ news).toArray ++ Builtin.zeroCells z.cells (grownCap w (n + m) old e - (n + m))) e)) S := by
    intro old ho S
    have hge := grownCap_ge w (n + m) old e
    have hcm : grownCap w (n + m) old e ≤ maxLen := grownCap_le_maxLen w (n + m) old e h63
    refine ⟨⟨hlen, .inr ⟨w.heap.size, _, _, rfl, Nat.zero_le _, heap_alloc_new w.drew _, hge, hcm, ?_, ?_⟩⟩, (Fr.alloc1 w.drew _).of_drew.any⟩
    · simp only [Array.size_append, List.size_toArray, size_zeroCells, hzs, hlen, ← Nat.add_mul]
      congr 1
      omega
    · simp only [Array.toList_append]
      rw [← hlen]
      exact List.take_left
  rcases hown.2 with ⟨rfl, rfl⟩ | ⟨g, cap, cur, rfl, hbg, hg, hnc, hcm, hcs, htake⟩
  · have hx : xs = [] := List.eq_nil_of_length_eq_zero (by simpa using hown.1)
    subst hx
    by_cases hm : m = 0
    · subst hm
      have hn : news = [] := List.eq_nil_of_length_eq_zero (by simpa using hs.newsLen)
      subst hn
      refine ⟨.slice none 0 0, w, ?_, Row.nil w e i.size, Fr.refl _ _, New.refl _ _⟩
      rcases hs.kind with ⟨e', hk⟩ | hk <;> simp [Builtin.append_, run_underlying ht, run_underlying hk, sizeOf, typeInfo, hi, hs.len, hs.cells]
    · have hr := run_append_grow_src (P := P) w t tx ty e i z ht hi hz none 0 0 [] (run_firstCells_none w.drew i.size 0 0 0) x m news hs (by omega) (by omega)
        (growslice_fits (by omega) hbytes)
      have hgr := grown 0 (by omega) (Own (.slice none 0 0))
      exact ⟨_, _, hr, hgr.1, hgr.2, fun g hg => .inr (by simp [Own, Value.ownBlock] at hg; omega)⟩
  · by_cases hroom : n + m ≤ cap
    · have hfit : n * i.size + news.length ≤ cur.size := by rw [hs.newsLen, hcs, ← Nat.add_mul]; exact Nat.mul_le_mul_right _ hroom
      have hst := run_storeCells_at P g (n * i.size) e news 0 cur w hg (by simpa using hfit) hs.one
      simp only [Nat.add_zero] at hst
      refine ⟨.slice (some ⟨g, 0, none⟩) (n + m) cap, w.setRow g (cur.toList.take (n * i.size) ++ news ++ cur.toList.drop (n * i.size + news.length)).toArray, ?_,
        ⟨hlen, .inr ⟨g, cap, _, rfl, hbg, setRow_heap w g cur _ e _ hg, hroom, hcm, ?_, ?_⟩⟩, ⟨rfl, rfl, rfl, by simp, fun k _ hk => setRow_other w g k _ (fun e => hk (by simp [Own, Value.ownBlock, e]))⟩, New.refl _ _⟩
      · rcases hs.kind with ⟨e', hk⟩ | hk <;> simp [Builtin.append_, run_underlying ht, run_underlying hk, sizeOf, typeInfo, hi, hs.len, hroom, hs.cells, Addr.add_lit, hst]
      · simp only [List.size_toArray, List.length_append, List.length_take, List.length_drop, Array.length_toList]
        omega
      · rw [htake, ← hlen]
        exact List.take_left
    · have holds : ∀ j u, xs[j]? = some u → w.cell? ((⟨g, 0, none⟩ : Addr).add j) = some u := World.ownsRow.cells hown (g := g) rfl
      have hr := run_append_grow_src (P := P) w t tx ty e i z ht hi hz (some ⟨g, 0, none⟩) n cap xs (run_firstCells_some w.drew i.size n ⟨g, 0, none⟩ n cap xs hown.1 (by simpa using holds)) x m news hs (by omega) (by omega)
        (growslice_fits (by omega) hbytes)
      have hgr := grown cap (by omega) (Own (.slice (some ⟨g, 0, none⟩) n cap))
      exact ⟨_, _, hr, hgr.1, hgr.2, fun g hg => .inr (by simp [Own, Value.ownBlock] at hg; omega)⟩

def appendOf : Op → Option (Operand × Operand × Nat × Nat)
  | .call c => match c.callee, c.args.toList, c.argTypes.toList with
    | .builtin .append, [s, x], [t, tx] => some (s, x, t, tx)
    | _, _, _ => none
  | _ => none

/-- What a type of elements is: its zero value, cells, bytes. -/
def elemT (P : Program) (t : Nat) : Option (Nat × Option Value × Nat × Nat) := match P.underlying t with
  | some (.slice e) => (P.info? e).map fun i => (e, i.zero, i.size, i.bytes)
  | _ => none

section
variable {P : Program} {Q : Exit → Act → World → Prop} {a : Act} {w : World}

theorem run_append_op {o : Oper} (s x : Operand) (t tx : Nat) (ho : appendOf o.op = some (s, x, t, tx)) : (execOp a.eval o).run P w = ((Builtin.append_ #[t, tx] o.type #[a.eval s, a.eval x]).run P w).andThen fun v w' => .ok (.value v) w' := by
  unfold appendOf at ho
  split at ho
  · rename_i c hc
    split at ho
    · rename_i h1 h2 h3
      simp only [Option.some.injEq, Prod.mk.injEq] at ho
      obtain ⟨h4, h5, h6, h7⟩ := ho
      rw [h4, h5] at h2
      rw [h6, h7] at h3
      obtain ⟨cal, args, tys⟩ := c
      simp only at h1 h2 h3
      obtain rfl : args = #[s, x] := by rw [← Array.toArray_toList (xs := args), h2]
      obtain rfl : tys = #[t, tx] := by rw [← Array.toArray_toList (xs := tys), h3]
      subst h1
      unfold execOp
      simp [hc, resolve, invoke, builtin]
    · cases ho
  · cases ho

theorem op_append {o : Oper} {K : Act → World → Prop} (s x : Operand) (t tx e size bytes : Nat) (z : Value) (ho : appendOf o.op = some (s, x, t, tx)) (he : elemT P t = some (e, some z, size, bytes)) (hzs : z.cells.size = size)
    {v : Value} {n : Nat} {xs : List Value} (hs : a.eval s = v) (hown : Row w e size v n xs) {xv : Value} {m : Nat} {news : List Value} (hx : a.eval x = xv) (hsrc : Src P size tx xv m news w)
    (h63 : n + m ≤ maxLen) (hbytes : (n + m) * bytes ≤ 140737488355328)
    (k : ∀ v' w', Row w' e size v' (n + m) (xs ++ news) → Fr w w' (Own v) → New w (Own v) (Own v') → K (a.put o.dst v') w') : OpW P o a w K Q := by
  unfold elemT at he
  split at he
  · rename_i e' ht
    cases hi : P.info? e' with
    | none => simp [hi] at he
    | some inf =>
      simp only [hi, Option.map_some, Option.some.injEq, Prod.mk.injEq] at he
      obtain ⟨rfl, hz, hsz, hby⟩ := he
      obtain ⟨v', w', hr, h1, h2, h3⟩ := run_append_row (P := P) (ty := o.type) ht hi hz hsz hby hzs hown hsrc h63 hbytes
      refine op_run v' w' ?_ (k v' w' h1 h2 h3)
      rw [run_append_op s x t tx ho, hs, hx, hr]
      rfl
  · cases he
end
end Go.Alm

/- Small helps for printed walks. -/
namespace Go.Alm
open Go Go.RowKit

section
variable {Q : Exit → Act → World → Prop} {K : Act → World → Prop} {a : Act} {w : World}
theorem then_n (h : K a w) : Exit.then K Q .normal a w := h
theorem then_r (h : Q .ret a w) : Exit.then K Q .ret a w := h
theorem then_e {id : Nat} (h : Q (.exit id) a w) : Exit.then K Q (.exit id) a w := h
theorem blk_n {id : Nat} (h : Q .normal a w) : Exit.inBlock id Q .normal a w := h
theorem blk_r {id : Nat} (h : Q .ret a w) : Exit.inBlock id Q .ret a w := h
theorem blk_hit {id : Nat} (h : Q .normal a w) : Exit.inBlock id Q (.exit id) a w := by simp [Exit.inBlock, h]
theorem blk_miss {id id' : Nat} (hn : Nat.beq id' id = false) (h : Q (.exit id') a w) : Exit.inBlock id Q (.exit id') a w := by
  have : id' ≠ id := fun e => by subst e; simp at hn
  simp [Exit.inBlock, this, h]
end

/-- How far a counter is from its end. -/
def cnt (N s : Nat) (a : Act) : Nat := N - (intOf (a.eval (.tmp s))).toNat
theorem cnt_lt {N s : Nat} {a a' : Act} (k k' : Int) (h : a.eval (.tmp s) = .int .i64 k) (h' : a'.eval (.tmp s) = .int .i64 k') (h0 : k.toNat < N) (h1 : k.toNat < k'.toNat) : cnt N s a' < cnt N s a := by
  unfold cnt
  rw [h, h']
  simp only [intOf]
  omega

theorem wrapN_i64 {x : Int} (h1 : -9223372036854775808 ≤ x) (h2 : x ≤ 9223372036854775807) : IntKind.i64.wrap x = x := IntWalk.i64_in x ⟨h1, h2⟩
theorem wrapN_u8 {x : Int} (h1 : 0 ≤ x) (h2 : x < 256) : IntKind.u8.wrap x = x := by rw [IntKind.wrap_u8' x]; omega
theorem wrapN_u32 {x : Int} (h1 : 0 ≤ x) (h2 : x < 4294967296) : IntKind.u32.wrap x = x := by rw [IntKind.wrap_u32' x]; omega
theorem wrapN_u64 {x : Int} (h1 : 0 ≤ x) (h2 : x < 18446744073709551616) : IntKind.u64.wrap x = x := by
  rw [show IntKind.u64.wrap x = x % 18446744073709551616 from by simp [IntKind.wrap, IntKind.bits, IntKind.signed]]
  omega
theorem wrap_u8 (x : Int) : IntKind.u8.wrap x = x % 256 := IntKind.wrap_u8' x
theorem wrap_u32 (x : Int) : IntKind.u32.wrap x = x % 4294967296 := IntKind.wrap_u32' x
theorem wrap_u64 (x : Int) : IntKind.u64.wrap x = x % 18446744073709551616 := by simp [IntKind.wrap, IntKind.bits, IntKind.signed]

section
variable {P : Program} {Q : Exit → Act → World → Prop} {a : Act} {w : World} {o : Oper}

/-- An index into a slice or behind an array's address. -/
def idxAOf : Op → Option (Nat × Operand × Operand)
  | .indexAddr t x i => some (t, x, i)
  | _ => none
def elemSz (P : Program) (t : Nat) : Option Nat := match P.underlying t with
  | some (.slice e) => sizeT P e
  | some (.array _ e) => sizeT P e
  | _ => none
def isSl (P : Program) (t : Nat) : Bool := match P.underlying t with | some (.slice _) => true | _ => false
def arrLen (P : Program) (t : Nat) : Option Nat := match P.underlying t with | some (.array n _) => some n | _ => none

theorem run_idx_sl (t : Nat) (x i : Operand) (sz : Nat) (ad : Addr) (n c : Nat) (kd : IntKind) (k : Nat) (ho : idxAOf o.op = some (t, x, i)) (hs : isSl P t = true) (hz : elemSz P t = some sz)
    (hx : a.eval x = .slice (some ad) n c) (hi : a.eval i = .int kd k) (hk : k < n) : (execOp a.eval o).run P w = .ok (.value (.pointer (some (ad.add (k * sz))))) w := by
  unfold idxAOf at ho
  split at ho
  · rename_i t' x' i' hop
    simp only [Option.some.injEq, Prod.mk.injEq] at ho
    obtain ⟨rfl, rfl, rfl⟩ := ho
    unfold isSl at hs
    split at hs
    · rename_i e ht
      have hz' : sizeT P e = some sz := by unfold elemSz at hz; rw [ht] at hz; exact hz
      have hk' : (k : Int) < (n : Int) := by omega
      unfold execOp
      simp [hop, hx, hi, Instr.indexAt, asIntOf, run_underlying ht, run_sizeOf hz']
      intro hge; omega
    · cases hs
  · cases ho

theorem run_idx_arr (t : Nat) (x i : Operand) (sz b off n : Nat) (kd : IntKind) (k : Nat) (ho : idxAOf o.op = some (t, x, i)) (hn : arrLen P t = some n) (hz : elemSz P t = some sz)
    (hx : a.eval x = .pointer (some ⟨b, off, none⟩)) (hi : a.eval i = .int kd k) (hk : k < n) : (execOp a.eval o).run P w = .ok (.value (.pointer (some ⟨b, off + k * sz, none⟩))) w := by
  unfold idxAOf at ho
  split at ho
  · rename_i t' x' i' hop
    simp only [Option.some.injEq, Prod.mk.injEq] at ho
    obtain ⟨rfl, rfl, rfl⟩ := ho
    unfold arrLen at hn
    split at hn
    · rename_i m e ht
      simp only [Option.some.injEq] at hn
      subst hn
      have hz' : sizeT P e = some sz := by unfold elemSz at hz; rw [ht] at hz; exact hz
      have hk' : (k : Int) < (m : Int) := by omega
      have hadd : (⟨b, off, none⟩ : Addr).add (k * sz) = ⟨b, off + k * sz, none⟩ := by unfold Addr.add; split <;> simp_all
      unfold execOp
      simp [hop, hx, hi, Instr.indexAt, Instr.sureAddr, asIntOf, run_underlying ht, run_sizeOf hz', hadd]
      intro hge; omega
    · cases hn
  · cases ho
end
end Go.Alm

namespace Go.Alm
open Go Go.RowKit
section
variable {P : Program} {Q : Exit → Act → World → Prop} {a : Act} {w : World} {o : Oper}
theorem Rd.of_blk {w : World} {b t : Nat} {c : Array Value} {fz : Nat × Nat} (hb : w.heap[b]? = some (.cells c t fz)) : Rd w (some ⟨b, 0, none⟩) c.toList := fun j u hj => by
  refine ⟨_, rfl, ?_⟩
  have hadd : (⟨b, 0, none⟩ : Addr).add j = ⟨b, j, none⟩ := by unfold Addr.add; split <;> simp_all
  rw [hadd, cell_of_row w b j c t fz hb]
  simpa using hj
theorem Rd.of_blkN {w : World} {b t : Nat} {c : Array Value} {fz : Nat × Nat} (hb : w.heap[b]? = some (.cells c t fz)) (off : Nat) : Rd w (some ⟨b, off, none⟩) (c.toList.drop off) := fun j u hj => by
  refine ⟨_, rfl, ?_⟩
  have hadd : (⟨b, off, none⟩ : Addr).add j = ⟨b, off + j, none⟩ := by unfold Addr.add; split <;> simp_all
  rw [hadd, cell_of_row w b (off + j) c t fz hb]
  rw [List.getElem?_drop] at hj
  simpa using hj

theorem Rd.of_cut {w : World} {b t : Nat} {c : Array Value} {fz : Nat × Nat} (hb : w.heap[b]? = some (.cells c t fz)) (off n : Nat) {xs : List Value} (hx : (c.toList.drop off).take n = xs) : Rd w (some ⟨b, off, none⟩) xs := hx ▸ (Rd.of_blkN hb off).take n
def binOf : Op → Option (BinOp × Operand × Operand)
  | .binOp b _ x y _ => some (b, x, y)
  | _ => none
theorem run_shr (x y : Operand) {k k' : IntKind} (A B : Int) (ho : binOf o.op = some (.shr, x, y)) (hx : a.eval x = .int k A) (hy : a.eval y = .int k' B) (hB : 0 ≤ B) :
    (execOp a.eval o).run P w = .ok (.value (.int k (A.fdiv (2 ^ (min B.toNat k.bits))))) w := by
  unfold binOf at ho
  split at ho
  · rename_i b t x' y' u hop
    simp only [Option.some.injEq, Prod.mk.injEq] at ho
    obtain ⟨rfl, rfl, rfl⟩ := ho
    have hn : ¬ B < 0 := by omega
    unfold execOp
    simp [hop, hx, hy, eqGuard, binOp, Op.shift, hn]
  · cases ho
theorem run_shl (x y : Operand) {k k' : IntKind} (A B : Int) (ho : binOf o.op = some (.shl, x, y)) (hx : a.eval x = .int k A) (hy : a.eval y = .int k' B) (hB : 0 ≤ B) :
    (execOp a.eval o).run P w = .ok (.value (.int k (k.wrap (A * 2 ^ (min B.toNat k.bits))))) w := by
  unfold binOf at ho
  split at ho
  · rename_i b t x' y' u hop
    simp only [Option.some.injEq, Prod.mk.injEq] at ho
    obtain ⟨rfl, rfl, rfl⟩ := ho
    have hn : ¬ B < 0 := by omega
    unfold execOp
    simp [hop, hx, hy, eqGuard, binOp, Op.shift, hn]
  · cases ho
end

theorem rem_nat (m d : Nat) : (m : Int).tmod (d : Int) = ((m % d : Nat) : Int) := (Int.ofNat_tmod m d).symm
theorem quo_u64 {m d : Nat} (h : m < 18446744073709551616) : IntKind.u64.wrap ((m : Int).tdiv (d : Int)) = ((m / d : Nat) : Int) := by
  rw [← Int.ofNat_tdiv]
  exact wrapN_u64 (Int.natCast_nonneg _) (by have := Nat.div_le_self m d; omega)
theorem quo_u32 {m d : Nat} (h : m < 4294967296) : IntKind.u32.wrap ((m : Int).tdiv (d : Int)) = ((m / d : Nat) : Int) := by
  rw [← Int.ofNat_tdiv]
  exact wrapN_u32 (Int.natCast_nonneg _) (by have := Nat.div_le_self m d; omega)
theorem quo_i64 {m d : Nat} (h : m < 9223372036854775808) : IntKind.i64.wrap ((m : Int).tdiv (d : Int)) = ((m / d : Nat) : Int) := by
  rw [← Int.ofNat_tdiv]
  exact wrapN_i64 (Int.le_trans (by decide) (Int.natCast_nonneg _)) (by have := Nat.div_le_self m d; omega)

theorem ones {l : List Value} (h : (l.all fun u => u.oneCell') = true) : ∀ u ∈ l, u.oneCell' = true := fun u hu => List.all_eq_true.1 h u hu

/-! ### bytes -/
/-- A digest's cells. -/
def hv (l : List Nat) : Array Value := ((List.range 32).map fun i => Value.int .u8 ((l.getD i 0 : Nat) : Int)).toArray
/-- Bytes as cells. -/
def B (l : List Nat) : List Value := l.map fun (n : Nat) => .int .u8 (n : Int)
theorem B_append (l m : List Nat) : B (l ++ m) = B l ++ B m := by simp [B]
theorem B_length (l : List Nat) : (B l).length = l.length := by simp [B]
theorem B_one {l : List Nat} : ∀ u ∈ B l, u.oneCell' = true := by
  intro u hu
  obtain ⟨n, _, rfl⟩ := List.mem_map.1 hu
  rfl
theorem B_get (l : List Nat) (j : Nat) (h : j < l.length) : (B l)[j]? = some (.int .u8 (l[j] : Nat)) := by simp [B, h]
theorem hv_B {l : List Nat} (h : l.length = 32) : (hv l).toList = B l := by
  unfold hv B
  apply List.ext_getElem
  · simp [h]
  · intro i h1 h2
    simp only [List.length_map, List.length_range] at h1
    simp [show i < l.length by omega]
theorem Row.bytes {w : World} {e n : Nat} {v : Value} {l : List Nat} (h : Row w e 1 v n (B l)) : n = l.length := by have := h.length; simp [B_length] at this; omega
end Go.Alm

/- Cutting, indexing and copying of slices that are known by what is read of them. -/
namespace Go.Alm
open Go Go.RowKit

/-- Where a cut begins. -/
def cutA (ao : Option Addr) (l m s : Nat) : Option Addr := if m = l then ao else ao.map (·.add (l * s))
def sliceOf : Op → Option (Nat × Operand × Option Operand × Option Operand × Option Operand)
  | .slice t x lo hi mx => some (t, x, lo, hi, mx)
  | _ => none
def boundOf : Option Value → Nat → Option Int
  | none, d => some d
  | some (.int _ i), _ => some i
  | _, _ => none
def hasB : Option Value → Bool
  | none => false
  | some _ => true

theorem Rd.cut {w : World} {ao : Option Addr} {xs : List Value} (h : Rd w ao xs) (l k m s : Nat) (hk : m = l → k = 0) : Rd w (cutA ao l m s) ((xs.drop (l * s)).take (k * s)) := fun j u hj => by
  rw [List.getElem?_take] at hj
  split at hj
  · rename_i hjk
    have hml : m ≠ l := fun e => by rw [hk e] at hjk; simp at hjk
    rw [List.getElem?_drop] at hj
    obtain ⟨ad, rfl, hc⟩ := h _ u hj
    refine ⟨ad.add (l * s), by simp [cutA, hml], ?_⟩
    have e : (ad.add (l * s)).add j = ad.add (l * s + j) := by
      unfold Addr.add
      by_cases hn : l * s = 0 <;> by_cases hj0 : j = 0 <;> simp [hn, hj0, Nat.add_assoc]
    rw [e]; exact hc
  · cases hj
/-- `S` is within `T`. -/
def Sub (S T : Nat → Prop) : Prop := ∀ k, S k → T k
theorem Sub.refl (S : Nat → Prop) : Sub S S := fun _ h => h
theorem Sub.trans {S T U : Nat → Prop} (h : Sub S T) (k : Sub T U) : Sub S U := fun i hi => k i (h i hi)
theorem Sub.dis {S T U : Nat → Prop} (h : Sub S T) (d : Dis T U) : Dis S U := fun k hk => d k (h k hk)
theorem Sub.cut {ao : Option Addr} {xs ys : List Value} {l m s : Nat} (h : ys ≠ [] → xs ≠ []) : Sub (Ar (cutA ao l m s) ys) (Ar ao xs) := by
  rintro k ⟨hy, ad, ha, rfl⟩
  refine ⟨h hy, ?_⟩
  unfold cutA at ha
  split at ha
  · exact ⟨ad, ha, rfl⟩
  · cases ao with
    | none => cases ha
    | some b => simp only [Option.map_some, Option.some.injEq] at ha; subst ha; exact ⟨b, rfl, (add_block _ _).symm⟩
theorem Sub.nil {ao : Option Addr} {T : Nat → Prop} : Sub (Ar ao []) T := fun _ h => absurd rfl h.1
theorem Sub.n0 {T : Nat → Prop} : Sub N0 T := fun _ h => h.elim
theorem Sub.or {S T U : Nat → Prop} (h : Sub S U) (k : Sub T U) : Sub (Or2 S T) U := fun i hi => hi.elim (h i) (k i)
theorem Sub.inl {S T : Nat → Prop} : Sub S (Or2 S T) := fun _ h => .inl h
theorem Sub.inr {S T : Nat → Prop} : Sub T (Or2 S T) := fun _ h => .inr h
theorem Sub.new {w : World} {S T U : Nat → Prop} (h : Sub U T) (k : New w S T) : New w S U := fun i hi => k i (h i hi)
theorem Sub.toNew {w : World} {S T : Nat → Prop} (h : Sub T S) : New w S T := fun i hi => .inl (h i hi)

section
variable {P : Program} {Q : Exit → Act → World → Prop} {a : Act} {w : World} {o : Oper} {K : Act → World → Prop}

theorem run_cut (t : Nat) (x : Operand) (lo hi mx : Option Operand) (sz : Nat) (ao : Option Addr) (n c l h m : Nat) (ho : sliceOf o.op = some (t, x, lo, hi, mx)) (hs : isSl P t = true) (hz : elemSz P t = some sz)
    (hx : a.eval x = .slice ao n c) (hlo : boundOf (lo.map a.eval) 0 = some (l : Int)) (hhi : boundOf (hi.map a.eval) n = some (h : Int)) (hmx : boundOf (mx.map a.eval) c = some (m : Int)) (hmh : (hasB (mx.map a.eval) && !hasB (hi.map a.eval)) = false)
    (h1 : l ≤ h) (h2 : h ≤ m) (h3 : m ≤ c) : (execOp a.eval o).run P w = .ok (.value (.slice (cutA ao l m sz) (h - l) (m - l))) w := by
  unfold sliceOf at ho
  split at ho
  · rename_i t' x' lo' hi' mx' hop
    simp only [Option.some.injEq, Prod.mk.injEq] at ho
    obtain ⟨rfl, rfl, rfl, rfl, rfl⟩ := ho
    unfold isSl at hs
    split at hs
    · rename_i e ht
      have hz' : sizeT P e = some sz := by unfold elemSz at hz; rw [ht] at hz; exact hz
      have e1 : (execOp a.eval o) = (do pure (.value (← Instr.sliceAt t' (a.eval x') (lo'.map a.eval) (hi'.map a.eval) (mx'.map a.eval)))) := by
        unfold execOp; simp only [hop]
      rw [e1, hx]
      generalize lo'.map a.eval = L at *
      generalize hi'.map a.eval = H at *
      generalize mx'.map a.eval = M at *
      have hb : (Instr.sliceBounds true n c L H M).run P w = .ok (l, h, m) w := by
        unfold Instr.sliceBounds
        cases M with
        | none =>
          simp only [boundOf, Option.some.injEq] at hmx
          have hmx' : c = m := by omega
          subst hmx'
          cases H with
          | none =>
            simp only [boundOf, Option.some.injEq] at hhi
            have hhi' : n = h := by omega
            subst hhi'
            cases L with
            | none =>
              simp only [boundOf, Option.some.injEq] at hlo
              have : l = 0 := by omega
              subst this
              simp
            | some lv =>
              cases lv <;> simp only [boundOf, Option.some.injEq, reduceCtorEq] at hlo
              subst hlo
              simp [run_sliceBound, h1]
          | some hv =>
            cases hv <;> simp only [boundOf, Option.some.injEq, reduceCtorEq] at hhi
            subst hhi
            cases L with
            | none =>
              simp only [boundOf, Option.some.injEq] at hlo
              have : l = 0 := by omega
              subst this
              simp [run_sliceBound, h2]
            | some lv =>
              cases lv <;> simp only [boundOf, Option.some.injEq, reduceCtorEq] at hlo
              subst hlo
              simp [run_sliceBound, h1, h2]
        | some mv =>
          cases mv <;> simp only [boundOf, Option.some.injEq, reduceCtorEq] at hmx
          subst hmx
          cases H with
          | none => simp [hasB] at hmh
          | some hv =>
            cases hv <;> simp only [boundOf, Option.some.injEq, reduceCtorEq] at hhi
            subst hhi
            cases L with
            | none =>
              simp only [boundOf, Option.some.injEq] at hlo
              have : l = 0 := by omega
              subst this
              simp [run_sliceBound, h2, h3]
            | some lv =>
              cases lv <;> simp only [boundOf, Option.some.injEq, reduceCtorEq] at hlo
              subst hlo
              simp [run_sliceBound, h1, h2, h3]
      simp [Instr.sliceAt, Instr.slice, run_underlying ht, hb, run_sizeOf hz', cutA]
    · cases hs
  · cases ho

theorem run_idx_o (t : Nat) (x i : Operand) (sz : Nat) (ao : Option Addr) (ad : Addr) (n c : Nat) (kd : IntKind) (k : Nat) (ho : idxAOf o.op = some (t, x, i)) (hs : isSl P t = true) (hz : elemSz P t = some sz)
    (hx : a.eval x = .slice ao n c) (hi : a.eval i = .int kd k) (hao : ao = some ad) (hk : k < n) : (execOp a.eval o).run P w = .ok (.value (.pointer (some (ad.add (k * sz))))) w := by
  subst hao
  exact run_idx_sl t x i sz ad n c kd k ho hs hz hx hi hk

/-- More cells than one, wherever. -/
theorem run_loadR {o : Oper} (t : Nat) (x : Operand) (ad : Addr) (n : Nat) (vs : Array Value) (ho : loadOf o.op = some (t, x)) (hr : rowed P t = some true) (hn : sizeT P t = some n)
    (hx : a.eval x = .pointer (some ad)) (hsz : vs.size = n) (hb : ∀ j u, vs.toList[j]? = some u → w.cell? (ad.add j) = some u) : (execOp a.eval o).run P w = .ok (.value (.agg vs)) w := by
  unfold loadOf at ho
  split at ho
  · rename_i t' x' hop
    simp only [Option.some.injEq, Prod.mk.injEq] at ho
    obtain ⟨rfl, rfl⟩ := ho
    have hl := run_loadCells_list (P := P) (w := w) ad vs.toList hb
    have hlen : vs.toList.length = n := by simpa using hsz
    rw [hlen] at hl
    unfold execOp
    simp only [hop, hx, Instr.loadAt, Instr.sureAddr, loadVar, Sem.run_bind, Sem.run_pure, Result.andThen_ok, run_isAgg _ _ hr, if_true, run_sizeOf hn, hl, Array.toArray_toList]
  · cases ho

/-! ### copy -/
def copyOf : Op → Option (Operand × Operand × Nat × Nat)
  | .call c => match c.callee, c.args.toList, c.argTypes.toList with
    | .builtin .copy, [s, x], [t, tx] => some (s, x, t, tx)
    | _, _, _ => none
  | _ => none
theorem run_copy_op {o : Oper} (s x : Operand) (t tx : Nat) (ho : copyOf o.op = some (s, x, t, tx)) : (execOp a.eval o).run P w = ((Builtin.copy_ #[t, tx] o.type #[a.eval s, a.eval x]).run P w).andThen fun v w' => .ok (.value v) w' := by
  unfold copyOf at ho
  split at ho
  · rename_i c hc
    split at ho
    · rename_i h1 h2 h3
      simp only [Option.some.injEq, Prod.mk.injEq] at ho
      obtain ⟨h4, h5, h6, h7⟩ := ho
      rw [h4, h5] at h2
      rw [h6, h7] at h3
      obtain ⟨cal, args, tys⟩ := c
      simp only at h1 h2 h3
      obtain rfl : args = #[s, x] := by rw [← Array.toArray_toList (xs := args), h2]
      obtain rfl : tys = #[t, tx] := by rw [← Array.toArray_toList (xs := tys), h3]
      subst h1
      unfold execOp
      simp [hc, resolve, invoke, builtin]
    · cases ho
  · cases ho

/-- What is of one cell each, laid over a block's cells. -/
theorem op_copy (s x : Operand) (t tx : Nat) (ho : copyOf o.op = some (s, x, t, tx)) (hs1 : isSl P t = true) (hz : elemSz P t = some 1)
    (b off dLen dCap : Nat) (ao : Option Addr) (sLen sCap : Nat) (ys : List Value) (c : Array Value) (te : Nat) (c' : Array Value) (hs : a.eval s = .slice (some ⟨b, off, none⟩) dLen dCap) (hx : a.eval x = .slice ao sLen sCap)
    (hb : w.heap[b]? = some (.cells c te (0, 0))) (hR : Rd w ao ys) (hy : ys.length = sLen) (h1 : ∀ u ∈ ys, u.oneCell' = true) (hle : off + min sLen dLen ≤ c.size)
    (hc' : spl c off (ys.take dLen).toArray = c')
    (k : ∀ w', w'.heap[b]? = some (.cells c' te (0, 0)) → w'.heap.size = w.heap.size → Fr w w' (One b) → K (a.put o.dst (.int .i64 (min sLen dLen : Nat))) w') : OpW P o a w K Q := by
  subst hc'
  unfold isSl at hs1
  split at hs1
  · rename_i e ht
    have hz' : (P.info? e).map (·.size) = some 1 := by unfold elemSz at hz; rw [ht] at hz; exact hz
    have hcl : (ys.take dLen).length = Nat.min sLen dLen := by rw [List.length_take, hy]; exact Nat.min_comm _ _
    have hmin : (Nat.min sLen dLen) = min sLen dLen := rfl
    by_cases h0 : Nat.min sLen dLen = 0
    · have hr := run_copy_none (P := P) w t tx o.type e (some ⟨b, off, none⟩) ao dLen dCap sLen sCap ht hz' h0
      have hnil : ys.take dLen = [] := List.eq_nil_of_length_eq_zero (by omega)
      refine op_run (goInt 0) w ?_ ?_
      · rw [run_copy_op s x t tx ho, hs, hx, hr]; rfl
      · have hk := k w (by rw [hnil]; simpa [spl] using hb) rfl (Fr.refl _ _)
        rw [← hmin, h0] at hk
        exact hk
    · cases ao with
      | none =>
        exfalso
        cases ys with
        | nil => simp at hy; subst hy; simp at h0
        | cons u r => obtain ⟨_, he, _⟩ := hR 0 u rfl; cases he
      | some ad =>
        have hr := run_copy_row (P := P) w t tx o.type e b off dLen dCap ad sLen sCap c te (ys.take dLen) ht hz' hb hcl
          (fun j v hj => by
            rw [List.getElem?_take] at hj
            split at hj
            · obtain ⟨_, he, hc⟩ := hR j v hj; cases he; exact hc
            · cases hj) (by rw [hcl, hmin]; exact hle) (fun v hv => h1 v (List.mem_of_mem_take hv))
        refine op_run _ _ (by rw [run_copy_op s x t tx ho, hs, hx, hr]; rfl) ?_
        have hk := k (w.setRow b (spl c off (ys.take dLen).toArray)) (setRow_heap w b c _ te _ hb) (size_setRow _ _ _) ⟨rfl, rfl, rfl, by simp, fun j _ hj => setRow_other w b j _ hj⟩
        simpa [spl, goInt, hcl, hmin] using hk
  · cases hs1
end
end Go.Alm

namespace Go.Alm
open Go Go.RowKit
theorem Rd.elem {w : World} {ao : Option Addr} {xs : List Value} (h : Rd w ao xs) (k s : Nat) (vs : Array Value) (hv : (xs.drop (k * s)).take s = vs.toList) (hs : 0 < vs.size) :
    ∃ ad, ao = some ad ∧ ∀ j u, vs.toList[j]? = some u → w.cell? ((ad.add (k * s)).add j) = some u := by
  have key : ∀ j u, vs.toList[j]? = some u → ∃ ad, ao = some ad ∧ w.cell? ((ad.add (k * s)).add j) = some u := fun j u hj => by
    rw [← hv, List.getElem?_take] at hj
    split at hj
    · rw [List.getElem?_drop] at hj
      obtain ⟨ad, ha, hc⟩ := h _ u hj
      refine ⟨ad, ha, ?_⟩
      have e : (ad.add (k * s)).add j = ad.add (k * s + j) := by
        unfold Addr.add
        by_cases hn : k * s = 0 <;> by_cases hj0 : j = 0 <;> simp [hn, hj0, Nat.add_assoc]
      rw [e]; exact hc
    · cases hj
  obtain ⟨ad, ha, _⟩ := key 0 (vs[0]) (by simp [hs])
  refine ⟨ad, ha, fun j u hj => ?_⟩
  obtain ⟨ad', ha', hc⟩ := key j u hj
  rw [ha] at ha'
  cases ha'
  exact hc
theorem Rd.elem1 {w : World} {ao : Option Addr} {xs : List Value} (h : Rd w ao xs) (k : Nat) (u : Value) (hu : xs[k]? = some u) : ∃ ad, ao = some ad ∧ w.cell? (ad.add (k * 1)) = some u := by
  obtain ⟨ad, ha, hc⟩ := h k u hu
  exact ⟨ad, ha, by rw [Nat.mul_one]; exact hc⟩
theorem B_getD (l : List Nat) (k : Nat) (h : k < l.length) : (B l)[k]? = some (.int .u8 ((l.getD k 0 : Nat) : Int)) := by simp [B, h]
end Go.Alm

namespace Go.Alm
open Go Go.RowKit
section
variable {P : Program} {a : Act} {w : World}
theorem Rd.has {ao : Option Addr} {xs : List Value} (h : Rd w ao xs) (k : Nat) (hk : k < xs.length) : ∃ ad, ao = some ad := by
  obtain ⟨ad, ha, _⟩ := h k xs[k] (by simp [hk])
  exact ⟨ad, ha⟩
/-- One cell of an element. -/
theorem run_loadE1 {o : Oper} (t : Nat) (x : Operand) (ao : Option Addr) (ad : Addr) (i : Nat) (xs : List Value) (u : Value) (ho : loadOf o.op = some (t, x)) (hr : rowed P t = some false)
    (hx : a.eval x = .pointer (some (ad.add i))) (hao : ao = some ad) (hR : Rd w ao xs) (hu : xs[i]? = some u) : (execOp a.eval o).run P w = .ok (.value u) w := by
  obtain ⟨ad', ha, hc⟩ := hR i u hu
  rw [hao] at ha
  cases ha
  exact run_loadC t x _ u ho hr hx hc
/-- More cells of an element. -/
theorem run_loadEn {o : Oper} (t : Nat) (x : Operand) (ao : Option Addr) (ad : Addr) (i n : Nat) (xs : List Value) (vs : Array Value) (ho : loadOf o.op = some (t, x)) (hr : rowed P t = some true) (hn : sizeT P t = some n)
    (hx : a.eval x = .pointer (some (ad.add i))) (hao : ao = some ad) (hR : Rd w ao xs) (hsz : vs.size = n) (hu : (xs.drop i).take n = vs.toList) : (execOp a.eval o).run P w = .ok (.value (.agg vs)) w := by
  refine run_loadR t x (ad.add i) n vs ho hr hn hx hsz fun j u hj => ?_
  rw [← hu, List.getElem?_take] at hj
  split at hj
  · rw [List.getElem?_drop] at hj
    obtain ⟨ad', ha, hc⟩ := hR _ u hj
    rw [hao] at ha
    cases ha
    have e : (ad.add i).add j = ad.add (i + j) := by
      unfold Addr.add
      by_cases hn : i = 0 <;> by_cases hj0 : j = 0 <;> simp [hn, hj0, Nat.add_assoc]
    rw [e]; exact hc
  · cases hj
end
end Go.Alm

namespace Go.Alm
open Go Go.RowKit
section
variable {P : Program} {a : Act} {w : World} {R : Ending → World → Prop}
theorem run_loadVar1 {t b off : Nat} {c : Array Value} {te : Nat} {fz : Nat × Nat} {v : Value} (hr : rowed P t = some false) (hb : w.heap[b]? = some (.cells c te fz)) (hc : c[off]? = some v) : (loadVar t ⟨b, off, none⟩).run P w = .ok v w := by
  have hcell : w.cell? ⟨b, off, none⟩ = some v := by rw [cell_of_row w b off c te fz hb]; exact hc
  simp only [loadVar, load, Sem.run_bind, Result.andThen_ok, run_isAgg _ _ hr, Bool.false_eq_true, if_false, Sem.run, hcell]
theorem run_loadVarN {t b off n : Nat} {c : Array Value} {te : Nat} {fz : Nat × Nat} {vs : Array Value} (hr : rowed P t = some true) (hn : sizeT P t = some n) (hb : w.heap[b]? = some (.cells c te fz)) (hle : Nat.ble (off + n) c.size = true) (hv : c.extract off (off + n) = vs) :
    (loadVar t ⟨b, off, none⟩).run P w = .ok (.agg vs) w := by
  have hle' := Nat.le_of_ble_eq_true hle
  subst hv
  have hl : (loadCells ⟨b, off, none⟩ n).run P w = .ok (c.extract off (off + n)) w := by
    have := run_loadCells_list (P := P) (w := w) ⟨b, off, none⟩ (c.extract off (off + n)).toList (by
      intro j v hj
      have hj' : (c.extract off (off + n))[j]? = some v := by rw [← hj]; exact (Array.getElem?_toList).symm
      have hadd : (⟨b, off, none⟩ : Addr).add j = ⟨b, off + j, none⟩ := by unfold Addr.add; split <;> simp_all
      rw [hadd, cell_of_row w b (off + j) c te fz hb]
      rw [Array.getElem?_extract] at hj'
      split at hj'
      · exact hj'
      · cases hj')
    have hlen : (c.extract off (off + n)).toList.length = n := by simp; omega
    rw [hlen] at this
    rw [this]
  simp only [loadVar, Sem.run_bind, Sem.run_pure, Result.andThen_ok, run_isAgg _ _ hr, if_true, run_sizeOf hn, hl]

/-- What one result is read as. -/
def ResOne (P : Program) (a : Act) (w : World) : ResultVar → Value → Prop
  | .tmp t, v => a.tmps.getD t undef = v
  | .cell t ty, v => (do loadVar ty (← asAddr (a.tmps.getD t undef))).run P w = .ok v w
def ResL (P : Program) (a : Act) (w : World) : List ResultVar → List Value → Prop
  | [], [] => True
  | r :: rs, v :: vs => ResOne P a w r v ∧ ResL P a w rs vs
  | _, _ => False
theorem ResOne.tmp {t : Nat} {v : Value} (h : a.tmps.getD t undef = v) : ResOne P a w (.tmp t) v := h
theorem ResOne.cell1 {s t b off : Nat} {c : Array Value} {te : Nat} {fz : Nat × Nat} {v : Value} (hs : a.tmps.getD s undef = .pointer (some ⟨b, off, none⟩)) (hr : rowed P t = some false) (hb : w.heap[b]? = some (.cells c te fz)) (hc : c[off]? = some v) : ResOne P a w (.cell s t) v := by
  simp only [ResOne, hs, asAddr, Sem.run_bind, Sem.run_pure, Result.andThen_ok, run_loadVar1 hr hb hc]
theorem ResOne.cellN {s t b off n : Nat} {c : Array Value} {te : Nat} {fz : Nat × Nat} {vs : Array Value} (hs : a.tmps.getD s undef = .pointer (some ⟨b, off, none⟩)) (hr : rowed P t = some true) (hn : sizeT P t = some n) (hb : w.heap[b]? = some (.cells c te fz)) (hle : Nat.ble (off + n) c.size = true) (hv : c.extract off (off + n) = vs) : ResOne P a w (.cell s t) (.agg vs) := by
  simp only [ResOne, hs, asAddr, Sem.run_bind, Sem.run_pure, Result.andThen_ok, run_loadVarN hr hn hb hle hv]
def resOf (tmps : Array Value) : ResultVar → Sem Value
  | .tmp t => pure (tmps.getD t undef)
  | .cell s t => do loadVar t (← asAddr (tmps.getD s undef))
theorem run_results : ∀ (rs : List ResultVar) (vs : List Value), ResL P a w rs vs → (rs.mapM (resOf a.tmps)).run P w = .ok vs w
  | [], [], _ => by simp
  | r :: rs, v :: vs, h => by
    have ih := run_results rs vs h.2
    have h1 : (resOf a.tmps r).run P w = .ok v w := by
      cases r with
      | tmp t =>
        have h1 : a.tmps.getD t undef = v := h.1
        simp only [resOf, h1, Sem.run_pure]
      | cell s t => exact h.1
    simp only [List.mapM_cons, Sem.run_bind, Sem.run_pure, Result.andThen_ok, ih, h1]
  | [], _ :: _, h => h.elim
  | _ :: _, [], h => h.elim
def oneOf (vs : List Value) : Value := match vs with
  | [v] => v
  | _ => .tuple vs.toArray
theorem run_results' {fn : Func} {vs : List Value} (rs : List ResultVar) (hf : fn.results.toList = rs) (h : ResL P a w rs vs) : (results fn a.tmps).run P w = .ok (oneOf vs) w := by
  have hr := run_results rs vs h
  have e : (fn.results.mapM (resOf a.tmps)).run P w = .ok vs.toArray w := by
    rw [Array.mapM_eq_mapM_toList, hf]
    have e3 : (List.toArray <$> List.mapM (resOf a.tmps) rs) = (List.mapM (resOf a.tmps) rs >>= fun x => pure x.toArray) := rfl
    rw [e3]
    simp only [Sem.run_bind, hr, Result.andThen_ok, Sem.run_pure]
  have e2 : results fn a.tmps = (do let vs ← fn.results.mapM (resOf a.tmps); pure (if h : vs.size = 1 then vs[0] else .tuple vs)) := rfl
  rw [e2]
  simp only [Sem.run_bind]
  rw [e]
  simp only [Result.andThen_ok, Sem.run_pure, oneOf]
  match vs with
  | [] => rfl
  | [v] => rfl
  | _ :: _ :: _ => rfl
theorem fin_retL {fn : Func} (rs : List ResultVar) (vs : List Value) (v : Value) (hd : a.defers = []) (hf : fn.results.toList = rs) (h : ResL P a w rs vs) (hv : oneOf vs = v) (k : R (.returned v) w) : bodyPost P fn R .ret a w :=
  ⟨hd, v, hv ▸ run_results' rs hf h, k⟩
theorem fin_endL {fn : Func} (rs : List ResultVar) (vs : List Value) (v : Value) (hd : a.defers = []) (hf : fn.results.toList = rs) (h : ResL P a w rs vs) (hv : oneOf vs = v) (k : R (.returned v) w) : bodyPost P fn R .normal a w :=
  ⟨hd, v, hv ▸ run_results' rs hf h, k⟩
end
end Go.Alm
