/- The steps of a walk by the kernel's own reckoning: what leaves the world alone is run by the kernel; one law for each step that reads or writes. -/
import Derived.WalkKit
import Derived.OrdersHeld
namespace Go.Alm
open Go Go.RowKit

/-! ### worlds -/

/-- Of the blocks that were there, all but those of `S` are as they were. -/
structure Fr (w w' : World) (S : Nat → Prop) : Prop where
  os : w'.os = w.os
  tape : w'.tape = w.tape
  output : w'.output = w.output
  size : w.heap.size ≤ w'.heap.size
  block : ∀ k, k < w.heap.size → ¬ S k → w'.heap[k]? = w.heap[k]?

/-- No block; one; those below a number. -/
def N0 : Nat → Prop := fun _ => False
def One (b : Nat) : Nat → Prop := fun k => k = b
def Old (B : Nat) : Nat → Prop := fun k => k < B
def Own (v : Value) : Nat → Prop := fun k => v.ownBlock = some k
def Or2 (S T : Nat → Prop) : Nat → Prop := fun k => S k ∨ T k
/-- Two have no block in common. -/
def Dis (S T : Nat → Prop) : Prop := ∀ k, S k → ¬ T k
/-- What `T` has is of `S`, or new. -/
def New (w : World) (S T : Nat → Prop) : Prop := ∀ k, T k → S k ∨ w.heap.size ≤ k
def In (w : World) (S : Nat → Prop) : Prop := ∀ k, S k → k < w.heap.size

theorem Dis.sym {S T : Nat → Prop} (h : Dis S T) : Dis T S := fun k ht hs => h k hs ht
theorem Dis.n0 {S : Nat → Prop} : Dis S N0 := fun _ _ h => h
theorem Dis.n0' {S : Nat → Prop} : Dis N0 S := fun _ h => h.elim
theorem Dis.step {w : World} {S S' T : Nat → Prop} (h : Dis S T) (hn : New w S S') (ht : In w T) : Dis S' T := fun k hk hT => by
  rcases hn k hk with h1 | h1
  · exact h k h1 hT
  · have := ht k hT; omega
theorem Dis.fresh {w : World} {S T : Nat → Prop} (hn : New w N0 S) (ht : In w T) : Dis S T := Dis.n0'.step hn ht
theorem Dis.or {S T U : Nat → Prop} (h : Dis S U) (k : Dis T U) : Dis (Or2 S T) U := fun i hi => hi.elim (h i) (k i)
theorem Dis.or' {S T U : Nat → Prop} (h : Dis U S) (k : Dis U T) : Dis U (Or2 S T) := fun i hi hx => hx.elim (h i hi) (k i hi)
theorem Dis.left {S T U : Nat → Prop} (h : Dis (Or2 S T) U) : Dis S U := fun k hk => h k (.inl hk)
theorem Dis.right {S T U : Nat → Prop} (h : Dis (Or2 S T) U) : Dis T U := fun k hk => h k (.inr hk)
theorem Dis.sub {S T U : Nat → Prop} (h : ∀ k, T k → S k) (d : Dis U S) : Dis U T := fun k hk ht => d k hk (h k ht)
theorem New.refl (w : World) (S : Nat → Prop) : New w S S := fun _ h => .inl h
theorem New.trans {w w1 : World} {S T U : Nat → Prop} (h : New w S T) (k : New w1 T U) (hs : w.heap.size ≤ w1.heap.size) : New w S U := fun i hi => by
  rcases k i hi with h1 | h1
  · exact h i h1
  · exact .inr (Nat.le_trans hs h1)
theorem New.one {w : World} {b : Nat} (h : b = w.heap.size) : New w N0 (One b) := fun k hk => .inr (by rw [hk, h]; exact Nat.le_refl _)
theorem New.later {w w1 : World} {S : Nat → Prop} (h : New w1 N0 S) (hs : w.heap.size ≤ w1.heap.size) : New w N0 S := fun k hk => (h k hk).imp id (Nat.le_trans hs)
theorem New.made {w w1 : World} {S : Nat → Prop} {b : Nat} (h : b = w1.heap.size) (hs : w.heap.size ≤ w1.heap.size) : New w S (One b) := fun k hk => .inr (by rw [hk, h]; exact hs)
theorem New.later' {w w1 : World} {S T : Nat → Prop} (h : New w1 N0 T) (hs : w.heap.size ≤ w1.heap.size) : New w S T := fun k hk => .inr (Nat.le_trans hs ((h k hk).elim (fun h => h.elim) id))
theorem New.or {w : World} {S T U V : Nat → Prop} (h : New w S U) (k : New w T V) : New w (Or2 S T) (Or2 U V) := fun i hi => by
  rcases hi with hi | hi
  · exact (h i hi).imp .inl id
  · exact (k i hi).imp .inr id
theorem New.left {w : World} {S T U : Nat → Prop} (h : New w S (Or2 T U)) : New w S T := fun k hk => h k (.inl hk)
theorem New.right {w : World} {S T U : Nat → Prop} (h : New w S (Or2 T U)) : New w S U := fun k hk => h k (.inr hk)
theorem New.two {w : World} {S T U : Nat → Prop} (h : New w S T) (k : New w S U) : New w S (Or2 T U) := fun i hi => hi.elim (h i) (k i)
theorem In.le {w w' : World} {S : Nat → Prop} (h : In w S) (hs : w.heap.size ≤ w'.heap.size) : In w' S := fun k hk => Nat.lt_of_lt_of_le (h k hk) hs
theorem In.n0 {w : World} : In w N0 := fun _ h => h.elim
theorem In.old {w : World} {B : Nat} (h : B ≤ w.heap.size) : In w (Old B) := fun _ hk => Nat.lt_of_lt_of_le hk h

theorem Fr.refl (w : World) (S : Nat → Prop) : Fr w w S := ⟨rfl, rfl, rfl, Nat.le_refl _, fun _ _ _ => rfl⟩
theorem Fr.mono {w w' : World} {S T : Nat → Prop} (h : Fr w w' S) (hs : ∀ k, S k → k < w.heap.size → T k) : Fr w w' T :=
  ⟨h.os, h.tape, h.output, h.size, fun k hk ht => h.block k hk fun hx => ht (hs k hx hk)⟩
theorem Fr.any {w w' : World} {S : Nat → Prop} (h : Fr w w' N0) : Fr w w' S := h.mono fun _ h _ => h.elim
theorem Fr.trans {a b c : World} {S T U : Nat → Prop} (h : Fr a b S) (k : Fr b c T) (hs : ∀ i, i < a.heap.size → S i ∨ T i → U i) : Fr a c U :=
  ⟨k.os.trans h.os, k.tape.trans h.tape, k.output.trans h.output, Nat.le_trans h.size k.size, fun i hi hu =>
    (k.block i (Nat.lt_of_lt_of_le hi h.size) fun ht => hu (hs i hi (.inr ht))).trans (h.block i hi fun hx => hu (hs i hi (.inl hx)))⟩
/-- A step behind others, that touches what is of `S` or new. -/
theorem Fr.then {a b c : World} {S T : Nat → Prop} (h : Fr a b S) (k : Fr b c T) (hn : New a S T) : Fr a c S := h.trans k fun i hi hx => by
  rcases hx with hx | hx
  · exact hx
  · rcases hn i hx with h1 | h1
    · exact h1
    · omega
theorem Fr.tr {a b c : World} {S : Nat → Prop} (h : Fr a b S) (k : Fr b c N0) : Fr a c S := h.then k fun _ h => h.elim
theorem lt_of_get {w : World} {b : Nat} {o : Obj} (h : w.heap[b]? = some o) : b < w.heap.size := (Array.getElem?_eq_some_iff.1 h).1
theorem In.one {w : World} {b : Nat} {o : Obj} (h : w.heap[b]? = some o) : In w (One b) := fun k hk => by rw [hk]; exact lt_of_get h
theorem Fr.keep {w w' : World} {S : Nat → Prop} (h : Fr w w' S) {b : Nat} {o : Obj} (hb : w.heap[b]? = some o) (hn : Dis (One b) S) : w'.heap[b]? = some o :=
  (h.block b (lt_of_get hb) (hn b rfl)).trans hb
theorem Fr.below {w w' : World} (h : Fr w w' N0) : Below w.heap.size w w' := ⟨h.os, h.tape, h.output, h.size, fun k hk => h.block k hk (fun h => h)⟩
theorem Fr.of_below {w w' : World} (h : Below w.heap.size w w') : Fr w w' N0 := ⟨h.os, h.tape, h.output, h.size, fun k hk _ => h.block k hk⟩
theorem Fr.drew {w w' : World} {S : Nat → Prop} (h : Fr w w' S) : Fr w w'.drew S := ⟨h.os, h.tape, h.output, h.size, h.block⟩
theorem Fr.of_drew {w w' : World} {S : Nat → Prop} (h : Fr w.drew w' S) : Fr w w' S := ⟨h.os, h.tape, h.output, h.size, h.block⟩
theorem Fr.alloc1 (w : World) (o : Obj) : Fr w (w.alloc o) N0 := ⟨rfl, rfl, rfl, by simp, fun k hk _ => Below.heap_alloc _ _ _ hk⟩
theorem Fr.grown {w w' : World} {v : Value} (h : w.grownBy w' v.ownBlock) : Fr w w' (Own v) :=
  ⟨h.os, h.tape, h.output, h.size, fun k hk hn => h.block k hk (fun e => hn e.symm)⟩
theorem Fr.cell {w w' : World} {S : Nat → Prop} (h : Fr w w' S) {x : Addr} {v : Value} (hc : w.cell? x = some v) (hn : ¬ S x.block) : w'.cell? x = some v :=
  (World.cell?_of_block (h.block x.block (World.block_lt_of_cell? w x hc) hn)).trans hc

theorem off {b : Bool} {p : Prop} (h : b = false) : b = true → p := fun h' => by rw [h] at h'; cases h'

/-! ### what the kernel runs -/

def pureVal {α : Type} (P : Program) : Sem α → Option α
  | .pure a => some a
  | .program k => pureVal P (k P)
  | .mark _ k => pureVal P k
  | _ => none

theorem pureVal_run {α : Type} {P : Program} : ∀ {s : Sem α} {a : α}, pureVal P s = some a → ∀ w, s.run P w = .ok a w
  | .pure a, b, h, w => by simp [pureVal] at h; subst h; rfl
  | .program k, b, h, w => by simp only [pureVal] at h; simp only [Sem.run]; exact pureVal_run h w
  | .mark m k, b, h, w => by simp only [pureVal] at h; simp only [Sem.run]; exact pureVal_run h w
  | .load .., _, h, _ | .store .., _, h, _ | .new .., _, h, _ | .shape .., _, h, _ | .freeze .., _, h, _ | .frozen .., _, h, _ | .getObj .., _, h, _ | .setObj .., _, h, _ | .choose .., _, h, _ | .sys .., _, h, _ | .halt .., _, h, _ => by simp [pureVal] at h

def stepVal (P : Program) (a : Act) (o : Oper) : Option Value :=
  match pureVal P (execOp a.eval o) with
  | some (.value v) => some v
  | some .skip => some undef
  | _ => none

def okP (P : Program) (ops : Array Oper) : List Oper → Act → Bool
  | [], _ => true
  | o :: l, a => if Region.wanted o (yielded ops a.tmps) then
      match stepVal P a o with
      | some v => okP P ops l (a.put o.dst v)
      | none => false
    else okP P ops l (a.put o.dst undef)

def runP (P : Program) (ops : Array Oper) : List Oper → Act → Act
  | [], a => a
  | o :: l, a => runP P ops l (a.put o.dst (if Region.wanted o (yielded ops a.tmps) then (stepVal P a o).getD undef else undef))

/-- A frame: what some slots hold; the others hold whatever. -/
def mk (n : Nat) (l : List (Nat × Value)) (u : Nat → Value) : Act := ⟨((List.range n).map fun i => (l.lookup i).getD (u i)).toArray, []⟩
theorem mem_of_lookup {l : List (Nat × Value)} {i : Nat} {v : Value} (h : l.lookup i = some v) : (i, v) ∈ l := by
  induction l with
  | nil => simp at h
  | cons x l ih =>
    obtain ⟨j, u⟩ := x
    simp only [List.lookup_cons] at h
    split at h
    · rename_i hj
      simp only [Option.some.injEq] at h
      have : i = j := by simpa using hj
      subst this; subst h
      exact List.mem_cons_self
    · exact List.mem_cons_of_mem _ (ih h)
theorem is_mk {n : Nat} {l : List (Nat × Value)} {a : Act} (hs : a.tmps.size = n) (hd : a.defers = []) (hl : l.map (fun x => a.eval (.tmp x.1)) = l.map (·.2)) : ∃ u, a = mk n l u := by
  refine ⟨fun i => a.eval (.tmp i), ?_⟩
  have hmem : ∀ j v, (j, v) ∈ l → a.eval (.tmp j) = v := by
    intro j v hm
    have := List.map_inj_left.1 hl (j, v) hm
    simpa using this
  obtain ⟨tmps, defers⟩ := a
  simp only at hs hd
  subst hd
  unfold mk
  congr 1
  apply Array.ext
  · simp [hs]
  · intro i h1 h2
    simp only [List.getElem_toArray, List.getElem_map, List.getElem_range]
    cases hlk : l.lookup i with
    | none => simp [Act.eval, h1]
    | some v =>
      have := hmem i v (mem_of_lookup hlk)
      simp only [Option.getD_some]
      rw [← this]
      simp [Act.eval, h1]

/-! ### code, by its place -/

def child : Code → Nat → Code
  | .seq a _, 0 => a
  | .seq _ b, _ => b
  | .cond _ a _, 0 => a
  | .cond _ _ b, _ => b
  | .block _ b, _ => b
  | .loop b, _ => b
  | .scope b, _ => b
  | .rangeFunc _ _ a _, 0 => a
  | .rangeFunc _ _ _ b, _ => b
  | c, _ => c
def bodyOf (P : Program) (f : Nat) : Code := match (P.funcs[f]?).bind (·.body) with | some c => c | none => .skip
def cAt (P : Program) (f : Nat) (p : List Nat) : Code := p.foldl child (bodyOf P f)
def opsOf : Code → Array Oper
  | .region _ ops _ => ops
  | _ => #[]
/-- The operations of the region at a place. -/
def rAt (P : Program) (f : Nat) (p : List Nat) : Array Oper := opsOf (cAt P f p)

/-- The code at a place, shut: no tactic looks into it. -/
structure CW (P : Program) (f : Nat) (p : List Nat) (Q : Exit → Act → World → Prop) (a : Act) (w : World) : Prop where
  out : (cAt P f p).wp P Q a w

section
variable {P : Program} {Q : Exit → Act → World → Prop} {a : Act} {w : World} {f : Nat} {p : List Nat}

theorem c_seq (p0 p1 : List Nat) (h : cAt P f p = .seq (cAt P f p0) (cAt P f p1)) (k : CW P f p0 (Exit.then (fun a w => CW P f p1 Q a w) Q) a w) : CW P f p Q a w := by
  refine ⟨?_⟩
  rw [h]
  exact wp_seq (Code.wp_mono (fun e a w hq => by cases e <;> first | exact CW.out hq | exact hq) k.out)
theorem c_skip (h : cAt P f p = .skip) (k : Q .normal a w) : CW P f p Q a w := ⟨by rw [h]; exact wp_skip k⟩
theorem c_ret (h : cAt P f p = .ret) (k : Q .ret a w) : CW P f p Q a w := ⟨by rw [h]; exact wp_ret k⟩
theorem c_exit (id : Nat) (h : cAt P f p = .exit id) (k : Q (.exit id) a w) : CW P f p Q a w := ⟨by rw [h]; exact wp_exit k⟩
theorem c_goto (l : Nat) (h : cAt P f p = .goto l) (k : Q (.goto l) a w) : CW P f p Q a w := ⟨by rw [h]; exact wp_goto k⟩
theorem c_block (id : Nat) (p0 : List Nat) (h : cAt P f p = .block id (cAt P f p0)) (k : CW P f p0 (Exit.inBlock id Q) a w) : CW P f p Q a w := ⟨by rw [h]; exact wp_block k.out⟩
theorem c_label (l : Nat) (h : cAt P f p = .label l) (k : Q .normal a w) : CW P f p Q a w := ⟨by rw [h]; exact wp_label k⟩
theorem c_then (c : Operand) (p0 p1 : List Nat) (h : cAt P f p = .cond c (cAt P f p0) (cAt P f p1)) (hc : a.eval c = .bool true) (k : CW P f p0 Q a w) : CW P f p Q a w := ⟨by rw [h]; exact wp_cond_true hc k.out⟩
theorem c_else (c : Operand) (p0 p1 : List Nat) (h : cAt P f p = .cond c (cAt P f p0) (cAt P f p1)) (hc : a.eval c = .bool false) (k : CW P f p1 Q a w) : CW P f p Q a w := ⟨by rw [h]; exact wp_cond_false hc k.out⟩
theorem c_if (c : Operand) (t : Bool) (p0 p1 : List Nat) (h : cAt P f p = .cond c (cAt P f p0) (cAt P f p1)) (hc : a.eval c = .bool t)
    (k1 : t = true → CW P f p0 Q a w) (k2 : t = false → CW P f p1 Q a w) : CW P f p Q a w := ⟨by rw [h]; exact wp_cond_split hc (fun e => (k1 e).out) (fun e => (k2 e).out)⟩
theorem c_loop (I : Act → World → Prop) (μ : Act → World → Nat) (p0 : List Nat) (h : cAt P f p = .loop (cAt P f p0)) (h0 : I a w)
    (round : ∀ a w, I a w → CW P f p0 (Exit.then (fun a' w' => I a' w' ∧ μ a' w' < μ a w) Q) a w) : CW P f p Q a w := ⟨by rw [h]; exact wp_loop I μ h0 fun a w hi => (round a w hi).out⟩

theorem inBlock_hit {id : Nat} (h : Q .normal a w) : Exit.inBlock id Q (.exit id) a w := by simp [Exit.inBlock, h]
theorem inBlock_miss {id id' : Nat} (hn : id' ≠ id) (h : Q (.exit id') a w) : Exit.inBlock id Q (.exit id') a w := by simp [Exit.inBlock, hn, h]

/-- At a region's operation number `i`. -/
structure wpAt (P : Program) (ops : Array Oper) (Q : Exit → Act → World → Prop) (i : Nat) (a : Act) (w : World) : Prop where
  out : wpList P ops Q (ops.toList.drop i) a w
/-- One operation, shut. -/
structure OpW (P : Program) (o : Oper) (a : Act) (w : World) (K : Act → World → Prop) (Q : Exit → Act → World → Prop) : Prop where
  out : o.wp P a w K Q

theorem c_reg (id : Nat) (R : Array Oper) (h : cAt P f p = .region id R false) (k : wpAt P R Q 0 a w) : CW P f p Q a w := ⟨by
  rw [h]; exact wp_region_list (by simpa using k.out)⟩

variable {ops : Array Oper} {i : Nat}

theorem at_done (h : i = ops.size) (k : Q .normal a w) : wpAt P ops Q i a w := by
  subst h
  refine ⟨?_⟩
  rw [List.drop_eq_nil_of_le (by simp)]
  exact k

theorem at_pures_list (rest : List Oper) : ∀ (l : List Oper) (a : Act), okP P ops l a = true → wpList P ops Q rest (runP P ops l a) w → wpList P ops Q (l ++ rest) a w
  | [], _, _, h => h
  | o :: l, a, hok, h => by
    simp only [List.cons_append, wpList]
    simp only [okP] at hok
    simp only [runP] at h
    by_cases hw : Region.wanted o (yielded ops a.tmps) = true
    · simp only [hw, if_true] at hok h ⊢
      refine .inl ?_
      cases hs : stepVal P a o with
      | none => rw [hs] at hok; cases hok
      | some v =>
        rw [hs] at hok h
        simp only [Option.getD_some] at h
        have ih := at_pures_list rest l (a.put o.dst v) hok h
        unfold stepVal at hs
        cases hp : pureVal P (execOp a.eval o) with
        | none => rw [hp] at hs; cases hs
        | some n =>
          rw [hp] at hs
          have hr := pureVal_run hp w
          unfold Oper.wp
          rw [hr]
          cases n <;> simp at hs
          case value u => subst hs; exact ih
          case skip => subst hs; exact ih
    · simp only [hw] at hok h ⊢
      simp only [Bool.false_eq_true, if_false] at hok h ⊢
      exact at_pures_list rest l _ hok h

def okI (P : Program) (ops : Array Oper) (i j : Nat) (a : Act) : Bool := okP P ops ((ops.toList.drop i).take (j - i)) a
def runI (P : Program) (ops : Array Oper) (i j : Nat) (a : Act) : Act := runP P ops ((ops.toList.drop i).take (j - i)) a

/-- Operations `i` to `j` leave the world alone: the kernel runs them. -/
theorem at_pures (j : Nat) (hij : Nat.ble i j = true) (hok : okI P ops i j a = true)
    (k : wpAt P ops Q j (runI P ops i j a) w) : wpAt P ops Q i a w := by
  unfold okI at hok
  unfold runI at k
  have hle := Nat.le_of_ble_eq_true hij
  have k := k.out
  refine ⟨?_⟩
  have e : ops.toList.drop i = (ops.toList.drop i).take (j - i) ++ ops.toList.drop j := by
    conv => lhs; rw [← List.take_append_drop (j - i) (ops.toList.drop i)]
    rw [List.drop_drop, Nat.add_sub_cancel' hle]
  rw [e]
  exact at_pures_list _ _ _ hok k

theorem drop_get {o : Oper} (h : ops[i]? = some o) : ops.toList.drop i = o :: ops.toList.drop (i + 1) := by
  have hi := (Array.getElem?_eq_some_iff.1 h).1
  have he := (Array.getElem?_eq_some_iff.1 h).2
  rw [List.drop_eq_getElem_cons (by simpa using hi)]
  simp [he]

/-- The operation at a place. -/
def opAt (ops : Array Oper) (i : Nat) : Oper := ops.getD i default

theorem at_op (hi : Nat.blt i ops.size = true) (hw : Region.wanted (opAt ops i) (yielded ops a.tmps) = true) (h : OpW P (opAt ops i) a w (wpAt P ops Q i.succ) Q) : wpAt P ops Q i a w := by
  have hlt : i < ops.size := by simpa using hi
  have ho : ops[i]? = some (opAt ops i) := by simp [opAt, hlt]
  refine ⟨?_⟩
  rw [drop_get ho, wpList, if_pos hw]
  exact .inl (Oper.wp_mono (fun a w h => h.out) h.out)

/-- It is there, and its guard says yes. -/
def onAt (ops : Array Oper) (i : Nat) (a : Act) : Bool := Nat.blt i ops.size && Region.wanted (opAt ops i) (yielded ops a.tmps)
theorem onAt_spec (h : onAt ops i a = true) : Nat.blt i ops.size = true ∧ Region.wanted (opAt ops i) (yielded ops a.tmps) = true := by
  simpa [onAt] using h

theorem at_do (hon : onAt ops i a = true) (h : OpW P (opAt ops i) a w (wpAt P ops Q i.succ) Q) : wpAt P ops Q i a w := at_op (onAt_spec hon).1 (onAt_spec hon).2 h

theorem op_run {o : Oper} {K : Act → World → Prop} (v : Value) (w' : World) (h : (execOp a.eval o).run P w = .ok (.value v) w') (k : K (a.put o.dst v) w') : OpW P o a w K Q := by
  refine ⟨?_⟩
  unfold Oper.wp
  rw [h]
  exact k
theorem op_run_skip {o : Oper} {K : Act → World → Prop} (w' : World) (h : (execOp a.eval o).run P w = .ok .skip w') (k : K (a.put o.dst undef) w') : OpW P o a w K Q := by
  refine ⟨?_⟩
  unfold Oper.wp
  rw [h]
  exact k
theorem at_run (v : Value) (w' : World) (hon : onAt ops i a = true) (h : (execOp a.eval (opAt ops i)).run P w = .ok (.value v) w') (k : wpAt P ops Q i.succ (a.put (opAt ops i).dst v) w') : wpAt P ops Q i a w := by
  obtain ⟨h1, h2⟩ := onAt_spec hon
  refine at_op h1 h2 ⟨?_⟩
  unfold Oper.wp
  rw [h]
  exact k
theorem at_run_skip (w' : World) (hon : onAt ops i a = true) (h : (execOp a.eval (opAt ops i)).run P w = .ok .skip w') (k : wpAt P ops Q i.succ (a.put (opAt ops i).dst undef) w') : wpAt P ops Q i a w := by
  obtain ⟨h1, h2⟩ := onAt_spec hon
  refine at_op h1 h2 ⟨?_⟩
  unfold Oper.wp
  rw [h]
  exact k

/-- The kernel runs it; what it yields is said in other words. -/
theorem at_as (v v' : Value) (hon : onAt ops i a = true) (h : stepVal P a (opAt ops i) = some v) (e : v = v') (k : wpAt P ops Q i.succ (a.put (opAt ops i).dst v') w) : wpAt P ops Q i a w := by
  subst e
  have ho := onAt_spec hon
  refine at_op ho.1 ho.2 ⟨?_⟩
  unfold stepVal at h
  cases hp : pureVal P (execOp a.eval (opAt ops i)) with
  | none => rw [hp] at h; cases h
  | some n =>
    rw [hp] at h
    have hr := pureVal_run hp w
    unfold Oper.wp
    rw [hr]
    cases n <;> simp at h
    case value u => subst h; exact k
    case skip => subst h; exact k
theorem at_int {kd : IntKind} (x y : Int) (hon : onAt ops i a = true) (h : stepVal P a (opAt ops i) = some (.int kd x)) (e : x = y) (k : wpAt P ops Q i.succ (a.put (opAt ops i).dst (.int kd y)) w) : wpAt P ops Q i a w :=
  at_as _ _ hon h (by rw [e]) k
/-- It yields a Bool: two ways. -/
theorem at_split (t : Bool) (hon : onAt ops i a = true) (h : stepVal P a (opAt ops i) = some (.bool t)) (k1 : t = true → wpAt P ops Q i.succ (a.put (opAt ops i).dst (.bool true)) w)
    (k2 : t = false → wpAt P ops Q i.succ (a.put (opAt ops i).dst (.bool false)) w) : wpAt P ops Q i a w := by
  cases t with
  | true => exact at_as _ _ hon h rfl (k1 rfl)
  | false => exact at_as _ _ hon h rfl (k2 rfl)

/-! ### calls -/

def callOf : Op → Option (Nat × Array Operand)
  | .call c => match c.callee with
    | .value (.func f) => some (f, c.args)
    | _ => none
  | _ => none
def hasBody (P : Program) (f : Nat) : Bool := match P.funcs[f]? with | some fn => fn.body.isSome && !(fn.name == "runtime.NumGoroutine") | none => false

theorem run_callFunc {f : Nat} {args : Array Value} (h : hasBody P f = true) : (callFunc f args).run P w = .ok (.enter f args) w := by
  unfold hasBody at h
  cases hf : P.funcs[f]? with
  | none => simp [hf] at h
  | some fn =>
    simp only [hf, Bool.and_eq_true, Bool.not_eq_true'] at h
    have h1 : (fn.name == "runtime.NumGoroutine") = false := h.2
    have h2 : fn.body.isNone = false := by cases hb : fn.body <;> simp_all
    simp only [callFunc, program, Bind.bind, Sem.bind, Sem.run, hf, h1, h2, Bool.false_eq_true, if_false]
    simp only [Pure.pure, Sem.run]

theorem op_call {o : Oper} {K : Act → World → Prop} (g : Nat) (xs : Array Operand) (args : Array Value) (ho : callOf o.op = some (g, xs)) (ha : xs.map a.eval = args) (hb : hasBody P g = true)
    (k : Calls P g args w fun e w' => ∃ v, e = .returned v ∧ K (a.put o.dst v) w') : OpW P o a w K Q := by
  refine ⟨?_⟩
  subst ha
  unfold callOf at ho
  split at ho
  · rename_i c hc
    split at ho
    · rename_i g' hcal
      simp only [Option.some.injEq, Prod.mk.injEq] at ho
      obtain ⟨rfl, rfl⟩ := ho
      unfold Oper.wp
      have hr : (execOp a.eval o).run P w = .ok (.enter g' (c.args.map a.eval)) w := by
        unfold execOp
        simp only [hc, resolve, hcal, Act.eval, Deferred.ofValue, invoke]
        simp only [Sem.run_bind, Sem.run_pure, Result.andThen_ok, Array.empty_append, Array.append_empty]
        exact run_callFunc hb
      rw [hr]
      simp only [Oper.upon]
      refine k.mono fun e w' ⟨v, he, hk⟩ => ?_
      subst he
      exact hk
    · cases ho
  · cases ho

/-! ### reading and writing -/

def loadOf : Op → Option (Nat × Operand)
  | .load t x => some (t, x)
  | _ => none
def storeOf : Op → Option (Nat × Operand × Operand)
  | .store t x y => some (t, x, y)
  | _ => none
/-- Is it read as a row of cells? -/
def rowed (P : Program) (t : TypeId) : Option Bool := (P.underlying t).map fun d => match d with | .struct _ | .array _ _ => true | _ => false
def sizeT (P : Program) (t : TypeId) : Option Nat := (P.info? t).map (·.size)

theorem run_isAgg (t : TypeId) (b : Bool) (h : rowed P t = some b) : (isAgg t).run P w = .ok b w := by
  unfold rowed at h
  cases hu : P.underlying t with
  | none => simp [hu] at h
  | some d =>
    simp only [hu, Option.map_some, Option.some.injEq] at h
    unfold isAgg
    simp only [Sem.run_bind, run_underlying hu, Result.andThen_ok]
    subst h
    cases d <;> simp

theorem run_load1 {o : Oper} (t : Nat) (x : Operand) (b off : Nat) (c : Array Value) (te : Nat) (fz : Nat × Nat) (v : Value) (ho : loadOf o.op = some (t, x)) (hr : rowed P t = some false)
    (hx : a.eval x = .pointer (some ⟨b, off, none⟩)) (hb : w.heap[b]? = some (.cells c te fz)) (hc : c[off]? = some v) : (execOp a.eval o).run P w = .ok (.value v) w := by
  unfold loadOf at ho
  split at ho
  · rename_i t' x' hop
    simp only [Option.some.injEq, Prod.mk.injEq] at ho
    obtain ⟨rfl, rfl⟩ := ho
    have hcell : w.cell? ⟨b, off, none⟩ = some v := by rw [cell_of_row w b off c te fz hb]; exact hc
    unfold execOp
    simp only [hop, hx, Instr.loadAt, Instr.sureAddr, loadVar, load, Sem.run_bind, Sem.run_pure, Result.andThen_ok, run_isAgg _ _ hr, Bool.false_eq_true, if_false, Sem.run, hcell]
  · cases ho

/-- A cell, wherever. -/
theorem run_loadC {o : Oper} (t : Nat) (x : Operand) (ad : Addr) (v : Value) (ho : loadOf o.op = some (t, x)) (hr : rowed P t = some false)
    (hx : a.eval x = .pointer (some ad)) (hc : w.cell? ad = some v) : (execOp a.eval o).run P w = .ok (.value v) w := by
  unfold loadOf at ho
  split at ho
  · rename_i t' x' hop
    simp only [Option.some.injEq, Prod.mk.injEq] at ho
    obtain ⟨rfl, rfl⟩ := ho
    unfold execOp
    simp only [hop, hx, Instr.loadAt, Instr.sureAddr, loadVar, load, Sem.run_bind, Sem.run_pure, Result.andThen_ok, run_isAgg _ _ hr, Bool.false_eq_true, if_false, Sem.run, hc]
  · cases ho

theorem run_sizeOf {t n : Nat} (hn : sizeT P t = some n) : (sizeOf t).run P w = .ok n w := by
  unfold sizeT at hn
  cases hi : P.info? t with
  | none => simp [hi] at hn
  | some inf => simp only [hi, Option.map_some, Option.some.injEq] at hn; simp [sizeOf, typeInfo, hi, hn]

theorem run_loadN {o : Oper} (t : Nat) (x : Operand) (b off n : Nat) (c : Array Value) (te : Nat) (fz : Nat × Nat) (vs : Array Value) (ho : loadOf o.op = some (t, x)) (hr : rowed P t = some true) (hn : sizeT P t = some n)
    (hx : a.eval x = .pointer (some ⟨b, off, none⟩)) (hb : w.heap[b]? = some (.cells c te fz)) (hle : Nat.ble (off + n) c.size = true) (hv : c.extract off (off + n) = vs) : (execOp a.eval o).run P w = .ok (.value (.agg vs)) w := by
  have hle' := Nat.le_of_ble_eq_true hle
  unfold loadOf at ho
  split at ho
  · rename_i t' x' hop
    simp only [Option.some.injEq, Prod.mk.injEq] at ho
    obtain ⟨rfl, rfl⟩ := ho
    subst hv
    have hl : (loadCells ⟨b, off, none⟩ n).run P w = .ok (c.extract off (off + n)) w := by
      have := run_loadCells_list (P := P) (w := w) ⟨b, off, none⟩ (c.extract off (off + n)).toList (by
        intro j v hj
        have hj' : (c.extract off (off + n))[j]? = some v := by rw [← hj]; exact (Array.getElem?_toList).symm
        have hadd : (⟨b, off, none⟩ : Addr).add j = ⟨b, off + j, none⟩ := by unfold Addr.add; split <;> simp_all
        rw [hadd, cell_of_row w b (off + j) c te fz hb]
        rw [Array.getElem?_extract] at hj'
        split at hj'
        · exact hj'
        · cases hj')
      have hlen : (c.extract off (off + n)).toList.length = n := by simp; omega
      rw [hlen] at this
      rw [this]
    unfold execOp
    simp only [hop, hx, Instr.loadAt, Instr.sureAddr, loadVar, Sem.run_bind, Sem.run_pure, Result.andThen_ok, run_isAgg _ _ hr, if_true, run_sizeOf hn, hl]
  · cases ho

theorem at_load1 (t : Nat) (x : Operand) (b off : Nat) (c : Array Value) (te : Nat) (fz : Nat × Nat) (v : Value) (hon : onAt ops i a = true) (ho : loadOf (opAt ops i).op = some (t, x)) (hr : rowed P t = some false)
    (hx : a.eval x = .pointer (some ⟨b, off, none⟩)) (hb : w.heap[b]? = some (.cells c te fz)) (hc : c[off]? = some v) (k : wpAt P ops Q i.succ (a.put (opAt ops i).dst v) w) : wpAt P ops Q i a w :=
  at_run v w hon (run_load1 t x b off c te fz v ho hr hx hb hc) k
theorem at_loadN (t : Nat) (x : Operand) (b off n : Nat) (c : Array Value) (te : Nat) (fz : Nat × Nat) (vs : Array Value) (hon : onAt ops i a = true) (ho : loadOf (opAt ops i).op = some (t, x)) (hr : rowed P t = some true) (hn : sizeT P t = some n)
    (hx : a.eval x = .pointer (some ⟨b, off, none⟩)) (hb : w.heap[b]? = some (.cells c te fz)) (hle : Nat.ble (off + n) c.size = true) (hv : c.extract off (off + n) = vs) (k : wpAt P ops Q i.succ (a.put (opAt ops i).dst (.agg vs)) w) : wpAt P ops Q i a w :=
  at_run (.agg vs) w hon (run_loadN t x b off n c te fz vs ho hr hn hx hb hle hv) k
end
end Go.Alm
