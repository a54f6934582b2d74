/- A machine that the kernel runs: it goes through a function's code to what acts; what is known of the world is a list of resources. -/
import Derived.Test.YtmnehhpfbmoahaaDoorFast
import Derived.Test.YtmnehhpfbmoahaaDoorTree
import Derived.RangeFuncCalls
import Derived.LoopNIn
namespace Go.Alm
open Go Go.RowKit

/-! ### resources -/
structure Re where
  S : Nat → Prop
  A : World → Prop
  inn : ∀ w, A w → In w S
  keep : ∀ w w' T, A w → Fr w w' T → Dis S T → A w'

inductive Rc where
  | blk (b : Nat) (c : Array Value) (te : Nat)
  | rd (ao : Option Addr) (xs : List Value)
  | row (e sz : Nat) (ao : Option Addr) (n cap : Nat) (xs : List Value)
  | gen (r : Re)

def Rc.S : Rc → Nat → Prop
  | .blk b _ _ => One b
  | .rd ao xs => Ar ao xs
  | .row _ _ ao n cap _ => Own (.slice ao n cap)
  | .gen r => r.S
def Rc.A (r : Rc) (w : World) : Prop := match r with
  | .blk b c te => w.heap[b]? = some (.cells c te (0, 0))
  | .rd ao xs => Rd w ao xs
  | .row e sz ao n cap xs => Row w e sz (.slice ao n cap) n xs
  | .gen r => r.A w
theorem Rc.inn (r : Rc) {w : World} (h : r.A w) : In w r.S := by
  cases r with
  | blk b c te => exact In.one h
  | rd ao xs => exact Rd.in h
  | row e sz ao n cap xs => exact Row.in h
  | gen r => exact r.inn w h
theorem Rc.keep (r : Rc) {w w' : World} {T : Nat → Prop} (h : r.A w) (F : Fr w w' T) (d : Dis r.S T) : r.A w' := by
  cases r with
  | blk b c te => exact Fr.keep F h d
  | rd ao xs => exact Rd.keep' h F d
  | row e sz ao n cap xs => exact Row.keep h F d
  | gen r => exact r.keep w w' T h F d

def DD (r o : Rc) : Prop := Dis r.S o.S
theorem DD.symm {r o : Rc} (h : DD r o) : DD o r := Dis.sym h
structure Hs (w : World) (RO OW : List Rc) : Prop where
  a : ∀ r ∈ RO ++ OW, r.A w
  d : ∀ r ∈ RO, ∀ o ∈ OW, DD r o
  p : OW.Pairwise DD

/-- Takes out, one behind the other, by places in what is left. -/
def pick : List Nat → List Rc → List Rc × List Rc
  | [], H => ([], H)
  | i :: l, H => match H[i]? with
    | some r => let q := pick l (H.eraseIdx i); (r :: q.1, q.2)
    | none => pick l H
theorem perm_erase : ∀ (H : List Rc) (i : Nat) (r : Rc), H[i]? = some r → (r :: H.eraseIdx i).Perm H
  | [], _, _, h => by simp at h
  | x :: H, 0, r, h => by simp at h; subst h; exact List.Perm.refl _
  | x :: H, i + 1, r, h => by
    have := perm_erase H i r (by simpa using h)
    exact (List.Perm.swap x r _).trans (this.cons x)
theorem pick_perm : ∀ (l : List Nat) (H : List Rc), ((pick l H).1 ++ (pick l H).2).Perm H
  | [], H => List.Perm.refl _
  | i :: l, H => by
    unfold pick
    split
    · rename_i r hr
      exact ((pick_perm l (H.eraseIdx i)).cons r).trans (perm_erase H i r hr)
    · exact pick_perm l H
theorem Hs.perm {w : World} {RO OW OW' : List Rc} (h : Hs w RO OW) (p : OW'.Perm OW) : Hs w RO OW' :=
  ⟨fun r hr => h.a r (by rw [List.mem_append] at hr ⊢; rw [← p.mem_iff]; exact hr), fun r hr o ho => h.d r hr o (p.mem_iff.1 ho), p.symm.pairwise h.p fun h => h.symm⟩
theorem Hs.own {w : World} {RO A B : List Rc} (h : Hs w RO (A ++ B)) : Hs w RO A :=
  ⟨fun r hr => h.a r (by simp only [List.mem_append] at hr ⊢; exact hr.imp id .inl), fun r hr o ho => h.d r hr o (List.mem_append_left _ ho), (List.pairwise_append.1 h.p).1⟩
theorem Hs.ro {w : World} {RO RO' OW : List Rc} (h : Hs w RO OW) (k : ∀ r ∈ RO', r ∈ RO) : Hs w RO' OW :=
  ⟨fun r hr => h.a r (by rw [List.mem_append] at hr ⊢; exact hr.imp (k r) id), fun r hr => h.d r (k r hr), h.p⟩

/-- One of them changes, or is new: what it has is its own or new. -/
theorem Hs.step {w w' : World} {RO A B : List Rc} {r' : List Rc} {T : Nat → Prop} (h : Hs w RO (A ++ B)) (F : Fr w w' T) (hT : ∀ k, T k → (∃ r ∈ A, r.S k) ∨ w.heap.size ≤ k)
    (ha : ∀ r ∈ r', r.A w') (hn : ∀ r ∈ r', ∀ k, r.S k → (∃ r ∈ A, r.S k) ∨ w.heap.size ≤ k) (hp : r'.Pairwise DD) : Hs w' RO (r' ++ B) := by
  have hB := List.pairwise_append.1 h.p
  have far : ∀ r, r ∈ RO ∨ r ∈ B → ∀ k, r.S k → ¬ ((∃ r ∈ A, r.S k) ∨ w.heap.size ≤ k) := by
    rintro r hr k hk (⟨a, ha, hka⟩ | hge)
    · rcases hr with hr | hr
      · exact h.d r hr a (List.mem_append_left _ ha) k hk hka
      · exact hB.2.2 a ha r hr k hka hk
    · have := r.inn (h.a r (by simp only [List.mem_append]; rcases hr with hr | hr <;> simp [hr])) k hk
      omega
  have keepx : ∀ r, r ∈ RO ∨ r ∈ B → r.A w' := fun r hr =>
    r.keep (h.a r (by simp only [List.mem_append]; rcases hr with hr | hr <;> simp [hr])) F fun k hk ht => far r hr k hk (hT k ht)
  refine ⟨fun r hr => ?_, fun r hr o ho => ?_, ?_⟩
  · simp only [List.mem_append] at hr
    rcases hr with hr | hr | hr
    · exact keepx r (.inl hr)
    · exact ha r hr
    · exact keepx r (.inr hr)
  · rcases List.mem_append.1 ho with ho | ho
    · exact fun k hk hk' => far r (.inl hr) k hk (hn o ho k hk')
    · exact h.d r hr o (List.mem_append_right _ ho)
  · exact List.pairwise_append.2 ⟨hp, hB.2.1, fun a ha b hb k hk hk' => far b (.inr hb) k hk' (hn a ha k hk)⟩

/-! ### the machine -/
inductive Ct where
  | seq (c : Code)
  | blk (id : Nat)
  | lp
  | un (c : Code) (m : Nat)
inductive Ps where
  | code (c : Code)
  | reg (ops : Array Oper) (i : Nat)
  | pl (ops : Array Oper) (sk : List Nat) (π : PT)
  | out (e : Exit)
structure St where
  ps : Ps
  K : List Ct
  a : Act
  r : Option Nat
/-- No fence but for the round. -/
def Fz (r : Option Nat) : Fence := { Fence.wide with round := r }
/-- In a round a deferred call is another thing. -/
def ndf (r : Option Nat) (o : Oper) : Bool := match r with
  | none => true
  | some _ => match o.op with
    | .defer _ => false
    | _ => true

def stp (P : Program) (s : St) : St := match s.ps with
  | .code c => match c with
    | .seq x y => ⟨.code x, .seq y :: s.K, s.a, s.r⟩
    | .skip => ⟨.out .normal, s.K, s.a, s.r⟩
    | .label _ => ⟨.out .normal, s.K, s.a, s.r⟩
    | .ret => ⟨.out .ret, s.K, s.a, s.r⟩
    | .exit id => ⟨.out (.exit id), s.K, s.a, s.r⟩
    | .goto l => ⟨.out (.goto l), s.K, s.a, s.r⟩
    | .block id x => ⟨.code x, .blk id :: s.K, s.a, s.r⟩
    | .loop x => ⟨.code x, .un x 300 :: s.K, s.a, s.r⟩
    | .region _ ops false => ⟨.reg ops 0, s.K, s.a, s.r⟩
    | .cond o x y => match s.a.eval o with
      | .bool true => ⟨.code x, s.K, s.a, s.r⟩
      | .bool false => ⟨.code y, s.K, s.a, s.r⟩
      | _ => s
    | _ => s
  | .reg ops i => bif Nat.blt i ops.size then
      bif Region.wanted (opAt ops i) (yielded ops s.a.tmps) then
        bif ndf s.r (opAt ops i) then
          match fastVal P s.a (opAt ops i) with
          | some v => ⟨.reg ops i.succ, s.K, s.a.put (opAt ops i).dst v, s.r⟩
          | none => match stepVal P s.a (opAt ops i) with
            | some v => ⟨.reg ops i.succ, s.K, s.a.put (opAt ops i).dst v, s.r⟩
            | none => s
        else s
      else ⟨.reg ops i.succ, s.K, s.a.put (opAt ops i).dst undef, s.r⟩
    else ⟨.out .normal, s.K, s.a, s.r⟩
  | .pl _ _ .n => ⟨.out .normal, s.K, s.a, s.r⟩
  | .pl ops sk (.q j ld π) => bif Nat.blt j ops.size then
      bif Region.wanted (opAt ops j) (yielded ops s.a.tmps) then
        bif ld then s else match fastVal P s.a (opAt ops j) with
          | some v => ⟨.pl ops sk π, s.K, s.a.put (opAt ops j).dst v, s.r⟩
          | none => s
      else ⟨.pl ops sk π, s.K, s.a.put (opAt ops j).dst undef, s.r⟩
    else s
  | .pl ops sk (.e j π) => bif Nat.blt j ops.size then
      bif Region.wanted (opAt ops j) (yielded ops s.a.tmps) then s
      else ⟨.pl ops sk π, s.K, s.a.put (opAt ops j).dst undef, s.r⟩
    else s
  | .pl _ _ (.f _ _) => s
  | .out e => match s.K with
    | [] => s
    | .seq c :: K => match e with
      | .normal => ⟨.code c, K, s.a, s.r⟩
      | e => ⟨.out e, K, s.a, s.r⟩
    | .blk id :: K => match e with
      | .exit id' => bif Nat.beq id' id then ⟨.out .normal, K, s.a, s.r⟩ else ⟨.out (.exit id'), K, s.a, s.r⟩
      | e => ⟨.out e, K, s.a, s.r⟩
    | .lp :: K => match e with
      | .normal => s
      | e => ⟨.out e, K, s.a, s.r⟩
    | .un c m :: K => match e with
      | .normal => match m with
        | 0 => s
        | m + 1 => ⟨.code c, .un c m :: K, s.a, s.r⟩
      | e => ⟨.out e, K, s.a, s.r⟩
def go (P : Program) : Nat → St → St
  | 0, s => s
  | n + 1, s => go P n (stp P s)

def lps : List Ct → Nat
  | [] => 0
  | .lp :: K => (lps K).succ
  | _ :: K => lps K
abbrev Iv := Act → World → Prop
def ivAt (L : List Iv) (i : Nat) : Iv := L.reverse.getD i fun _ _ => False
theorem ivAt_top (R : Iv) (L : List Iv) : ivAt (R :: L) L.length = R := by simp [ivAt]
theorem ivAt_old (R : Iv) (L : List Iv) {i : Nat} (h : i < L.length) : ivAt (R :: L) i = ivAt L i := by
  simp [ivAt, List.getElem?_append_left (l₁ := L.reverse) (l₂ := [R]) (by simpa using h)]

section
variable (P : Program) (Q : Exit → Act → World → Prop) (L : List Iv) (S : World → Prop)
def post (r : Option Nat) : List Ct → Exit → Act → World → Prop
  | [] => Q
  | .seq c :: K => Exit.then (fun a w => c.wpIn (Fz r) 0 P (post r K) a w) (post r K)
  | .blk id :: K => Exit.inBlock id (post r K)
  | .lp :: K => Exit.then (ivAt L (lps K)) (post r K)
  | .un c m :: K => Exit.then (Code.roundsIn (Fz r) 0 P c (post r K) m) (post r K)
def den (s : St) (w : World) : Prop := match s.ps with
  | .code c => c.wpIn (Fz s.r) 0 P (post P Q L s.r s.K) s.a w
  | .reg ops i => wpListIn (Fz s.r) 0 P ops (post P Q L s.r s.K) (ops.toList.drop i) s.a w
  | .pl ops sk π => wpTree P ops (OnlyN fun a w => post P Q L s.r s.K .normal a w) S (fun i => sk.contains i) π s.a w
  | .out e => post P Q L s.r s.K e s.a w
end

theorem post_old {P : Program} {Q : Exit → Act → World → Prop} {L : List Iv} (R : Iv) {r : Option Nat} : ∀ {K : List Ct}, lps K ≤ L.length → post P Q (R :: L) r K = post P Q L r K
  | [], _ => rfl
  | .seq c :: K, h => by simp only [post]; rw [post_old R (K := K) h]
  | .blk id :: K, h => by simp only [post]; rw [post_old R (K := K) h]
  | .lp :: K, h => by
    simp only [post, lps] at h ⊢
    rw [post_old R (K := K) (by omega), ivAt_old R L (by omega)]
  | .un c m :: K, h => by simp only [post]; rw [post_old R (K := K) h]

section
variable {P : Program} {Q : Exit → Act → World → Prop} {L : List Iv} {S : World → Prop} {s : St} {w : World}

theorem wpIn_of {r : Option Nat} {o : Oper} {a : Act} {K : Act → World → Prop} {Q : Exit → Act → World → Prop} (hd : ndf r o = true) (h : o.wp P a w K Q) : o.wpIn (Fz r) 0 P a w K Q := by
  refine ⟨fun _ _ => trivial, ?_⟩
  have e : Oper.semAt (Fz r).round a.eval o = execOp a.eval o := by
    cases r with
    | none => exact Oper.semAt_none _ _
    | some l =>
      refine Oper.semAt_some l _ _ fun c hc => ?_
      simp [ndf, hc] at hd
  rw [e]
  unfold Oper.wp at h
  cases hr : (execOp a.eval o).run P w with
  | ok n w' =>
    rw [hr] at h
    cases n with
    | enter f args => exact ⟨fun h => (by cases h), (CallsIn.mono (callsIn_wide (n := 0 - 1).2 h) fun _ _ h => h)⟩
    | row row args => exact ⟨fun h => (by cases h), fun c cs _ => let ⟨v, w'', r, s⟩ := h c cs; ⟨v, w'', r, stepsIn_wide.2 s⟩⟩
    | round l f tmps x y => exact h.elim
    | _ => exact h
  | halt x w' =>
    rw [hr] at h
    cases x <;> exact h

theorem den_old (R : Iv) (h : lps s.K ≤ L.length) : den P Q (R :: L) S s w = den P Q L S s w := by
  unfold den
  rw [post_old R h]

theorem wpList_on {r : Option Nat} {ops : Array Oper} {Q : Exit → Act → World → Prop} {i : Nat} {a : Act} (hi : Nat.blt i ops.size = true) (hw : Region.wanted (opAt ops i) (yielded ops a.tmps) = true) (hd : ndf r (opAt ops i) = true)
    (h : (opAt ops i).wp P a w (fun a w => wpListIn (Fz r) 0 P ops Q (ops.toList.drop i.succ) a w) Q) : wpListIn (Fz r) 0 P ops Q (ops.toList.drop i) a w := by
  have hlt : i < ops.size := by simpa using hi
  have ho : ops[i]? = some (opAt ops i) := by simp [opAt, hlt]
  rw [drop_get ho, wpListIn, if_pos hw]
  exact wpIn_of hd h
theorem wpList_off {r : Option Nat} {ops : Array Oper} {Q : Exit → Act → World → Prop} {i : Nat} {a : Act} (hi : Nat.blt i ops.size = true) (hw : Region.wanted (opAt ops i) (yielded ops a.tmps) = false)
    (h : wpListIn (Fz r) 0 P ops Q (ops.toList.drop i.succ) (a.put (opAt ops i).dst undef) w) : wpListIn (Fz r) 0 P ops Q (ops.toList.drop i) a w := by
  have hlt : i < ops.size := by simpa using hi
  have ho : ops[i]? = some (opAt ops i) := by simp [opAt, hlt]
  rw [drop_get ho, wpListIn, hw]
  exact ⟨fun _ _ => trivial, h⟩

theorem ble_of {i n : Nat} (h : Nat.blt i n = false) : n ≤ i := by
  rcases Nat.lt_or_ge i n with h1 | h1
  · have h2 : Nat.blt i n = true := by simpa using h1
    rw [h2] at h; cases h
  · exact h1
theorem stp_ok (hS : S w) (h : den P Q L S (stp P s) w) : den P Q L S s w := by
  obtain ⟨ps, K, a, r⟩ := s
  cases ps with
  | code c =>
    cases c with
    | seq x y => exact wpIn_seq h
    | skip => exact wpIn_skip h
    | label l => exact wpIn_label h
    | ret => exact wpIn_ret h
    | exit id => exact wpIn_exit h
    | goto l => exact wpIn_goto h
    | block id x => exact wpIn_block h
    | region id ops d =>
      cases d with
      | false => exact wpIn_region_list (by simpa [stp, den] using h)
      | true => exact h
    | cond o x y =>
      simp only [stp] at h
      split at h
      · rename_i he; exact wpIn_cond_true he h
      · rename_i he; exact wpIn_cond_false he h
      · exact h
    | loop x => exact wpIn_loop_rounds 301 h
    | rangeFunc f ps x y => exact h
    | scope x => exact h
    | refuse y => exact h
  | reg ops i =>
    simp only [stp] at h
    cases hi : Nat.blt i ops.size with
    | false =>
      rw [hi, cond_false] at h
      have : ops.size ≤ i := ble_of hi
      simp only [den] at h ⊢
      rw [List.drop_eq_nil_of_le (by simpa using this)]
      exact h
    | true =>
      rw [hi, cond_true] at h
      cases hw : Region.wanted (opAt ops i) (yielded ops a.tmps) with
      | false => rw [hw, cond_false] at h; exact wpList_off hi hw h
      | true =>
        rw [hw, cond_true] at h
        cases hd : ndf r (opAt ops i) with
        | false => rw [hd, cond_false] at h; exact h
        | true =>
        rw [hd, cond_true] at h
        cases hf : fastVal P a (opAt ops i) with
        | some v =>
          rw [hf] at h
          refine wpList_on hi hw hd ?_
          unfold Oper.wp
          rw [fastVal_run hf w]
          exact h
        | none =>
        rw [hf] at h
        simp only at h
        cases hv : stepVal P a (opAt ops i) with
        | none => rw [hv] at h; exact h
        | some v =>
          rw [hv] at h
          refine wpList_on hi hw hd ?_
          unfold stepVal at hv
          cases hp : pureVal P (execOp a.eval (opAt ops i)) with
          | none => rw [hp] at hv; cases hv
          | some n =>
            rw [hp] at hv
            have hr := pureVal_run hp w
            unfold Oper.wp
            rw [hr]
            cases n <;> simp at hv
            case value u => subst hv; exact h
            case skip => subst hv; exact h
  | pl ops sk π =>
    cases π with
    | n => exact h
    | f x y => exact h
    | q j ld π =>
      simp only [stp] at h
      cases hi : Nat.blt j ops.size with
      | false => rw [hi, cond_false] at h; exact h
      | true =>
        rw [hi, cond_true] at h
        cases hw : Region.wanted (opAt ops j) (yielded ops a.tmps) with
        | false => rw [hw, cond_false] at h; exact ⟨undef, .inr ⟨hw, rfl⟩, fun _ => hS, h⟩
        | true =>
          rw [hw, cond_true] at h
          cases ld with
          | true => exact h
          | false =>
            rw [cond_false] at h
            cases hf : fastVal P a (opAt ops j) with
            | none => rw [hf] at h; exact h
            | some v => rw [hf] at h; exact ⟨v, .inl ⟨hw, fun w' _ => fastVal_run hf w'⟩, fun _ => hS, h⟩
    | e j π =>
      simp only [stp] at h
      cases hi : Nat.blt j ops.size with
      | false => rw [hi, cond_false] at h; exact h
      | true =>
        rw [hi, cond_true] at h
        have hlt : j < ops.size := by simpa using hi
        have ho : ops[j]? = some (opAt ops j) := by simp [opAt, hlt]
        cases hw : Region.wanted (opAt ops j) (yielded ops a.tmps) with
        | true => rw [hw, cond_true] at h; exact h
        | false =>
          rw [hw, cond_false] at h
          simp only [den, wpTree, wpOp, ho, hw, Bool.false_eq_true, if_false] at h ⊢
          exact ⟨fun _ => hS, h⟩
  | out e =>
    cases K with
    | nil => exact h
    | cons x K =>
      cases x with
      | seq c => cases e <;> exact h
      | blk id =>
        cases e with
        | exit id' =>
          simp only [stp] at h
          simp only [den, post, Exit.inBlock]
          cases hb : Nat.beq id' id with
          | true =>
            rw [hb, cond_true] at h
            rw [if_pos (Nat.eq_of_beq_eq_true hb)]
            exact h
          | false =>
            rw [hb, cond_false] at h
            rw [if_neg (fun e => by subst e; simp at hb)]
            exact h
        | _ => exact h
      | lp => cases e <;> exact h
      | un c m =>
        cases e with
        | normal => cases m <;> exact h
        | _ => exact h
theorem go_ok (hS : S w) : ∀ (n : Nat) {s : St}, den P Q L S (go P n s) w → den P Q L S s w
  | 0, _, h => h
  | n + 1, _, h => stp_ok hS (go_ok hS n h)

/-- The operation at hand; what stands behind it. -/
def cur (s : St) : Oper := match s.ps with
  | .reg ops i => opAt ops i
  | .pl ops _ (.q j _ _) => opAt ops j
  | .pl ops _ (.e j _) => opAt ops j
  | _ => default
def nx (s : St) (v : Value) : St := ⟨match s.ps with | .reg ops i => .reg ops i.succ | .pl ops sk (.q _ _ π) => .pl ops sk π | .pl ops sk (.e _ π) => .pl ops sk π | x => x, s.K, s.a.put (cur s).dst v, s.r⟩
def onW (s : St) : Bool := match s.ps with
  | .reg ops i => onAt ops i s.a && ndf s.r (opAt ops i)
  | .pl ops _ (.q j _ _) => onAt ops j s.a
  | .pl ops _ (.e j _) => onAt ops j s.a
  | _ => false
/-- It may act. -/
def acts (s : St) : Bool := match s.ps with
  | .reg ops i => ndf s.r (opAt ops i)
  | .pl _ _ (.e _ _) => true
  | _ => false
/-- It may read. -/
def reads (s : St) : Bool := match s.ps with
  | .reg ops i => ndf s.r (opAt ops i)
  | .pl _ _ (.e _ _) => true
  | .pl _ _ (.q _ b _) => b
  | _ => false

theorem den_act {Q' : Exit → Act → World → Prop} (ha : acts s = true) (hon : onW s = true) (h : ∀ Q', OpW P (cur s) s.a w (fun a' w' => ∃ v, a' = s.a.put (cur s).dst v ∧ S w' ∧ den P Q L S (nx s v) w') Q') : den P Q L S s w := by
  obtain ⟨ps, K, a, r⟩ := s
  cases ps with
  | code c => cases ha
  | out e => cases ha
  | reg ops i =>
    obtain ⟨hon, hd⟩ := Bool.and_eq_true_iff.1 hon
    obtain ⟨h1, h2⟩ := onAt_spec hon
    refine wpList_on h1 h2 hd (Oper.wp_mono ?_ (h _).out)
    rintro a' w' ⟨v, rfl, _, hd⟩
    exact hd
  | pl ops sk π =>
    match π, ha, hon, h with
    | .e j π, _, hon, h =>
      obtain ⟨h1, h2⟩ := onAt_spec hon
      have hlt : j < ops.size := by simpa using h1
      have ho : ops[j]? = some (opAt ops j) := by simp [opAt, hlt]
      simp only [den, wpTree, wpOp, ho, h2, if_true]
      refine .inl (Oper.wp_mono ?_ (h _).out)
      rintro a' w' ⟨v, rfl, hs, hd⟩
      exact ⟨fun _ => hs, hd⟩
/-- What leaves the world alone, in every world of `S`. -/
theorem den_q {v : Value} (hS : S w) (hr : reads s = true) (hon : onW s = true) (h : ∀ w', S w' → (execOp s.a.eval (cur s)).run P w' = .ok (.value v) w') (k : den P Q L S (nx s v) w) : den P Q L S s w := by
  obtain ⟨ps, K, a, r⟩ := s
  cases ps with
  | code c => cases hr
  | out e => cases hr
  | reg ops i =>
    obtain ⟨hon, hd⟩ := Bool.and_eq_true_iff.1 hon
    obtain ⟨h1, h2⟩ := onAt_spec hon
    refine wpList_on h1 h2 hd ?_
    unfold Oper.wp
    rw [show (execOp a.eval (opAt ops i)).run P w = .ok (.value v) w from h w hS]
    exact k
  | pl ops sk π =>
    match π, hr, hon, h, k with
    | .e j π, _, hon, h, k =>
      obtain ⟨h1, h2⟩ := onAt_spec hon
      have hlt : j < ops.size := by simpa using h1
      have ho : ops[j]? = some (opAt ops j) := by simp [opAt, hlt]
      simp only [den, wpTree, wpOp, ho, h2, if_true]
      refine .inl ?_
      unfold Oper.wp
      rw [show (execOp a.eval (opAt ops j)).run P w = .ok (.value v) w from h w hS]
      exact ⟨fun _ => hS, k⟩
    | .q j true π, _, hon, h, k =>
      obtain ⟨h1, h2⟩ := onAt_spec hon
      exact ⟨v, .inl ⟨h2, fun w' hw' => h w' (hw' rfl)⟩, fun _ => hS, k⟩
/-- In every world. -/
theorem den_p {v : Value} (hS : S w) (hon : onW s = true) (h : ∀ w' : World, (execOp s.a.eval (cur s)).run P w' = .ok (.value v) w') (k : den P Q L S (nx s v) w) : den P Q L S s w := by
  obtain ⟨ps, K, a, r⟩ := s
  cases ps with
  | code c => cases hon
  | out e => cases hon
  | reg ops i => exact den_q (s := ⟨.reg ops i, K, a, r⟩) hS (Bool.and_eq_true_iff.1 hon).2 hon (fun w' _ => h w') k
  | pl ops sk π =>
    match π, hon, h, k with
    | .e j π, hon, h, k => exact den_q (s := ⟨.pl ops sk (.e j π), K, a, r⟩) hS rfl hon (fun w' _ => h w') k
    | .q j true π, hon, h, k => exact den_q (s := ⟨.pl ops sk (.q j true π), K, a, r⟩) hS rfl hon (fun w' _ => h w') k
    | .q j false π, hon, h, k =>
      obtain ⟨h1, h2⟩ := onAt_spec hon
      exact ⟨v, .inl ⟨h2, fun w' _ => h w'⟩, fun _ => hS, k⟩
/-- In the world at hand, where it may act. -/
theorem den_r {v : Value} (hS : S w) (ha : acts s = true) (hon : onW s = true) (h : (execOp s.a.eval (cur s)).run P w = .ok (.value v) w) (k : den P Q L S (nx s v) w) : den P Q L S s w :=
  den_act (Q' := Q) ha hon fun _ => op_run v w h ⟨v, rfl, hS, k⟩
end
end Go.Alm
