/- Plain lemmas and laws of the machine that the walks use; without conditions of their own. -/
import Derived.Test.YtinmmamnldephaaDoorLib4
import Derived.RangeFuncKeeps
import Derived.Test.YtinmmamnldephaaDoorLib3
import Derived.Test.YtinmmamnldephaaDoorLib2
/- Values of functions that are called; a range over a function: its rounds by the machine. -/
namespace Go.Alm
open Go Go.RowKit

/-! ### a value is called -/
def calleeO (o : Oper) (a : Act) : Option (Fn × Array Value × Array Value) := match o.op with
  | .call c => match c.callee with
    | .value g => match a.eval g with
      | .func fn first cap => some (fn, first ++ c.args.map a.eval, cap)
      | _ => none
    | _ => none
  | _ => none
theorem calleeO_run {P : Program} {o : Oper} {a : Act} {fn : Fn} {xs cap : Array Value} (h : calleeO o a = some (fn, xs, cap)) (w : World) : (execOp a.eval o).run P w = (invoke (.fn fn cap) xs).run P w := by
  unfold calleeO at h
  split at h
  · rename_i c hc
    split at h
    · rename_i g hg
      split at h
      · rename_i fn' first cap' he
        simp only [Option.some.injEq, Prod.mk.injEq] at h
        obtain ⟨rfl, rfl, rfl⟩ := h
        unfold execOp
        simp only [hc, resolve, hg, he, Deferred.ofValue, Sem.run_bind, Sem.run_pure, Result.andThen_ok]
      · cases h
    · cases h
  · cases h
def callCv (s : St) : Option (Nat × Array Value) := match calleeO (cur s) s.a with
  | some (.func f, xs, cap) => some (f, xs ++ cap)
  | _ => none
def yieldC (s : St) : Option (Nat × Array Value) := match calleeO (cur s) s.a with
  | some (.yield l, xs, _) => some (l, xs)
  | _ => none
theorem callCv_spec {s : St} {f : Nat} {args : Array Value} (h : callCv s = some (f, args)) : ∃ xs cap, calleeO (cur s) s.a = some (.func f, xs, cap) ∧ xs ++ cap = args := by
  unfold callCv at h
  split at h
  · rename_i f' xs cap he
    simp only [Option.some.injEq, Prod.mk.injEq] at h
    obtain ⟨rfl, rfl⟩ := h
    exact ⟨xs, cap, he, rfl⟩
  · cases h
theorem yieldC_spec {s : St} {l : Nat} {args : Array Value} (h : yieldC s = some (l, args)) : ∃ cap, calleeO (cur s) s.a = some (.yield l, args, cap) := by
  unfold yieldC at h
  split at h
  · rename_i f' xs cap he
    simp only [Option.some.injEq, Prod.mk.injEq] at h
    obtain ⟨rfl, rfl⟩ := h
    exact ⟨cap, he⟩
  · cases h
theorem op_callv {P : Program} {a : Act} {w : World} {Q : Exit → Act → World → Prop} {o : Oper} {K : Act → World → Prop} {g : Nat} {xs cap args : Array Value} (ho : calleeO o a = some (.func g, xs, cap)) (ha : xs ++ cap = args) (hb : hasBody P g = true)
    (k : Calls P g args w fun e w' => ∃ v, e = .returned v ∧ K (a.put o.dst v) w') : OpW P o a w K Q := by
  subst ha
  refine ⟨?_⟩
  unfold Oper.wp
  have hr : (execOp a.eval o).run P w = .ok (.enter g (xs ++ cap)) w := by
    rw [calleeO_run ho]
    simp only [invoke]
    exact run_callFunc hb
  rw [hr]
  simp only [Oper.upon]
  refine k.mono fun e w' ⟨v, he, hk⟩ => ?_
  subst he
  exact hk

/-! ### what is looked at, and what is not -/
theorem Hs.focus {w : World} {RO own rest : List Rc} (h : Hs w RO (own ++ rest)) : Hs w [.gen (star (RO ++ rest))] own := by
  have hpw := List.pairwise_append.1 h.p
  refine ⟨fun r hr => ?_, fun r hr o ho => ?_, hpw.1⟩
  · rcases List.mem_append.1 hr with hr | hr
    · rw [List.mem_singleton.1 hr]
      exact fun x hx => h.a x (by simp only [List.mem_append] at hx ⊢; rcases hx with hx | hx <;> simp [hx])
    · exact h.a r (by simp [hr])
  · rw [List.mem_singleton.1 hr]
    rintro i ⟨x, hx, hi⟩
    rcases List.mem_append.1 hx with hx | hx
    · exact h.d x hx o (List.mem_append_left _ ho) i hi
    · exact (hpw.2.2 o ho x hx).symm i hi
theorem Hs.unfocus {w w' : World} {RO own rest H : List Rc} (h : Hs w RO (own ++ rest)) (hH : Hs w' [.gen (star (RO ++ rest))] H) : Hs w' RO (H ++ rest) := by
  have hpw := List.pairwise_append.1 h.p
  have hall : ∀ r ∈ RO ++ rest, r.A w' := hH.a (.gen (star (RO ++ rest))) (by simp)
  have hd2 : ∀ r ∈ RO ++ rest, ∀ o ∈ H, DD r o := fun r hr o ho i hi => hH.d (.gen (star (RO ++ rest))) (by simp) o ho i ⟨r, hr, hi⟩
  refine ⟨fun r hr => ?_, fun r hr o ho => ?_, ?_⟩
  · simp only [List.mem_append] at hr
    rcases hr with hr | hr | hr
    · exact hall r (by simp [hr])
    · exact hH.a r (by simp [hr])
    · exact hall r (by simp [hr])
  · rcases List.mem_append.1 ho with ho | ho
    · exact hd2 r (by simp [hr]) o ho
    · exact h.d r hr o (List.mem_append_right _ ho)
  · exact List.pairwise_append.2 ⟨hH.p, hpw.2.1, fun o ho r hr => (hd2 r (List.mem_append_right _ hr) o ho).symm⟩
/-- The same where what is borrowed stays in sight. -/
theorem Hs.foc {w : World} {RO own rest : List Rc} {F0 : Re} (h : Hs w RO (own ++ rest)) (hF : F0.A w) (hd : ∀ o ∈ own, DD (.gen F0) o) : Hs w (.gen (star (.gen F0 :: rest)) :: RO) own := by
  have hpw := List.pairwise_append.1 h.p
  refine ⟨fun r hr => ?_, fun r hr o ho => ?_, hpw.1⟩
  · simp only [List.cons_append, List.mem_cons] at hr
    rcases hr with rfl | hr
    · intro x hx
      rcases List.mem_cons.1 hx with rfl | hx
      · exact hF
      · exact h.a x (by simp [hx])
    · exact h.a r (by simp only [List.mem_append] at hr ⊢; rcases hr with hr | hr <;> simp [hr])
  · rcases List.mem_cons.1 hr with rfl | hr
    · rintro i ⟨x, hx, hi⟩
      rcases List.mem_cons.1 hx with rfl | hx
      · exact hd o ho i hi
      · exact (hpw.2.2 o ho x hx).symm i hi
    · exact h.d r hr o (List.mem_append_left _ ho)
theorem Hs.unfoc {w w' : World} {RO own rest H : List Rc} {F0 : Re} (h : Hs w RO (own ++ rest)) (hH : Hs w' (.gen (star (.gen F0 :: rest)) :: RO) H) : Hs w' RO (H ++ rest) ∧ F0.A w' ∧ ∀ o ∈ H, DD (.gen F0) o := by
  have hpw := List.pairwise_append.1 h.p
  have hall : ∀ r ∈ Rc.gen F0 :: rest, r.A w' := hH.a (.gen (star (.gen F0 :: rest))) (by simp)
  have hd2 : ∀ r ∈ Rc.gen F0 :: rest, ∀ o ∈ H, DD r o := fun r hr o ho i hi => hH.d (.gen (star (.gen F0 :: rest))) (by simp) o ho i ⟨r, hr, hi⟩
  refine ⟨⟨fun r hr => ?_, fun r hr o ho => ?_, ?_⟩, hall (.gen F0) (by simp), fun o ho => hd2 (.gen F0) (by simp) o ho⟩
  · simp only [List.mem_append] at hr
    rcases hr with hr | hr | hr
    · exact hH.a r (by simp [hr])
    · exact hH.a r (by simp [hr])
    · exact hall r (by simp [hr])
  · rcases List.mem_append.1 ho with ho | ho
    · exact hH.d r (by simp [hr]) o ho
    · exact h.d r hr o (List.mem_append_right _ ho)
  · exact List.pairwise_append.2 ⟨hH.p, hpw.2.1, fun o ho r hr => (hd2 r (by simp [hr]) o ho).symm⟩

section
variable {P : Program} {Q : Exit → Act → World → Prop} {L : List Iv} {s : St} {RO FZ OW : List Rc}

theorem m_callv (n : Nat) (idx : List Nat) {f : Nat} {args : Array Value} {ro own : List Rc} {R : Value → List Rc → Prop} (sp : Does P f args ro own R) (vs : Vs (RO ++ (FZ ++ (pick idx OW).2)) ro)
    (k : ∀ v H, R v H → J P Q L (nx (go P n s) v) RO FZ (H ++ (pick idx OW).2))
    (hc : callCv (go P n s) = some (f, args) := by kernel_rfl) (ho : (pick idx OW).1 = own := by kernel_rfl) (h2 : (hasBody P f && (acts (go P n s) && onW (go P n s))) = true := by kernel_rfl) : J P Q L s RO FZ OW := by
  rw [Bool.and_eq_true] at h2
  refine m_act n (fun w hw _ => ?_) h2.2
  have hp := pick_perm idx OW
  rw [ho] at hp
  generalize (pick idx OW).2 = rest at *
  obtain ⟨xs, cap, hc, ha⟩ := callCv_spec hc
  have hw1 : Hs w RO (own ++ (FZ ++ rest)) := hw.perm (by
    refine List.Perm.trans ?_ (hp.append_left FZ)
    exact List.perm_append_comm_assoc _ _ _)
  have hF : Hs w (.gen (star (RO ++ (FZ ++ rest))) :: ro) own := by
    have h0 := hw1.focus
    have hrest : ∀ r ∈ RO ++ (FZ ++ rest), r.A w := fun r hr => hw1.a r (by simp only [List.mem_append] at hr ⊢; rcases hr with h | h | h <;> simp [h])
    refine ⟨fun r hr => ?_, fun r hr o ho => ?_, h0.p⟩
    · rcases List.mem_append.1 hr with hr | hr
      · rcases List.mem_cons.1 hr with rfl | hr
        · exact hrest
        · exact (vs.spec hrest r hr).1
      · exact hw1.a r (by simp [hr])
    · rcases List.mem_cons.1 hr with rfl | hr
      · exact h0.d _ (by simp) o ho
      · intro i hi hi'
        obtain ⟨x, hx, h⟩ := (vs.spec hrest r hr).2 i hi
        exact h0.d (.gen (star (RO ++ (FZ ++ rest)))) (by simp) o ho i ⟨x, hx, h⟩ hi'
  refine op_callv hc ha h2.1 ?_
  refine (sp _ w hF).mono fun e w' ⟨v, H, hR, he, hH⟩ => ⟨v, he, v, _, rfl, ?_, k v H hR⟩
  exact (hw1.unfocus hH).perm (List.perm_append_comm_assoc _ _ _)

/-! ### yield -/
/-- A round, as the one who calls yield meets it. -/
def YD (P : Program) (l : Nat) (args : Array Value) {X : Type} (I0 I1 : X → Re) : Prop :=
  ∀ (x : X) (F : Re) (w : World), Hs w [.gen F] [.gen (I0 x)] → YieldAt Fence.wide 0 P l args w fun e w' => e = .returned (.bool true) ∧ ∃ y, Hs w' [.gen F] [.gen (I1 y)]
def isReg (s : St) : Bool := match s.ps with | .reg _ _ => true | _ => false
theorem den_yield {S : World → Prop} {w : World} {l : Nat} {args cap : Array Value} (hr : isReg s = true) (hon : onW s = true) (hc : calleeO (cur s) s.a = some (.yield l, args, cap))
    (h : YieldAt Fence.wide 0 P l args w fun e w' => ∃ v, e = .returned v ∧ den P Q L S (nx s v) w') : den P Q L S s w := by
  obtain ⟨ps, K, a, r⟩ := s
  cases ps with
  | reg ops i =>
    obtain ⟨hon, hd⟩ := Bool.and_eq_true_iff.1 hon
    obtain ⟨h1, h2⟩ := onAt_spec hon
    have hlt : i < ops.size := by simpa using h1
    have ho : ops[i]? = some (opAt ops i) := by simp [opAt, hlt]
    simp only [den]
    rw [drop_get ho, wpListIn, if_pos h2]
    obtain ⟨fn, tmps, asg, body, hy, hR⟩ := h
    refine ⟨fun _ _ => trivial, ?_⟩
    have e : (opAt ops i).semAt (Fz r).round a.eval = execOp a.eval (opAt ops i) := by
      cases r with
      | none => exact Oper.semAt_none _ _
      | some l =>
        refine Oper.semAt_some l _ _ fun c hc => ?_
        simp [ndf, hc] at hd
    have e2 : (execOp a.eval (opAt ops i)).run P w = .ok (.round l fn tmps asg body) w := (calleeO_run hc w).trans hy
    rw [e, e2]
    exact ⟨fun h => (by cases h), RoundIn.mono (R := fun e w' => ∃ v, e = .returned v ∧ den P Q L S (nx ⟨.reg ops i, K, a, r⟩ v) w') hR fun e w' ⟨v, he, hd⟩ => by subst he; exact hd⟩
  | _ => cases hr
theorem YieldAt.mon {l : Nat} {args : Array Value} {W : World} {R R' : Ending → World → Prop} (h : YieldAt Fence.wide 0 P l args W R) (hr : ∀ e w, R e w → R' e w) : YieldAt Fence.wide 0 P l args W R' := by
  obtain ⟨fn, tmps, asg, body, hy, hR⟩ := h
  exact ⟨fn, tmps, asg, body, hy, hR.mono hr⟩
theorem m_yield {X : Type} (n : Nat) (idx : List Nat) {l : Nat} {args : Array Value} {I0 I1 : X → Re} (x : X) (y : YD P l args I0 I1)
    (k : ∀ y, J P Q L (nx (go P n s) (.bool true)) RO [] (.gen (I1 y) :: (pick idx OW).2))
    (hc : yieldC (go P n s) = some (l, args) := by kernel_rfl) (ho : (pick idx OW).1 = [.gen (I0 x)] := by kernel_rfl) (h2 : (isReg (go P n s) && onW (go P n s)) = true := by kernel_rfl) : J P Q L s RO [] OW := by
  rw [Bool.and_eq_true] at h2
  refine ⟨fun w hw => go_ok hw.S n ?_⟩
  have hp := pick_perm idx OW
  rw [ho] at hp
  generalize (pick idx OW).2 = rest at *
  obtain ⟨cap, hc⟩ := yieldC_spec hc
  have hw1 : Hs w RO ([.gen (I0 x)] ++ rest) := hw.perm hp
  refine den_yield h2.1 h2.2 hc (YieldAt.mon (y x _ w hw1.focus) ?_)
  rintro e w' ⟨he, z, hz⟩
  exact ⟨_, he, (k z).out w' (hw1.unfocus hz)⟩

/-! ### a range over a function -/
/-- A block that holds no cells. -/
def obRe (b : Nat) (o : Obj) : Re := ⟨One b, fun w => w.heap[b]? = some o, fun _ h => In.one h, fun _ _ _ h F d => Fr.keep F h d⟩
/-- What is borrowed and what is owned, as one. -/
def hsRe (RO H : List Rc) : Re := ⟨fun k => ∃ r ∈ RO ++ H, r.S k, fun w => Hs w RO H, fun _ h k ⟨r, hr, hk⟩ => r.inn (h.a r hr) k hk, fun _ _ _ h F d => ⟨fun r hr => r.keep (h.a r hr) F fun k hk => d k ⟨r, hr, hk⟩, h.d, h.p⟩⟩
def topRe : Re := ⟨N0, fun _ => True, fun _ _ _ h => h.elim, fun _ _ _ h _ _ => h⟩
theorem fr_putObj (w : World) (l : Nat) (o : Obj) : Fr w (w.putObj l o) (One l) := ⟨rfl, rfl, rfl, by simp, fun k _ hk => World.putObj_heap_other hk⟩
theorem Hs.swap {w w' : World} {RO own rest : List Rc} {b : Nat} {o : Obj} (o' : Obj) (h : Hs w RO (own ++ (.gen (obRe b o) :: rest))) (F : Fr w w' (One b)) (g : w'.heap[b]? = some o') : Hs w' RO (own ++ (.gen (obRe b o') :: rest)) :=
  Hs.set (FZ := own) (OW := .gen (obRe b o) :: rest) (i := 0) (r' := .gen (obRe b o')) h rfl F g (New.refl _ _)

inductive Up (p : Nat → Prop) : Nat → Prop
  | z : Up p 0
  | s {n : Nat} (h : Up p n) (k : p n) : Up p (n + 1)
theorem Up.all {p : Nat → Prop} : ∀ {n : Nat}, Up p n → ∀ i, i < n → p i
  | _, .z, i, h => by omega
  | n + 1, .s h k, i, hi => by
    rcases Nat.lt_or_ge i n with hl | hl
    · exact h.all i hl
    · have : i = n := by omega
      subst this; exact k

structure RF where
  g : Operand
  ps : Array Tmp
  asg : Code
  body : Code
def rfOf (s : St) : RF := match s.ps with
  | .code (.rangeFunc g ps x y) => ⟨g, ps, x, y⟩
  | _ => ⟨.tmp 0, #[], .skip, .skip⟩
def isRF (s : St) : Bool := match s.ps with
  | .code (.rangeFunc _ _ _ _) => s.r.isNone
  | _ => false
/-- A round's frame ahead of the assignment. -/
def rfSt (s : St) (l : Nat) (ys : Array Value) : St := ⟨.code (rfOf s).asg, [], ⟨((rfOf s).ps.zip ys).foldl (fun t (p, v) => t.setIfInBounds p v) s.a.tmps, []⟩, some l⟩
def outN (s : St) : Bool := match s.ps with
  | .out .normal => s.K.isEmpty
  | _ => false
def rfIn (P : Program) (s : St) (l : Nat) (ys : Array Value) : Bool := Nat.beq ys.size (rfOf s).ps.size && outN (go P 60 (rfSt s l ys))
def rfAct (P : Program) (s : St) (l : Nat) (ys : Array Value) : Act := (go P 60 (rfSt s l ys)).a
def RQ (G : World → Prop) : Exit → Act → World → Prop
  | .normal, _, w => G w
  | _, _, _ => False
theorem m_rend {X : Type} {HI : X → List Rc} (n : Nat) (y : X) (hH : OW = HI y := by kernel_rfl) (h1 : outN (go P n s) = true := by kernel_rfl) : J P (RQ fun w => ∃ y, Hs w RO (HI y)) L s RO [] OW := by
  subst hH
  refine m_go n ?_
  generalize go P n s = t at *
  obtain ⟨ps, K, a, r⟩ := t
  refine ⟨fun w hw => ?_⟩
  cases ps with
  | out e =>
    cases e with
    | normal =>
      simp only [outN, List.isEmpty_iff] at h1
      subst h1
      exact ⟨y, hw⟩
    | _ => cases h1
  | _ => cases h1
def gOk (P : Program) (f : Nat) (s : St) : Bool := isRF s && hasBody P f
theorem m_range {X : Type} (n f N : Nat) (lb : Array Value) (xs : Nat → Array Value) (HI : Nat → X → List Rc) (ib : List Rc) (idx : List Nat) (x0 : X)
    (it : ∀ (l : Nat) (I : Nat → X → Re), (∀ i, i < N → YD P l (xs i) (I i) (I (i + 1))) → ∀ x, Does P f (#[.func (.yield l) #[] #[]] ++ lb) ib [.gen (I 0 x)] (fun _ H => ∃ y, H = [.gen (I N y)]))
    (round : Up (fun i => ∀ (x : X) (F : Re) (l : Nat), rfIn P (go P n s) l (xs i) = true ∧ J P (RQ fun w => ∃ y, Hs w (.gen F :: RO) (HI (i + 1) y)) [] ⟨.code (rfOf (go P n s)).body, [], rfAct P (go P n s) l (xs i), some l⟩ (.gen F :: RO) [] (HI i x)) N)
    (k : ∀ D y, J P Q L ⟨.out .normal, (go P n s).K, ⟨(go P n s).a.tmps, ⟨.collected D, #[]⟩ :: (go P n s).a.defers⟩, none⟩ RO [] (.gen (obRe D (.deferred (some []))) :: (HI N y ++ (pick idx OW).2)))
    (h1 : gOk P f (go P n s) = true := by kernel_rfl) (hg : (go P n s).a.eval (rfOf (go P n s)).g = .func (.func f) #[] lb := by kernel_rfl) (h2 : (pick idx OW).1 = HI 0 x0 ++ ib := by kernel_rfl) : J P Q L s RO [] OW := by
  refine m_go n ?_
  have hp := pick_perm idx OW
  rw [h2] at hp
  generalize (pick idx OW).2 = rest at *
  generalize go P n s = t at *
  obtain ⟨ps, K, a, r⟩ := t
  unfold gOk at h1
  rw [Bool.and_eq_true] at h1
  obtain ⟨h1, hb⟩ := h1
  cases ps with
  | code c =>
    cases c with
    | rangeFunc g pms asg body =>
      obtain rfl : r = none := by simpa [isRF] using h1
      simp only [rfOf] at hg round
      refine ⟨fun w hw => ?_⟩
      have hw0 : Hs w RO (HI 0 x0 ++ ib ++ rest) := hw.perm hp
      simp only [den]
      refine wpIn_rangeFunc ?_
      intro fn _
      obtain ⟨rec, hrec⟩ : ∃ rec : LoopState → Option Code → Loop, rec = fun st pe => { state := st, pending := pe, fn, tmps := a.tmps, params := pms, assign := asg, body, defers := w.heap.size } := ⟨_, rfl⟩
      obtain ⟨W1, hW1⟩ : ∃ W1, (w.alloc (.deferred (some []))).alloc (.loop (rec .ready none)) = W1 := ⟨_, rfl⟩
      have hs1 : Hs (w.alloc (.deferred (some []))) RO (HI 0 x0 ++ ib ++ (.gen (obRe w.heap.size (.deferred (some []))) :: rest)) :=
        Hs.new (FZ := HI 0 x0 ++ ib) (r := .gen (obRe w.heap.size (.deferred (some [])))) hw0 (Fr.alloc1 w _) (heap_alloc_new w _) (fun k hk => Nat.le_of_eq (Eq.symm hk))
      have hs2 : Hs W1 RO (HI 0 x0 ++ ib ++ (.gen (obRe (w.heap.size + 1) (.loop (rec .ready none))) :: .gen (obRe w.heap.size (.deferred (some []))) :: rest)) := by
        rw [← hW1]
        refine Hs.new (FZ := HI 0 x0 ++ ib) (r := .gen (obRe (w.heap.size + 1) (.loop (rec .ready none)))) hs1 (Fr.alloc1 _ _) ?_ (fun k hk => ?_)
        · have := heap_alloc_new (w.alloc (.deferred (some []))) (.loop (rec .ready none))
          rw [World.size_alloc] at this
          exact this
        · rw [World.size_alloc]; exact Nat.le_of_eq (Eq.symm hk)
      refine ⟨w.heap.size + 1, [{ target := .collected w.heap.size, args := #[] }], W1, { target := .fn (.func f) lb, args := #[.func (.yield (w.heap.size + 1)) #[] #[]] }, W1, f,
        #[.func (.yield (w.heap.size + 1)) #[] #[]] ++ lb, W1, ?_, ?_, fun _ _ => trivial, ?_, fun h => (by cases h), ?_⟩
      · rw [← hW1, hrec]; exact run_enterLoop_outer _ _ _ _ _
      · simp only [resolve, hg]
        simp [go_sem]
      · simp only [invoke]
        exact run_callFunc hb
      · generalize hl : w.heap.size + 1 = l at *
        generalize hD : w.heap.size = D at *
        obtain ⟨rest', hr'⟩ : ∃ rest', rest' = Rc.gen (obRe D (.deferred (some []))) :: rest := ⟨_, rfl⟩
        rw [← hr'] at hs2
        have hY : ∀ i, i < N → YD P l (xs i) (fun x => hsRe RO (HI i x ++ (.gen (obRe l (.loop (rec .ready none))) :: rest'))) (fun x => hsRe RO (HI (i + 1) x ++ (.gen (obRe l (.loop (rec .ready none))) :: rest'))) := by
          intro i hi x F0 W hW
          have hA : Hs W RO (HI i x ++ (.gen (obRe l (.loop (rec .ready none))) :: rest')) := hW.a _ (List.mem_append_right _ (List.mem_singleton.2 rfl))
          have hF0 : F0.A W := hW.a (.gen F0) (by simp)
          have hD0 : ∀ r ∈ RO ++ (HI i x ++ (.gen (obRe l (.loop (rec .ready none))) :: rest')), DD (.gen F0) r := fun r hr j hj hj' => hW.d (.gen F0) (by simp) _ (List.mem_singleton.2 rfl) j hj ⟨r, hr, hj'⟩
          have hL : W.heap[l]? = some (.loop (rec .ready none)) := hA.a (.gen (obRe l (.loop (rec .ready none)))) (by simp)
          have hdl : Dis F0.S (One l) := hD0 (.gen (obRe l (.loop (rec .ready none)))) (by simp)
          have hlt : l < W.heap.size := lt_of_get hL
          have hin := fun F1 => (round.all i hi x F1 l).1
          have hin0 := hin topRe
          unfold rfIn at hin0
          rw [Bool.and_eq_true] at hin0
          have hy := run_yield (P := P) (args := xs i) hL (by rw [hrec]; exact Nat.eq_of_beq_eq_true hin0.1)
          rw [hrec] at hy
          refine ⟨fn, _, asg, body, hy, roundIn_of_wpIn trivial ?_⟩
          have hga : den P (Exit.then (fun a₁ w₁ => ∃ w₂, (Instr.beginRound l).run P w₁ = .ok () w₂ ∧ body.wpIn (Fence.wide.inRound l) 0 P (roundPost P l fun e w' => e = .returned (.bool true) ∧ ∃ y, Hs w' [.gen F0] [.gen (hsRe RO (HI (i + 1) y ++ (.gen (obRe l (.loop (rec .ready none))) :: rest')))]) a₁ w₂) (fun _ _ _ => False)) [] (fun _ => True) (rfSt ⟨.code (.rangeFunc g pms asg body), K, a, none⟩ l (xs i)) W := by
            refine go_ok trivial 60 ?_
            have hact : (go P 60 (rfSt ⟨.code (.rangeFunc g pms asg body), K, a, none⟩ l (xs i))).a = rfAct P ⟨.code (.rangeFunc g pms asg body), K, a, none⟩ l (xs i) := rfl
            have hout := hin0.2
            generalize go P 60 (rfSt ⟨.code (.rangeFunc g pms asg body), K, a, none⟩ l (xs i)) = t at *
            obtain ⟨ps, K', a', r'⟩ := t
            cases ps with
            | out e =>
              cases e with
              | normal =>
                simp only [outN, List.isEmpty_iff] at hout
                subst hout
                simp only at hact
                subst hact
                refine ⟨_, run_beginRound hL (by rw [hrec]), ?_⟩
                have hs3 := hA.swap (.loop { rec .ready none with state := .busy }) (fr_putObj W l _) (World.putObj_heap_same hlt)
                have hF2 : F0.A (W.putObj l (.loop { rec .ready none with state := .busy })) := F0.keep _ _ _ hF0 (fr_putObj W l _) hdl
                have hfoc := hs3.foc hF2 (fun o ho => hD0 o (by simp [ho]))
                refine Code.wpIn_mono ?_ ((round.all i hi x _ l).2.out _ hfoc)
                have fin : ∀ W3, (∃ y, Hs W3 (.gen (star (.gen F0 :: .gen (obRe l (.loop { rec .ready none with state := .busy })) :: rest')) :: RO) (HI (i + 1) y)) → ∃ v w', (Instr.endRound l none).run P W3 = .ok v w' ∧ (Ending.returned v = .returned (.bool true) ∧ ∃ y, Hs w' [.gen F0] [.gen (hsRe RO (HI (i + 1) y ++ (.gen (obRe l (.loop (rec .ready none))) :: rest')))]) := by
                  rintro W3 ⟨y, hy3⟩
                  obtain ⟨h3, hF3, hd3⟩ := hs3.unfoc hy3
                  have hl3 : W3.heap[l]? = some (.loop { rec .ready none with state := .busy }) := h3.a (.gen (obRe l (.loop { rec .ready none with state := .busy }))) (by simp)
                  have hr3 := run_endRound (P := P) none hl3
                  have hs4 := h3.swap (.loop (rec .ready none)) (fr_putObj W3 l _) (World.putObj_heap_same (lt_of_get hl3))
                  refine ⟨_, _, hr3, by simp, y, ?_⟩
                  have hF4 : F0.A (W3.putObj l (.loop (rec .ready none))) := F0.keep _ _ _ hF3 (fr_putObj W3 l _) hdl
                  have ee : (W3.putObj l (.loop { { rec .ready none with state := .busy } with state := if (none : Option Code).isNone then .ready else .done, pending := none })) = W3.putObj l (.loop (rec .ready none)) := by rw [hrec]; rfl
                  rw [ee]
                  refine ⟨fun r hr => ?_, fun r hr o ho => ?_, List.pairwise_singleton _ _⟩
                  · simp only [List.cons_append, List.nil_append, List.mem_cons, List.not_mem_nil, or_false] at hr
                    rcases hr with rfl | rfl
                    · exact hF4
                    · exact hs4
                  · rw [List.mem_singleton.1 hr, List.mem_singleton.1 ho]
                    rintro j hj ⟨r, hr, hj'⟩
                    simp only [List.mem_append, List.mem_cons] at hr
                    rcases hr with hr | hr | hr | hr
                    · exact hD0 r (by simp [hr]) j hj hj'
                    · exact hd3 r hr j hj hj'
                    · subst hr; exact hdl j hj hj'
                    · exact hD0 r (by simp [hr]) j hj hj'
                intro e a3 W3 hq
                cases e with
                | normal => exact fin W3 hq
                | _ => exact hq.elim
              | _ => cases hout
            | _ => cases hout
          exact hga
        have hs3 : Hs W1 RO ((HI 0 x0 ++ (.gen (obRe l (.loop (rec .ready none))) :: rest')) ++ ib) := hs2.perm (by
          rw [List.append_assoc, List.append_assoc]
          exact List.Perm.append_left _ List.perm_append_comm)
        have hpw3 := List.pairwise_append.1 hs3.p
        have hcall := it l (fun i x => hsRe RO (HI i x ++ (.gen (obRe l (.loop (rec .ready none))) :: rest'))) hY x0 topRe W1 (by
          refine ⟨fun r hr => ?_, fun r hr o ho => ?_, List.pairwise_singleton _ _⟩
          · rcases List.mem_append.1 hr with hr | hr
            · rcases List.mem_cons.1 hr with rfl | hr
              · trivial
              · exact hs3.a r (by simp [hr])
            · rw [List.mem_singleton.1 hr]
              exact hs3.own
          · rw [List.mem_singleton.1 ho]
            rcases List.mem_cons.1 hr with rfl | hr
            · exact fun _ h => h.elim
            · rintro j hj ⟨x, hx, hj'⟩
              rcases List.mem_append.1 hx with hx | hx
              · exact hs3.d x hx r (List.mem_append_right _ hr) j hj' hj
              · exact hpw3.2.2 x hx r hr j hj' hj)
        refine callsIn_wide.2 (hcall.mono ?_)
        rintro e W2 ⟨v, H, ⟨y, rfl⟩, rfl, hH⟩
        have h2 : Hs W2 RO (HI N y ++ (.gen (obRe l (.loop (rec .ready none))) :: rest')) := hH.a _ (List.mem_append_right _ (List.mem_singleton.2 rfl))
        have hl2 : W2.heap[l]? = some (.loop (rec .ready none)) := h2.a (.gen (obRe l (.loop (rec .ready none)))) (by simp)
        have he2 := run_endLoop (P := P) hl2 (by rw [hrec]; simp)
        have hs5 := h2.swap (.loop { rec .ready none with state := .exhausted }) (fr_putObj W2 l _) (World.putObj_heap_same (lt_of_get hl2))
        have he3 : (Instr.endLoop l).run P W2 = .ok none (W2.putObj l (.loop { rec .ready none with state := .exhausted })) := by rw [he2, hrec]
        refine ⟨none, _, he3, ?_⟩
        have hs6 : Hs (W2.putObj l (.loop { rec .ready none with state := .exhausted })) RO ([] ++ (.gen (obRe D (.deferred (some []))) :: (HI N y ++ rest))) := by
          have h7 : Hs (W2.putObj l (.loop { rec .ready none with state := .exhausted })) RO ((HI N y ++ rest') ++ [.gen (obRe l (.loop { rec .ready none with state := .exhausted }))]) := hs5.perm (by
            rw [List.append_assoc]
            exact List.Perm.append_left _ (List.perm_append_singleton _ _))
          refine h7.own.perm ?_
          rw [hr']
          exact (List.perm_middle (l₁ := HI N y)).symm
        exact (k D y).out _ hs6
    | _ => cases h1
  | _ => cases h1

/-! ### a region whose order is open, in a round -/
theorem wpOpsIn_of {r : Option Nat} {ops : Array Oper} {K : Act → World → Prop} (hd : ops.toList.all (ndf r) = true) : ∀ (l : List Nat) (a : Act) (w : World), wpOps P ops (OnlyN K) l a w → wpOpsIn (Fz r) 0 P ops (OnlyN K) l a w
  | [], _, _, h => h
  | i :: rest, a, w, h => by
    have ih := fun a w => wpOpsIn_of (K := K) hd rest a w
    simp only [wpOps] at h
    simp only [wpOpsIn]
    cases ho : ops[i]? with
    | none => rw [ho] at h; exact ih a w h
    | some o =>
      rw [ho] at h
      simp only at h ⊢
      have ho' : ndf r o = true := List.all_eq_true.1 hd o (Array.mem_toList_iff.2 (Array.mem_of_getElem? ho))
      by_cases hw : Region.wanted o (yielded ops a.tmps) = true
      · rw [if_pos hw] at h ⊢
        rcases h with h | ⟨_, _, _, h⟩
        · exact wpIn_of ho' (Oper.wp_mono (fun a w h => ih a w h) h)
        · exact h.elim
      · rw [if_neg hw] at h ⊢
        exact ⟨fun _ _ => trivial, ih _ _ h⟩
theorem regIn_of {r : Option Nat} {id : Nat} {ops : Array Oper} {K : Act → World → Prop} {a : Act} {w : World} (hm : P.follows .mixedOrders = true) (hd : ops.toList.all (ndf r) = true)
    (h : wpAny P .any ops (OnlyN K) ops.size (Array.replicate ops.size false) a { w with drawn := w.drawn + 1 }) : (Code.region id ops true).wpIn (Fz r) 0 P (OnlyN K) a w :=
  wpIn_region_draw fun t => by
    simp only [Region.schedule, hm, Bool.true_or, if_true]
    exact wpOpsIn_of hd _ _ _ (wpAny_sound ops.size t _ a _ h)
theorem m_planR (n : Nat) (sk : List Nat) (π : PT) (idx : List Nat) (k : J P Q L ⟨.pl (plOps (go P n s)) sk π, (go P n s).K, (go P n s).a, (go P n s).r⟩ RO (pick idx OW).1 (pick idx OW).2)
    (h : (isDraw (go P n s) && (plOps (go P n s)).toList.all (ndf (go P n s).r) && P.follows .mixedOrders && Region.noSelect (plOps (go P n s)) && Nat.beq π.len (plOps (go P n s)).size && treeC (plOps (go P n s)) sk π) = true := by kernel_rfl) : J P Q L s RO [] OW := by
  refine m_go n ?_
  generalize go P n s = t at *
  obtain ⟨ps, K, a, r⟩ := t
  simp only [Bool.and_eq_true] at h
  obtain ⟨⟨⟨⟨⟨h1, h0⟩, h2⟩, h3⟩, h4⟩, h5⟩ := h
  have h4 := Nat.eq_of_beq_eq_true h4
  have hp := pick_perm idx OW
  cases ps with
  | code c =>
    cases c with
    | region id ops d =>
      cases d with
      | false => cases h1
      | true =>
        simp only [plOps] at h0 h3 h4 h5 k
        refine ⟨fun w hw => ?_⟩
        simp only [den]
        refine Code.wpIn_mono (Q := OnlyN (fun a w => post P Q L r K .normal a w)) (fun e a w hq => by cases e <;> first | exact hq | exact hq.elim) ?_
        refine regIn_of h2 h0 (wpAny_of_P (S := fun w => ∀ r ∈ RO ++ (pick idx OW).1, r.A w) (sk := fun i => sk.contains i) _ _ _ _ ?_)
        rw [← h4]
        refine (tree_any h3 (fun _ _ _ h => h) π false _ a _ (fun j oj _ hl => ?_) (fun h => by cases h) (h4 ▸ treeC_ok h5) ?_).1 rfl
        · rw [getD_rep] at hl; cases hl
        · exact k.out _ ((hw.perm hp).keep (Fr.refl _ _).drew)
    | _ => cases h1
  | _ => cases h1

/-! ### the end of a function that holds one -/
def DoesPostM (P : Program) (f : Nat) (F : Re) (R : Value → List Rc → Prop) : Exit → Act → World → Prop := bodyPostM Fence.wide 0 P (fnOf P f) fun e w' => ∃ v H, R v H ∧ e = .returned v ∧ Hs w' [.gen F] H
theorem m_fnM {f : Nat} {args : Array Value} {ro own : List Rc} {R : Value → List Rc → Prop} (k : ∀ F, J P (DoesPostM P f F R) [] (start P f args) (.gen F :: ro) [] own)
    (h : ((P.funcs[f]?).isSome && (fnOf P f).body.isSome) = true := by kernel_rfl) : Does P f args ro own R := by
  intro F w hw
  rw [Bool.and_eq_true] at h
  cases hf : P.funcs[f]? with
  | none => rw [hf] at h; cases h.1
  | some fn =>
    have e1 : fnOf P f = fn := by simp [fnOf, hf]
    rw [e1] at h
    cases hbo : fn.body with
    | none => rw [hbo] at h; cases h.2
    | some c =>
      have hk := (k F).out w hw
      unfold DoesPostM start at hk
      rw [e1] at hk
      have e2 : bodyOf P f = c := by simp [bodyOf, hf, hbo]
      rw [e2] at hk
      exact callsIn_wide.1 (callsIn_of_wp_marks (F := Fence.wide) (n := 0) hf hbo trivial hk)
def outOkM (s : St) : Bool := (match s.ps with | .out .ret => true | .out .normal => true | _ => false) && s.K.isEmpty
theorem m_retM {f : Nat} {F : Re} {R : Value → List Rc → Prop} {ro : List Rc} (n D j : Nat) (v : Value) (idx : List Nat) (hR : R v (pick idx OW).1) (h1 : outOkM (go P n s) = true := by kernel_rfl)
    (hr : pureVal P (results (fnOf P f) (go P n s).a.tmps) = some v := by kernel_rfl) (hd : (go P n s).a.defers = [⟨.collected D, #[]⟩] := by kernel_rfl)
    (hj : gr (pick idx OW).2 j = .gen (obRe D (.deferred (some []))) := by kernel_rfl) (hjl : Nat.blt j (pick idx OW).2.length = true := by kernel_rfl) : J P (DoesPostM P f F R) L s (.gen F :: ro) [] OW := by
  refine m_go n ?_
  generalize go P n s = t at *
  obtain ⟨ps, K, a, r⟩ := t
  unfold outOkM at h1
  simp only [Bool.and_eq_true, List.isEmpty_iff] at h1
  obtain ⟨h2, h3⟩ := h1
  have hp := pick_perm idx OW
  have hjl' : j < (pick idx OW).2.length := by simpa using hjl
  have hij : (pick idx OW).2[j]? = some (.gen (obRe D (.deferred (some [])))) := by
    rw [← hj]; simp [gr, hjl']
  subst h3
  simp only at hd hr
  have fin : ∀ w, Hs w (.gen F :: ro) ([] ++ OW) → LeavesInM Fence.wide 0 P (fnOf P f) a.tmps (fun e w' => ∃ v H, R v H ∧ e = .returned v ∧ Hs w' [.gen F] H) a.defers .returning w := by
    intro w hw
    have hw1 : Hs w (.gen F :: ro) ((pick idx OW).1 ++ (pick idx OW).2) := hw.perm hp
    have hD : w.heap[D]? = some (.deferred (some [])) := hw1.a (.gen (obRe D (.deferred (some [])))) (by simp only [List.mem_append]; exact .inr (.inr (List.mem_of_getElem? hij)))
    have hs2 := Hs.set (FZ := (pick idx OW).1) (r' := .gen (obRe D (.deferred none))) hw1 hij (fr_putObj w D (.deferred none)) (World.putObj_heap_same (lt_of_get hD)) (New.refl _ _)
    rw [hd]
    refine ⟨by simp, .inl ⟨D, _, rfl, run_takeDeferred hD, ?_⟩⟩
    exact ⟨v, pureVal_run hr _, v, _, hR, rfl, hs2.own.ro (by simp)⟩
  refine ⟨fun w hw => ?_⟩
  cases ps with
  | out e =>
    cases e with
    | normal => exact fin w hw
    | ret => exact fin w hw
    | _ => cases h2
  | _ => cases h2
end
end Go.Alm

/- The end of a function with results in cells, that holds a range over a function. -/
namespace Go.Alm
open Go Go.RowKit
section
variable {P : Program} {Q : Exit → Act → World → Prop} {L : List Iv} {s : St} {RO FZ OW : List Rc}
def dnone (D : Nat) : Rc := .gen (obRe D (.deferred none))
theorem m_retMC {f : Nat} {F : Re} {R : Value → List Rc → Prop} {ro : List Rc} (n D j : Nat) (is : List Nat) (v : Value) (idx : List Nat) (hR : R v (pick idx (OW.set j (dnone D))).1) (h1 : outOkM (go P n s) = true := by kernel_rfl)
    (h2 : resK P ((.gen F :: ro) ++ OW.set j (dnone D)) (go P n s).a (fnOf P f).results.toList is = true := by kernel_rfl) (h3 : resA (go P n s).a (fnOf P f).results.toList is = resB ((.gen F :: ro) ++ OW.set j (dnone D)) (go P n s).a (fnOf P f).results.toList is := by kernel_rfl)
    (hr : oneOf (resV P ((.gen F :: ro) ++ OW.set j (dnone D)) (go P n s).a (fnOf P f).results.toList is) = v := by kernel_rfl) (hd : (go P n s).a.defers = [⟨.collected D, #[]⟩] := by kernel_rfl)
    (hj : gr OW j = .gen (obRe D (.deferred (some []))) := by kernel_rfl) (hjl : Nat.blt j OW.length = true := by kernel_rfl) : J P (DoesPostM P f F R) L s (.gen F :: ro) [] OW := by
  refine m_go n ?_
  generalize go P n s = t at *
  obtain ⟨ps, K, a, r⟩ := t
  unfold outOkM at h1
  simp only [Bool.and_eq_true, List.isEmpty_iff] at h1
  obtain ⟨h4, h5⟩ := h1
  have hjl' : j < OW.length := by simpa using hjl
  have hij : OW[j]? = some (.gen (obRe D (.deferred (some [])))) := by
    rw [← hj]; simp [gr, hjl']
  subst h5
  simp only at hd hr h2 h3
  have fin : ∀ w, Hs w (.gen F :: ro) ([] ++ OW) → LeavesInM Fence.wide 0 P (fnOf P f) a.tmps (fun e w' => ∃ v H, R v H ∧ e = .returned v ∧ Hs w' [.gen F] H) a.defers .returning w := by
    intro w hw
    have hD : w.heap[D]? = some (.deferred (some [])) := hw.a (.gen (obRe D (.deferred (some [])))) (by simp only [List.mem_append]; exact .inr (.inr (List.mem_of_getElem? hij)))
    have hs2 := Hs.set (FZ := []) (r' := dnone D) hw hij (fr_putObj w D (.deferred none)) (World.putObj_heap_same (lt_of_get hD)) (New.refl _ _)
    have hp := pick_perm idx (OW.set j (dnone D))
    rw [hd]
    refine ⟨by simp, .inl ⟨D, _, rfl, run_takeDeferred hD, ?_⟩⟩
    have hrun : (results (fnOf P f) a.tmps).run P (w.putObj D (.deferred none)) = .ok v (w.putObj D (.deferred none)) := by
      rw [← hr]
      exact run_results' (fn := fnOf P f) _ rfl (res_L (P := P) (a := a) hs2.a _ _ h2 h3)
    exact ⟨v, hrun, v, _, hR, rfl, ((hs2.perm hp).own).ro (by simp)⟩
  refine ⟨fun w hw => ?_⟩
  cases ps with
  | out e =>
    cases e with
    | normal => exact fin w hw
    | ret => exact fin w hw
    | _ => cases h4
  | _ => cases h4
/-- A store of which it is told what it makes. -/
theorem m_stX (n i b p te : Nat) (c c' vs : Array Value) (hp : p + vs.size ≤ c.size) (he : spl c p vs = c') (hv : vs.toList.all (·.oneCell') = true) (k : J P Q L (nx (go P n s) undef) RO FZ (OW.set i (.blk b c' te)))
    (h1 : (go P n s).a.eval (stX (go P n s)) = .pointer (some ⟨b, p, none⟩) := by kernel_rfl) (hy : (stY (go P n s)).cells = vs := by kernel_rfl) (h3 : gr OW i = .blk b c te := by kernel_rfl)
    (hc : ((storeOf (cur (go P n s)).op).isSome && (sizeT P (stT (go P n s)) == some vs.size) && (acts (go P n s) && onW (go P n s))) = true := by kernel_rfl) : J P Q L s RO FZ OW := by
  simp only [Bool.and_eq_true, beq_iff_eq] at hc
  obtain ⟨⟨h4, h5⟩, h8⟩ := hc
  have hi : OW[i]? = some (.blk b c te) := by rw [← h3]; exact gr_some (by rw [h3]; rfl)
  refine m_act n (fun w hw _ => ?_) (by rw [Bool.and_eq_true]; exact h8)
  have hA : w.heap[b]? = some (.cells c te (0, 0)) := hw.a (.blk b c te) (by simp only [List.mem_append]; exact .inr (.inr (List.mem_of_getElem? hi)))
  have ho : storeOf (cur (go P n s)).op = some (stT (go P n s), stX (go P n s), ((storeOf (cur (go P n s)).op).getD (0, .tmp 0, .tmp 0)).2.2) := by
    unfold stT stX
    cases hl : storeOf (cur (go P n s)).op with
    | none => rw [hl] at h4; cases h4
    | some x => rfl
  refine op_store _ _ _ b p (stY (go P n s)) c te c' ho h1 rfl hA (by rw [hy]; exact h5) (Nat.ble_eq_true_of_le (by rw [hy]; exact hp)) (by rw [hy]; exact hv) (by rw [hy]; exact he) fun w' hb hz F => ⟨_, _, rfl, Hs.set (r' := .blk b c' te) hw hi F hb (New.refl _ _), k⟩
end
end Go.Alm

/- What is compared: structs and arrays, by what they are told of. -/
namespace Go.Alm
open Go Go.RowKit
theorem hv_size (l : List Nat) : (hv l).size = 32 := by simp [hv]
theorem hv_iff {a b : List Nat} (ha : a.length = 32) (hb : b.length = 32) : hv a = hv b ↔ a = b := by
  constructor
  · intro h
    have h := congrArg Array.toList h
    rw [hv_B ha, hv_B hb] at h
    exact map_inj' (fun x y e => by injection e with _ e; omega) h
  · rintro rfl; rfl
theorem aj_inj {a b c d : Array Value} (h : a.size = b.size) (e : aj a c = aj b d) : a = b ∧ c = d := by
  have e := congrArg Array.toList e
  simp only [aj_toL] at e
  obtain ⟨h1, h2⟩ := List.append_inj e (by simpa using h)
  exact ⟨Array.toList_inj.1 h1, Array.toList_inj.1 h2⟩
theorem lit1_inj {k : IntKind} {m n : Nat} (e : #[Value.int k (m : Int)] = #[Value.int k (n : Int)]) : m = n := by
  have e := congrArg Array.toList e
  simp at e; omega
section
variable {P : Program} {Q : Exit → Act → World → Prop} {L : List Iv} {s : St} {RO FZ OW : List Rc}
def eqT (s : St) : Nat := match eqlOf (cur s).op with | some (_, t, _, _) => t | none => 0
def eqX (s : St) : Operand := match eqlOf (cur s).op with | some (_, _, x, _) => x | none => .tmp 0
def eqY (s : St) : Operand := match eqlOf (cur s).op with | some (_, _, _, y) => y | none => .tmp 0
def eqOk (P : Program) (s : St) (b : Bool) (n : Nat) : Bool := (match eqlOf (cur s).op with | some (b', _, _, _) => b == b' | none => false) && P.keyTypeAt 8 (eqT s) && !P.eqGuardType P.depth (eqT s) && isAggT P (eqT s) && Nat.beq n (P.cellsOf (eqT s)) && onW s
theorem eqOk_spec {b : Bool} {n : Nat} (h : eqOk P s b n = true) : eqlOf (cur s).op = some (b, eqT s, eqX s, eqY s) ∧ P.keyTypeAt 8 (eqT s) = true ∧ P.eqGuardType P.depth (eqT s) = false ∧ isAggT P (eqT s) = true ∧ n = P.cellsOf (eqT s) ∧ onW s = true := by
  unfold eqOk at h
  simp only [Bool.and_eq_true, Bool.not_eq_true'] at h
  obtain ⟨⟨⟨⟨⟨h1, h2⟩, h3⟩, h4⟩, h5⟩, h6⟩ := h
  refine ⟨?_, h2, h3, h4, Nat.eq_of_beq_eq_true h5, h6⟩
  unfold eqT eqX eqY
  cases hl : eqlOf (cur s).op with
  | none => rw [hl] at h1; cases h1
  | some x =>
    obtain ⟨b', t, x, y⟩ := x
    rw [hl] at h1
    simp only [beq_iff_eq] at h1
    subst h1; rfl
/-- Two are compared: two ways. -/
theorem m_eqs (n : Nat) (b : Bool) (cs ds : Array Value) (p : Prop) (hp : cs = ds ↔ p) (w1 : WfA cs) (w2 : WfA ds) (k1 : p → J P Q L (nx (go P n s) (.bool b)) RO FZ OW) (k2 : ¬ p → J P Q L (nx (go P n s) (.bool (!b))) RO FZ OW)
    (hc : eqOk P (go P n s) b cs.size = true := by kernel_rfl) (hz : Nat.beq cs.size ds.size = true := by kernel_rfl) (hx : (go P n s).a.eval (eqX (go P n s)) = .agg cs := by kernel_rfl) (hy : (go P n s).a.eval (eqY (go P n s)) = .agg ds := by kernel_rfl)
    (l1 : (leaves P 8 (eqT (go P n s))).map (·.map some) = some (cs.toList.map kindV) := by kernel_rfl) (l2 : (leaves P 8 (eqT (go P n s))).map (·.map some) = some (ds.toList.map kindV) := by kernel_rfl) : J P Q L s RO FZ OW := by
  obtain ⟨ho, hk, hg, hs, hn, hon⟩ := eqOk_spec hc
  have hm : ds.size = P.cellsOf (eqT (go P n s)) := by rw [← hn]; exact (Nat.eq_of_beq_eq_true hz).symm
  by_cases h : p
  · have e : cs = ds := hp.2 h
    subst e
    exact m_p n _ (fun w => run_eqd_self b 9992 8 _ _ _ cs rfl ho hk hg hs hx hy hn l1 w1) (k1 h) hon
  · exact m_p n _ (fun w => run_eqd_ne b 9992 8 _ _ _ cs ds rfl ho hk hg hs hx hy hn hm l1 l2 w1 w2 fun e => h (hp.1 e)) (k2 h) hon
theorem m_eqT (n : Nat) (b : Bool) (cs : Array Value) (w1 : WfA cs) (k : J P Q L (nx (go P n s) (.bool b)) RO FZ OW)
    (hc : eqOk P (go P n s) b cs.size = true := by kernel_rfl) (hx : (go P n s).a.eval (eqX (go P n s)) = .agg cs := by kernel_rfl) (hy : (go P n s).a.eval (eqY (go P n s)) = .agg cs := by kernel_rfl)
    (l1 : (leaves P 8 (eqT (go P n s))).map (·.map some) = some (cs.toList.map kindV) := by kernel_rfl) : J P Q L s RO FZ OW := by
  obtain ⟨ho, hk, hg, hs, hn, hon⟩ := eqOk_spec hc
  exact m_p n _ (fun w => run_eqd_self b 9992 8 _ _ _ cs rfl ho hk hg hs hx hy hn l1 w1) k hon
end
def hlit (n : Nat) : List Nat := n :: List.replicate 31 0
theorem hlit_ok {n : Nat} (h : n < 256) : H32 (hlit n) := ⟨rfl, fun x hx => by
  rcases List.mem_cons.1 hx with rfl | hx
  · exact h
  · have := List.eq_of_mem_replicate hx; omega⟩
theorem hlit_len (n : Nat) : (hlit n).length = 32 := rfl
end Go.Alm

/- Layer 12's plain law: an order of keys, and the first greatest one. -/
namespace Go.Alm
open Go Go.RowKit

def cmpN (x y : Nat) : Int := if x < y then -1 else if y < x then 1 else 0
def cmpL : List Nat → List Nat → Int
  | x :: a, y :: b => if x < y then -1 else if y < x then 1 else cmpL a b
  | _, _ => 0
structure OKey where
  len : Nat
  draw : List Nat
  hash : List Nat
  deriving Inhabited
def cmpK (a b : OKey) : Int := if a.len < b.len then -1 else if b.len < a.len then 1 else if cmpL a.draw b.draw ≠ 0 then cmpL a.draw b.draw else cmpL a.hash b.hash

theorem cmpL_rng : ∀ a b : List Nat, cmpL a b = -1 ∨ cmpL a b = 0 ∨ cmpL a b = 1
  | [], _ => .inr (.inl rfl)
  | _ :: _, [] => .inr (.inl rfl)
  | x :: a, y :: b => by
    unfold cmpL
    have := cmpL_rng a b
    split <;> (try split) <;> omega
theorem cmpL_anti : ∀ a b : List Nat, cmpL a b = - cmpL b a
  | [], [] => rfl
  | [], _ :: _ => rfl
  | _ :: _, [] => rfl
  | x :: a, y :: b => by
    unfold cmpL
    have := cmpL_anti a b
    by_cases h1 : x < y
    · rw [if_pos h1, if_neg (by omega), if_pos h1]
    · by_cases h2 : y < x
      · rw [if_neg h1, if_pos h2, if_pos h2]; rfl
      · rw [if_neg h1, if_neg h2, if_neg h2, if_neg h1]; exact this
theorem cmpL_self : ∀ a : List Nat, cmpL a a = 0
  | [] => rfl
  | x :: a => by unfold cmpL; rw [if_neg (by omega), if_neg (by omega)]; exact cmpL_self a
theorem cmpL_eq : ∀ {a b : List Nat}, a.length = b.length → cmpL a b = 0 → a = b
  | [], [], _, _ => rfl
  | [], _ :: _, h, _ => by simp at h
  | _ :: _, [], h, _ => by simp at h
  | x :: a, y :: b, h, e => by
    unfold cmpL at e
    split at e
    · cases e
    · split at e
      · cases e
      · have : x = y := by omega
        rw [this, cmpL_eq (by simpa using h) e]
theorem cmpL_trans : ∀ {a b c : List Nat}, a.length = b.length → b.length = c.length → 0 ≤ cmpL a b → 0 ≤ cmpL b c → cmpL a b ≤ cmpL a c ∧ cmpL b c ≤ cmpL a c
  | [], [], [], _, _, _, _ => by simp [cmpL]
  | [], _ :: _, _, h, _, _, _ => by simp at h
  | _ :: _, [], _, h, _, _, _ => by simp at h
  | _, [], _ :: _, _, h, _, _ => by simp at h
  | _, _ :: _, [], _, h, _, _ => by simp at h
  | x :: a, y :: b, z :: c, h1, h2, h3, h4 => by
    have ih := cmpL_trans (a := a) (b := b) (c := c) (by simpa using h1) (by simpa using h2)
    have r1 := cmpL_rng a b
    have r2 := cmpL_rng b c
    have r3 := cmpL_rng a c
    unfold cmpL at h3 h4 ⊢
    by_cases p1 : x < y
    · rw [if_pos p1] at h3; omega
    · rw [if_neg p1] at h3 ⊢
      by_cases p2 : y < z
      · rw [if_pos p2] at h4; omega
      · rw [if_neg p2] at h4 ⊢
        by_cases q1 : y < x
        · rw [if_pos q1] at h3 ⊢
          rw [if_neg (by omega : ¬ x < z), if_pos (by omega : z < x)]
          by_cases q2 : z < y
          · rw [if_pos q2]; omega
          · rw [if_neg q2]; omega
        · rw [if_neg q1] at h3 ⊢
          by_cases q2 : z < y
          · rw [if_pos q2] at h4 ⊢
            rw [if_neg (by omega : ¬ x < z), if_pos (by omega : z < x)]
            omega
          · rw [if_neg q2] at h4 ⊢
            rw [if_neg (by omega : ¬ x < z), if_neg (by omega : ¬ z < x)]
            exact ih h3 h4

theorem cmpK_rng (a b : OKey) : cmpK a b = -1 ∨ cmpK a b = 0 ∨ cmpK a b = 1 := by
  unfold cmpK
  have := cmpL_rng a.draw b.draw
  have := cmpL_rng a.hash b.hash
  split <;> (try split) <;> (try split) <;> omega
theorem cmpK_anti (a b : OKey) : cmpK a b = - cmpK b a := by
  unfold cmpK
  have h1 := cmpL_anti a.draw b.draw
  have h2 := cmpL_anti a.hash b.hash
  by_cases p : a.len < b.len
  · rw [if_pos p, if_neg (by omega), if_pos p]
  · by_cases q : b.len < a.len
    · rw [if_neg p, if_pos q, if_pos q]; rfl
    · rw [if_neg p, if_neg q, if_neg q, if_neg p]
      split <;> split <;> omega
theorem cmpK_self (a : OKey) : cmpK a a = 0 := by
  unfold cmpK
  rw [if_neg (by omega), if_neg (by omega), cmpL_self, if_neg (by omega), cmpL_self]
structure OKey.Ok (a : OKey) : Prop where
  len : a.len < 4294967296
  draw : H32 a.draw
  hash : H32 a.hash
theorem cmpK_eq {a b : OKey} (ha : a.Ok) (hb : b.Ok) (e : cmpK a b = 0) : a = b := by
  obtain ⟨al, ad, ah⟩ := a
  obtain ⟨bl, bd, bh⟩ := b
  have l1 : ad.length = bd.length := ha.draw.len.trans hb.draw.len.symm
  have l2 : ah.length = bh.length := ha.hash.len.trans hb.hash.len.symm
  unfold cmpK at e
  simp only at e
  split at e
  · cases e
  · split at e
    · cases e
    · split at e
      · rename_i h; exact absurd e h
      · rename_i p q h
        have h := Classical.byContradiction fun h' => h h'
        have e1 := cmpL_eq l1 (by omega)
        have e2 := cmpL_eq l2 e
        have e3 : al = bl := by omega
        rw [e1, e2, e3]
theorem cmpK_iff {a b : OKey} (ha : a.Ok) (hb : b.Ok) : cmpK a b = 0 ↔ a = b := ⟨cmpK_eq ha hb, fun e => e ▸ cmpK_self a⟩
theorem cmpK_trans {a b c : OKey} (ha : a.Ok) (hb : b.Ok) (hc : c.Ok) (h3 : 0 ≤ cmpK a b) (h4 : 0 ≤ cmpK b c) : cmpK a b ≤ cmpK a c ∧ cmpK b c ≤ cmpK a c := by
  have t1 := cmpL_trans (a := a.draw) (b := b.draw) (c := c.draw) (ha.draw.len.trans hb.draw.len.symm) (hb.draw.len.trans hc.draw.len.symm)
  have t2 := cmpL_trans (a := a.hash) (b := b.hash) (c := c.hash) (ha.hash.len.trans hb.hash.len.symm) (hb.hash.len.trans hc.hash.len.symm)
  have r1 := cmpL_rng a.draw b.draw
  have r2 := cmpL_rng b.draw c.draw
  have r3 := cmpL_rng a.draw c.draw
  have r4 := cmpL_rng a.hash b.hash
  have r5 := cmpL_rng b.hash c.hash
  have r6 := cmpL_rng a.hash c.hash
  unfold cmpK at h3 h4 ⊢
  by_cases p1 : a.len < b.len
  · rw [if_pos p1] at h3; omega
  rw [if_neg p1] at h3 ⊢
  by_cases p2 : b.len < c.len
  · rw [if_pos p2] at h4; omega
  rw [if_neg p2] at h4 ⊢
  by_cases q1 : b.len < a.len
  · rw [if_pos q1] at h3 ⊢
    rw [if_neg (by omega : ¬ a.len < c.len), if_pos (by omega : c.len < a.len)]
    by_cases q2 : c.len < b.len
    · rw [if_pos q2]; omega
    · rw [if_neg q2]; split <;> omega
  rw [if_neg q1] at h3 ⊢
  by_cases q2 : c.len < b.len
  · rw [if_pos q2] at h4 ⊢
    rw [if_neg (by omega : ¬ a.len < c.len), if_pos (by omega : c.len < a.len)]
    split <;> omega
  rw [if_neg q2] at h4 ⊢
  rw [if_neg (by omega : ¬ a.len < c.len), if_neg (by omega : ¬ c.len < a.len)]
  by_cases d1 : cmpL a.draw b.draw = 0 <;> by_cases d2 : cmpL b.draw c.draw = 0
  · have e1 := cmpL_eq (ha.draw.len.trans hb.draw.len.symm) d1
    have d3 : cmpL a.draw c.draw = 0 := by rw [e1]; exact d2
    simp only [d1, d2, d3, ne_eq, not_true_eq_false, if_false] at h3 h4 ⊢
    exact t2 h3 h4
  · have e1 := cmpL_eq (ha.draw.len.trans hb.draw.len.symm) d1
    have d3 : cmpL a.draw c.draw = cmpL b.draw c.draw := by rw [e1]
    simp only [d1, d2, d3, ne_eq, not_true_eq_false, not_false_eq_true, if_false, if_true] at h3 h4 ⊢
    omega
  · have e2 := cmpL_eq (hb.draw.len.trans hc.draw.len.symm) d2
    have d3 : cmpL a.draw c.draw = cmpL a.draw b.draw := by rw [e2]
    simp only [d1, d2, d3, ne_eq, not_true_eq_false, not_false_eq_true, if_false, if_true] at h3 h4 ⊢
    omega
  · simp only [d1, d2, ne_eq, not_false_eq_true, if_true] at h3 h4 ⊢
    have := t1 h3 h4
    have d3 : ¬ cmpL a.draw c.draw = 0 := by omega
    simp only [d3, not_false_eq_true, if_true]
    exact this

/-! ### the first greatest one -/
def grtN (l : List OKey) : Nat → Int
  | 0 => -1
  | i + 1 => if grtN l i < 0 ∨ 0 < cmpK (l.getD i default) (l.getD (grtN l i).toNat default) then (i : Int) else grtN l i
def AllOk (l : List OKey) : Prop := ∀ x ∈ l, x.Ok
theorem AllOk.get {l : List OKey} (h : AllOk l) {i : Nat} (hi : i < l.length) : (l.getD i default).Ok := by
  rw [List.getD_eq_getElem?_getD, List.getElem?_eq_getElem hi]
  exact h _ (List.getElem_mem hi)
structure IsG (l : List OKey) (n at_ : Nat) : Prop where
  lt : at_ < n
  all : ∀ j, j < n → cmpK (l.getD j default) (l.getD at_ default) ≤ 0
  fst : ∀ j, j < at_ → cmpK (l.getD j default) (l.getD at_ default) < 0
theorem grtN_spec {l : List OKey} (h : AllOk l) : ∀ {n : Nat}, n ≤ l.length → 0 < n → ∃ m : Nat, grtN l n = (m : Int) ∧ IsG l n m
  | 0, _, hn => by omega
  | 1, hl, _ => ⟨0, by simp [grtN], by omega, fun j hj => by
      have : j = 0 := by omega
      subst this; rw [cmpK_self]; omega, fun j hj => by omega⟩
  | n + 2, hl, _ => by
    obtain ⟨m, hm, hg⟩ := grtN_spec h (n := n + 1) (by omega) (by omega)
    unfold grtN
    rw [hm]
    have ok := fun (i : Nat) (hi : i < n + 2) => h.get (i := i) (by omega)
    by_cases hc : (m : Int) < 0 ∨ 0 < cmpK (l.getD (n + 1) default) (l.getD (m : Int).toNat default)
    · rw [if_pos hc]
      have hc : 0 < cmpK (l.getD (n + 1) default) (l.getD m default) := by
        rcases hc with hc | hc
        · omega
        · simpa using hc
      refine ⟨n + 1, rfl, by omega, fun j hj => ?_, fun j hj => ?_⟩
      · rcases Nat.lt_or_ge j (n + 1) with hj' | hj'
        · have h1 := hg.all j hj'
          have h2 := cmpK_anti (l.getD j default) (l.getD m default)
          have := cmpK_trans (ok (n + 1) (by omega)) (ok m (by have := hg.lt; omega)) (ok j (by omega)) (by omega) (by omega)
          have := cmpK_anti (l.getD j default) (l.getD (n + 1) default)
          omega
        · have : j = n + 1 := by omega
          subst this; rw [cmpK_self]; omega
      · have h1 := hg.all j hj
        have h2 := cmpK_anti (l.getD j default) (l.getD m default)
        have := cmpK_trans (ok (n + 1) (by omega)) (ok m (by have := hg.lt; omega)) (ok j (by omega)) (by omega) (by omega)
        have := cmpK_anti (l.getD j default) (l.getD (n + 1) default)
        omega
    · rw [if_neg hc]
      refine ⟨m, rfl, by have := hg.lt; omega, fun j hj => ?_, hg.fst⟩
      rcases Nat.lt_or_ge j (n + 1) with hj' | hj'
      · exact hg.all j hj'
      · have : j = n + 1 := by omega
        subst this
        have : ¬ 0 < cmpK (l.getD (n + 1) default) (l.getD m default) := fun h => hc (.inr (by simpa using h))
        omega
theorem grtN_neg {l : List OKey} (h : AllOk l) {n : Nat} (hn : n ≤ l.length) : grtN l n < 0 ↔ n = 0 := by
  rcases Nat.eq_zero_or_pos n with rfl | hp
  · simp [grtN]
  · obtain ⟨m, hm, _⟩ := grtN_spec h hn hp
    constructor <;> intro <;> omega
/-- The reference's: the first one that none is greater than. -/
theorem IsG.eq {l : List OKey} (h : AllOk l) {i : Nat} (hi : i < l.length) (hall : ∀ k, k < l.length → cmpK (l.getD k default) (l.getD i default) ≤ 0) (hno : ∀ j, j < i → ∃ k, k < l.length ∧ 0 < cmpK (l.getD k default) (l.getD j default)) : grtN l l.length = (i : Int) := by
  obtain ⟨m, hm, hg⟩ := grtN_spec h (Nat.le_refl _) (by omega)
  rw [hm]
  rcases Nat.lt_trichotomy m i with hl | he | hl
  · obtain ⟨k, hk, hgt⟩ := hno m hl
    have := hg.all k hk
    omega
  · rw [he]
  · have h1 := hg.fst i hl
    have h2 := hall m hg.lt
    have := cmpK_anti (l.getD i default) (l.getD m default)
    omega
theorem grtN_none {l : List OKey} (h : AllOk l) (hno : ∀ j, j < l.length → ∃ k, k < l.length ∧ 0 < cmpK (l.getD k default) (l.getD j default)) : grtN l l.length = -1 := by
  rcases Nat.eq_zero_or_pos l.length with h0 | hp
  · rw [h0]; rfl
  · obtain ⟨m, _, hg⟩ := grtN_spec h (Nat.le_refl _) hp
    obtain ⟨k, hk, hgt⟩ := hno m hg.lt
    have := hg.all k hk
    omega
end Go.Alm

/- Layer 8's records: told by their cells. -/
namespace Go.Alm
open Go Go.RowKit
theorem ext_ajL {x y : Array Value} {m k n : Nat} (h : x.size = m) : ext (aj x y) (m + k) n = ext y k n := by rw [aj_eq]; exact ext_aj h
theorem EData.size (x : EData) : x.cells.size = 129 := by simp [EData.cells, hv_size, aj_size]
theorem EData.inj {x y : EData} (h : x.Ok) (k : y.Ok) : x.cells = y.cells ↔ x = y := ⟨fun e => by
  unfold EData.cells at e
  obtain ⟨e, e5⟩ := aj_inj (by simp [hv_size, aj_size]) e
  obtain ⟨e, e4⟩ := aj_inj (by simp [hv_size, aj_size]) e
  obtain ⟨e, e3⟩ := aj_inj (by simp [hv_size, aj_size]) e
  obtain ⟨e1, e2⟩ := aj_inj (by simp [hv_size, aj_size]) e
  have e1 := (hv_iff h.led.len k.led.len).1 e1
  have e2 := (hv_iff h.seed.len k.seed.len).1 e2
  have e3 := (hv_iff h.start.len k.start.len).1 e3
  have e4 := (hv_iff h.lock.len k.lock.len).1 e4
  have e5 := lit1_inj e5
  cases x; cases y
  simp_all, fun e => by rw [e]⟩
theorem EPair.inj {x y : EPair} (h : x.Ok) (k : y.Ok) : x.cells = y.cells ↔ x = y := ⟨fun e => by
  unfold EPair.cells at e
  obtain ⟨e1, e2⟩ := aj_inj (by rw [EData.size, EData.size]) e
  have e1 := (EData.inj h.now k.now).1 e1
  have e2 := (EData.inj h.next k.next).1 e2
  cases x; cases y
  simp_all, fun e => by rw [e]⟩
end Go.Alm

/- Rows of records: what is appended, and what is read. -/
namespace Go.Alm
open Go Go.RowKit
section
variable {X : Type}
def RL (f : X → Array Value) : List X → List Value
  | [] => []
  | x :: l => (f x).toList ++ RL f l
theorem RL_length {f : X → Array Value} {sz : Nat} (hs : ∀ x, (f x).size = sz) : ∀ l : List X, (RL f l).length = l.length * sz
  | [] => by simp [RL]
  | x :: l => by rw [RL, List.length_append, RL_length hs l, Array.length_toList, hs, List.length_cons, Nat.succ_mul, Nat.add_comm]
theorem RL_append (f : X → Array Value) : ∀ l m : List X, RL f (l ++ m) = RL f l ++ RL f m
  | [], _ => rfl
  | x :: l, m => by rw [List.cons_append, RL, RL, RL_append f l m, List.append_assoc]
theorem RL_snoc (f : X → Array Value) (l : List X) (x : X) : RL f l ++ (f x).toList = RL f (l ++ [x]) := by
  rw [RL_append, RL, RL, List.append_nil]
theorem RL_drop {f : X → Array Value} {sz : Nat} (hs : ∀ x, (f x).size = sz) : ∀ (l : List X) (k : Nat), (RL f l).drop (k * sz) = RL f (l.drop k)
  | l, 0 => by simp
  | [], k + 1 => by simp [RL]
  | x :: l, k + 1 => by
    have : (k + 1) * sz = (f x).toList.length + k * sz := by rw [Array.length_toList, hs, Nat.succ_mul, Nat.add_comm]
    rw [RL, this, List.drop_length_add_append, RL_drop hs l k, List.drop_succ_cons]
/-- A part of an element. -/
theorem RL_sub {f : X → Array Value} {sz : Nat} (hs : ∀ x, (f x).size = sz) (d : X) {l : List X} {k off m : Nat} (hk : k < l.length) (hm : off + m ≤ sz) : ((RL f l).drop (k * sz + off)).take m = ((f (l.getD k d)).toList.drop off).take m := by
  have e : l.drop k = l.getD k d :: l.drop (k + 1) := by
    rw [List.drop_eq_getElem_cons hk, List.getD_eq_getElem?_getD, List.getElem?_eq_getElem hk, Option.getD_some]
  rw [← List.drop_drop, RL_drop hs, e, RL]
  rw [List.drop_append_of_le_length (by rw [Array.length_toList, hs]; omega), List.take_append_of_le_length (by rw [List.length_drop, Array.length_toList, hs]; omega)]
theorem RL_whole {f : X → Array Value} {sz : Nat} (hs : ∀ x, (f x).size = sz) (d : X) {l : List X} {k : Nat} (hk : k < l.length) : ((RL f l).drop (k * sz)).take sz = (f (l.getD k d)).toList := by
  have h := RL_sub hs d (l := l) (k := k) (off := 0) (m := sz) hk (by omega)
  rw [Nat.add_zero, List.drop_zero] at h
  rw [h, List.take_of_length_le (by simp [hs])]
theorem RL_get {f : X → Array Value} {sz : Nat} (hs : ∀ x, (f x).size = sz) (d : X) {l : List X} {k off : Nat} (hk : k < l.length) (hm : off < sz) : (RL f l)[k * sz + off]? = (f (l.getD k d)).toList[off]? := by
  have h := congrArg (·[0]?) (RL_sub (m := 1) hs d hk (show off + 1 ≤ sz from hm))
  simpa [List.getElem?_take, List.getElem?_drop] using h
end
section
variable {P : Program} {Q : Exit → Act → World → Prop} {L : List Iv} {s : St} {RO FZ OW : List Rc} {X : Type}
/-- One record is appended. -/
theorem m_appR (n i e sz bytes : Nat) (f : X → Array Value) (l : List X) (x : X) (src : SrcW P sz (appTx (go P n s)) (RO ++ (FZ ++ OW.eraseIdx i)) (appX (go P n s)) 1 (f x).toList) (hb : l.length + 1 ≤ maxLen ∧ (l.length + 1) * bytes ≤ 140737488355328)
    (k : ∀ ao cap, J P Q L (nx (go P n s) (.slice ao (l ++ [x]).length cap)) RO FZ (OW.set i (.row e sz ao (l ++ [x]).length cap (RL f (l ++ [x])))))
    (hr : gr OW i = .row e sz (gr OW i).ao l.length (gr OW i).cap (RL f l) := by kernel_rfl) (hv : appS (go P n s) = .slice (gr OW i).ao l.length (gr OW i).cap := by kernel_rfl)
    (hc : (appOk P (go P n s) e sz bytes && (acts (go P n s) && onW (go P n s))) = true := by kernel_rfl) : J P Q L s RO FZ OW := by
  refine m_app n i e sz bytes l.length 1 (RL f l) (f x).toList (RL f (l ++ [x])) src hb (RL_snoc f l x) (fun ao cap => ?_) hr hv hc
  have h := k ao cap
  rw [List.length_append] at h
  exact h
theorem m_lxF (n i p off : Nat) (xs : List Value) (u : Value) (hu : xs[p + off]? = some u) (k : J P Q L (nx (go P n s) u) RO FZ OW)
    (h1 : (go P n s).a.eval (ldX (go P n s)) = .pointer (some (((oad (gr (RO ++ (FZ ++ OW)) i).ao).add p).add off)) := by kernel_rfl) (h3 : (gr (RO ++ (FZ ++ OW)) i).xs = xs := by kernel_rfl)
    (hc : ((loadOf (cur (go P n s)).op).isSome && (rowed P (ldT (go P n s)) == some false) && (gr (RO ++ (FZ ++ OW)) i).isRd && (onW (go P n s) && rdOk (go P n s) i (RO ++ FZ).length)) = true := by kernel_rfl) : J P Q L s RO FZ OW :=
  m_lx n i (p + off) xs u hu k (by rw [h1, add_add]) h3 hc
theorem m_lxNF (n i p off sz : Nat) (xs : List Value) (vs : Array Value) (hu : (xs.drop (p + off)).take sz = vs.toList) (hs : vs.size = sz) (k : J P Q L (nx (go P n s) (.agg vs)) RO FZ OW)
    (h1 : (go P n s).a.eval (ldX (go P n s)) = .pointer (some (((oad (gr (RO ++ (FZ ++ OW)) i).ao).add p).add off)) := by kernel_rfl) (h3 : (gr (RO ++ (FZ ++ OW)) i).xs = xs := by kernel_rfl)
    (hc : ((loadOf (cur (go P n s)).op).isSome && (rowed P (ldT (go P n s)) == some true) && (sizeT P (ldT (go P n s)) == some sz) && Nat.blt 0 sz && (gr (RO ++ (FZ ++ OW)) i).isRd && (onW (go P n s) && rdOk (go P n s) i (RO ++ FZ).length)) = true := by kernel_rfl) : J P Q L s RO FZ OW :=
  m_lxN n i (p + off) sz xs vs hu hs k (by rw [h1, add_add]) h3 hc
/-- A block's cells, said otherwise. -/
theorem m_cells (i b te : Nat) (c c' : Array Value) (e : c = c') (k : J P Q L s RO FZ (OW.set i (.blk b c' te))) (hr : gr OW i = .blk b c te := by kernel_rfl) (h : Nat.blt i OW.length = true := by kernel_rfl) : J P Q L s RO FZ OW :=
  m_view i (.blk b c' te) (by rw [hr, e]; exact .refl) k h
/-- A row's elements, said otherwise. -/
theorem m_elems (i e sz : Nat) (ao : Option Addr) (n n' cap : Nat) (xs xs' : List Value) (he : n = n' ∧ xs = xs') (k : J P Q L s RO FZ (OW.set i (.row e sz ao n' cap xs'))) (hr : gr OW i = .row e sz ao n cap xs := by kernel_rfl) (h : Nat.blt i OW.length = true := by kernel_rfl) : J P Q L s RO FZ OW :=
  m_view i (.row e sz ao n' cap xs') (by rw [hr, he.1, he.2]; exact .refl) k h
end
end Go.Alm

/- Layer 4's things out of a row's reading. -/
namespace Go.Alm
open Go Go.RowKit Go.ChangeShapes Go.WideShapes Go.ChangeAt

theorem field_of {fs : Array Field} {L : List (TypeId × Nat)} (h : fs.toList.map (fun f => (f.type, f.offset)) = L) (i : Nat) {a b : Nat} (hi : L[i]? = some (a, b)) : ∃ f, fs[i]? = some f ∧ f.type = a ∧ f.offset = b := by
  subst h
  rw [List.getElem?_map, Option.map_eq_some_iff] at hi
  obtain ⟨f, hf, he⟩ := hi
  simp only [Prod.mk.injEq] at he
  exact ⟨f, by simpa using hf, he.1, he.2⟩

section
variable {H : Type} {enc : TypeId × Value → H} {P : Program} {w : World} {base : Nat} {sp : Nat → Bool} {held : Bool} {fuel t e : Nat} {cs : List Value} {x : DataW H × List MemPlace}

theorem thing_of_trod {fs : Array Field} {ti tu th tb e8 e8' : Nat} (he : P.underlying e = some (.struct fs)) (hfs : fs.toList.map (fun f => (f.type, f.offset)) = [(ti, 0), (tu, 1), (th, 2), (tb, 34), (ti, 35)])
    (hi : P.underlying ti = some (.int .i64)) (hu : P.underlying tu = some (.int .u64)) (hh : P.underlying th = some (.array 32 e8)) (hb : P.underlying tb = some (.slice e8')) (h8 : P.underlying e8 = some (.int .u8)) (h8' : P.underlying e8' = some (.int .u8))
    (zi : P.cellsOf ti = 1) (zu : P.cellsOf tu = 1) (zh : P.cellsOf th = 32) (zb : P.cellsOf tb = 1) (z8 : P.cellsOf e8 = 1) (z8' : P.cellsOf e8' = 1) (ze : P.cellsOf e = 36)
    (h : DataW.trod enc P w base sp held fuel e cs = some x) : ∃ y : Thing, cs = y.cells.toList ∧ y.Ok ∧ Rd w y.ao (B y.b) := by
  obtain ⟨xs, n, _, _, hlen, hxl, hget⟩ := DataW.trod_struct he h
  rw [ze] at hlen
  have hsz : fs.size = 5 := by have := congrArg List.length hfs; simpa using this
  have get : ∀ (i a b : Nat), i < 5 → ([(ti, 0), (tu, 1), (th, 2), (tb, 34), (ti, 35)] : List (TypeId × Nat))[i]? = some (a, b) → ∃ z, DataW.trod enc P w base sp held n a ((cs.drop b).take (P.cellsOf a)) = some z := fun i a b hi5 hL => by
    obtain ⟨f, hf, rfl, rfl⟩ := field_of hfs i hL
    have h1 := hget i f hf
    have hs : i < xs.length := by omega
    exact ⟨xs[i], by rw [h1]; simp [hs]⟩
  obtain ⟨z0, g0⟩ := get 0 ti 0 (by decide) rfl
  obtain ⟨z1, g1⟩ := get 1 tu 1 (by decide) rfl
  obtain ⟨z2, g2⟩ := get 2 th 2 (by decide) rfl
  obtain ⟨z3, g3⟩ := get 3 tb 34 (by decide) rfl
  obtain ⟨z4, g4⟩ := get 4 ti 35 (by decide) rfl
  obtain ⟨k, e0, _, w0⟩ := DataW.trod_int hi g0
  obtain ⟨m, e1, _, w1⟩ := DataW.trod_int hu g1
  obtain ⟨l, hl, e2, Bl⟩ := ints_of_trod hh h8 z8 zh g2
  obtain ⟨ao, b, cap, e3, hR, Bb, hbc, hcm⟩ := bytes_of_trod hb h8' z8' g3
  obtain ⟨q, e4, _, w4⟩ := DataW.trod_int hi g4
  rw [zi] at e0 e4; rw [zu] at e1; rw [zh] at e2; rw [zb] at e3
  simp only [Lit.wf, Bool.and_eq_true, decide_eq_true_eq] at w0 w1 w4
  have c1 : IntKind.u64.min = 0 := by decide
  have c2 : IntKind.u64.max = 18446744073709551615 := by decide
  have c3 : IntKind.i64.max = 9223372036854775807 := by decide
  refine ⟨⟨k, m.toNat, l, ao, cap, b, q⟩, ?_, ⟨by simp only; omega, hl, Bl, Bb, hbc, hcm, by simp only; omega⟩, hR⟩
  have hm : ((m.toNat : Nat) : Int) = m := Int.toNat_of_nonneg (by omega)
  have es : cs = (cs.drop 0).take 1 ++ ((cs.drop 1).take 1 ++ ((cs.drop 2).take 32 ++ ((cs.drop 34).take 1 ++ (cs.drop 35).take 1))) := by
    have s4 : (cs.drop 34).take 1 ++ (cs.drop 35).take 1 = cs.drop 34 := by
      have : (cs.drop 35).take 1 = (cs.drop 34).drop 1 := by rw [List.drop_drop, List.take_of_length_le (by rw [List.length_drop]; omega)]
      rw [this, List.take_append_drop]
    have s3 : (cs.drop 2).take 32 ++ cs.drop 34 = cs.drop 2 := by
      have : cs.drop 34 = (cs.drop 2).drop 32 := by rw [List.drop_drop]
      rw [this, List.take_append_drop]
    have s2 : (cs.drop 1).take 1 ++ cs.drop 2 = cs.drop 1 := by
      have : cs.drop 2 = (cs.drop 1).drop 1 := by rw [List.drop_drop]
      rw [this, List.take_append_drop]
    rw [s4, s3, s2, List.drop_zero, List.take_append_drop]
  rw [es, e0, e1, e2, e3, e4]
  unfold Thing.cells
  rw [Array.toList_append, Array.toList_append, hv_B hl]
  simp [hm]

theorem things_of_trod {fs : Array Field} {ti tu th tb e8 e8' : Nat} (ht : P.underlying t = some (.slice e)) (he : P.underlying e = some (.struct fs)) (hfs : fs.toList.map (fun f => (f.type, f.offset)) = [(ti, 0), (tu, 1), (th, 2), (tb, 34), (ti, 35)])
    (hi : P.underlying ti = some (.int .i64)) (hu : P.underlying tu = some (.int .u64)) (hh : P.underlying th = some (.array 32 e8)) (hb : P.underlying tb = some (.slice e8')) (h8 : P.underlying e8 = some (.int .u8)) (h8' : P.underlying e8' = some (.int .u8))
    (zi : P.cellsOf ti = 1) (zu : P.cellsOf tu = 1) (zh : P.cellsOf th = 32) (zb : P.cellsOf tb = 1) (z8 : P.cellsOf e8 = 1) (z8' : P.cellsOf e8' = 1) (ze : P.cellsOf e = 36)
    (h : DataW.trod enc P w base sp held fuel t cs = some x) : ∃ ao ts cap, cs = [.slice ao (ts : List Thing).length cap] ∧ ThingsAt w.heap.size w ao ts ∧ ts.length ≤ cap ∧ cap ≤ maxLen := by
  rcases DataW.trod_slice ht h with ⟨rfl, _⟩ | ⟨a, len, cap, elems, rest, n, _, rfl, _, _, hlc, hcm, hel, hget, _⟩
  · exact ⟨none, [], 0, rfl, ⟨Rd.nil _ _, fun _ h => (by cases h), Sub.nil, fun _ h => (by cases h), fun _ h => (by cases h), Nat.le_refl _⟩, Nat.le_refl _, Nat.zero_le _⟩
  · have key : ∀ i, i < len → ∃ y : Thing, y.Ok ∧ Rd w y.ao (B y.b) ∧ ∀ j, j < 36 → w.cell? ((a.add (i * 36)).add j) = y.cells.toList[j]? := fun i hi' => by
      have h1 := hget i hi'
      have hs : (elems[i]?).isSome = true := by simp [hel, hi']
      obtain ⟨c, hc, hy⟩ := some_of_bind h1 hs
      obtain ⟨y, hy'⟩ := Option.isSome_iff_exists.1 hs
      rw [hy'] at hy
      obtain ⟨z, ez, ok, hR⟩ := thing_of_trod he hfs hi hu hh hb h8 h8' zi zu zh zb z8 z8' ze hy
      rw [ze] at hc
      have hcc := (World.cells?_some hc).2.2
      rw [ez] at hcc
      exact ⟨z, ok, hR, hcc⟩
    let f : Nat → Thing := fun i => if h : i < len then Classical.choose (key i h) else ⟨0, 0, [], none, 0, [], 0⟩
    have hf : ∀ i, i < len → (f i).Ok ∧ Rd w (f i).ao (B (f i).b) ∧ ∀ j, j < 36 → w.cell? ((a.add (i * 36)).add j) = (f i).cells.toList[j]? := fun i hi' => by
      have : f i = Classical.choose (key i hi') := by simp only [f, dif_pos hi']
      rw [this]; exact Classical.choose_spec (key i hi')
    have hmem : ∀ y ∈ (List.range len).map f, ∃ i, i < len ∧ y = f i := fun y hy => by
      obtain ⟨i, hi', rfl⟩ := List.mem_map.1 hy
      exact ⟨i, List.mem_range.1 hi', rfl⟩
    have hRd : Rd w (some a) (cellsT ((List.range len).map f)) := fun j u hj => by
      have hjl := (List.getElem?_eq_some_iff.1 hj).1
      rw [cellsT_length, List.length_map, List.length_range] at hjl
      have hdiv : j / 36 < len := by omega
      have hg := cellsT_get ((List.range len).map f) (j / 36) (f (j / 36)) (by simp [hdiv])
      have hm : j % 36 < 36 := Nat.mod_lt _ (by decide)
      have hu : (f (j / 36)).cells.toList[j % 36]? = some u := by
        rw [← hg, List.getElem?_take, if_pos hm, List.getElem?_drop, show j / 36 * 36 + j % 36 = j by omega]
        exact hj
      refine ⟨a, rfl, ?_⟩
      have hc := (hf _ hdiv).2.2 _ hm
      have e : (a.add (j / 36 * 36)).add (j % 36) = a.add j := by rw [add_add, show j / 36 * 36 + j % 36 = j by omega]
      rw [e] at hc
      rw [hc, hu]
    refine ⟨some a, (List.range len).map f, cap, by simp, ⟨hRd, ?_, hRd.in, ?_, ?_, Nat.le_refl _⟩, by simpa using hlc, hcm⟩
    · intro y hy; obtain ⟨i, hi', rfl⟩ := hmem y hy; exact (hf i hi').2.1
    · intro y hy; obtain ⟨i, hi', rfl⟩ := hmem y hy; exact (hf i hi').2.1.in
    · intro y hy; obtain ⟨i, hi', rfl⟩ := hmem y hy; exact (hf i hi').1
end
end Go.Alm

/- What the listed variables hold, as an array that is read. -/
namespace Go.Alm
open Go Go.RowKit Go.ChangeShapes Go.WideShapes Go.ChangeAt
section
variable {H : Type} {enc : TypeId × Value → H} {P : Program} {w : World}
theorem words_of_trod {base : Nat} {sp : Nat → Bool} {held : Bool} {fuel t e : Nat} {cs : List Value} {K : List Int} {p : List MemPlace} (ht : P.underlying t = some (.array 64 e)) (he : P.underlying e = some (.int .u32)) (hz : P.cellsOf e = 1) (_ : K.length = 64)
    (h : DataW.trod enc P w base sp held fuel t cs = some (.agg (K.map fun k => .lit (.int .u32 k)), p)) : ∀ i, i < 64 → cs[i]? = (K[i]?).map (.int .u32 ·) := by
  intro i hi
  obtain ⟨xs, m, _, hx, hlen, hxl, hget⟩ := DataW.trod_array ht h
  simp only [Prod.mk.injEq, DataW.agg.injEq] at hx
  have h1 := hget i hi
  have hs : i < xs.length := by omega
  obtain ⟨y, hy⟩ : ∃ y, xs[i]? = some y := ⟨xs[i], by simp [hs]⟩
  rw [hy] at h1
  obtain ⟨k, e1, e2, _⟩ := DataW.trod_int he h1
  rw [hz, Nat.mul_one] at e1
  have hy2 : y.1 = .lit (.int .u32 k) := by rw [e2]
  have hm : (K.map fun k => (DataW.lit (Lit.int IntKind.u32 k) : DataW H))[i]? = some (.lit (.int .u32 k)) := by
    rw [hx.1, List.getElem?_map, hy, Option.map_some, hy2]
  rw [List.getElem?_map] at hm
  obtain ⟨k', hk', hkk⟩ := Option.map_eq_some_iff.1 hm
  simp only [DataW.lit.injEq, Lit.int.injEq, true_and] at hkk
  subst hkk
  rw [hk', Option.map_some]
  have : (List.take 1 (List.drop i cs))[0]? = some (Value.int .u32 k') := by rw [e1]; rfl
  simpa using this
theorem keys_of_laid {n : String} {g t e f : Nat} {cs : Array Value} {p : List MemPlace} {D : DataW H} {base : Nat} {sp : Nat → Bool} {held : Bool} (hg : P.globalNamed n = some g) (hv : w.var? P n = some cs) (ht : P.underlying t = some (.array 64 e)) (he : P.underlying e = some (.int .u32)) (hz : P.cellsOf e = 1)
    (hd : DataW.trod enc P w base sp held f t cs.toList = some (D, p)) (hD : D = .agg ((KL.map fun k => (k.toNat : Int)).map fun k => .lit (.int .u32 k))) : Rd w (some ⟨g, 0, none⟩) (hw KL).toList := by
  subst hD
  have h := words_of_trod ht he hz (by rfl) hd
  intro i u hi
  have h64 : i < 64 := by
    have := (List.getElem?_eq_some_iff.1 hi).1
    simpa [hw] using this
  refine ⟨_, rfl, ?_⟩
  have hadd : (⟨g, 0, none⟩ : Addr).add i = ⟨g, i, none⟩ := by unfold Addr.add; split <;> simp_all
  rw [hadd, Go.World.var?_cell hg hv i, ← Array.getElem?_toList, h i h64]
  rw [KL_get i h64] at hi
  rw [← hi]
  have hl : KL.length = 64 := rfl
  simp [show i < KL.length by omega]
end
end Go.Alm

/- Layer 8's histories, plainly. -/
namespace Go.Alm
open Go Go.RowKit
structure EStep where
  by_ : Nat
  prev : List Nat
  led : List Nat
  draw : List Nat
structure EStep.Ok (x : EStep) : Prop where
  by_ : x.by_ < 4294967296
  prev : H32 x.prev
  led : H32 x.led
  draw : H32 x.draw
def EStep.cells (x : EStep) : Array Value := aj (aj (aj #[.int .u32 (x.by_ : Int)] (hv x.prev)) (hv x.led)) (hv x.draw)
structure SBlk where
  slot : Nat
  st : EStep
def SBlk.cells (b : SBlk) : Array Value := aj #[.int .u32 (b.slot : Int)] b.st.cells
/-- What one block of a history adds to what is told of the epoch E. -/
def addE (E : Nat) (d : EData) (pe : Option Nat) (b : SBlk) : EData :=
  let d1 : EData := if b.slot % 24 < 16 then ⟨d.led, seedL d.seed b.st.draw, d.start, d.lock, d.len⟩ else d
  if b.slot / 24 = E then
    let d2 : EData := if (match pe with | none => 0 | some e => e) < b.slot / 24 then ⟨b.st.led, d1.seed, b.st.prev, Z32, 0⟩ else d1
    if b.slot % 24 < 16 then ⟨d2.led, d2.seed, d2.start, b.st.prev, d2.len + 1⟩ else ⟨d2.led, d2.seed, d2.start, d2.lock, d2.len + 1⟩
  else d1
def stepN (E : Nat) (a : EData × Option Nat) (b : SBlk) : EData × Option Nat := (addE E a.1 a.2 b, some (b.slot / 24))
def lastE (l : List SBlk) : Option Nat := (l.map (·.slot / 24)).getLast?
def lastS (l : List SBlk) : Nat := match l.getLast? with | some b => b.slot | none => 0
def foldN (E : Nat) (led : List Nat) (l : List SBlk) : EData × Option Nat := l.foldl (stepN E) (dataF led, none)
def nextH (led : List Nat) (l : List SBlk) : EData := (foldN (lastS l / 24) led l).1
theorem foldN_snoc (E : Nat) (led : List Nat) (l : List SBlk) (b : SBlk) : foldN E led (l ++ [b]) = stepN E (foldN E led l) b := by simp [foldN]
theorem list_snoc {α : Type} {P : List α → Prop} (h0 : P []) (h1 : ∀ l b, P l → P (l ++ [b])) : ∀ l, P l := fun l => by
  have : ∀ r : List α, P r.reverse := fun r => by
    induction r with
    | nil => exact h0
    | cons x r ih => rw [List.reverse_cons]; exact h1 _ _ ih
  have := this l.reverse
  rwa [List.reverse_reverse] at this
theorem lastS_snoc (l : List SBlk) (b : SBlk) : lastS (l ++ [b]) = b.slot := by simp [lastS]
theorem foldN_2 (E : Nat) (led : List Nat) : ∀ l : List SBlk, (foldN E led l).2 = if l = [] then none else some (lastS l / 24) :=
  list_snoc (by rfl) fun l b _ => by rw [foldN_snoc, if_neg (by simp), lastS_snoc]; rfl
theorem addE_skip {E : Nat} {d : EData} {pe : Option Nat} {b : SBlk} (h : b.slot / 24 ≠ E) : addE E d pe b = if b.slot % 24 < 16 then ⟨d.led, seedL d.seed b.st.draw, d.start, d.lock, d.len⟩ else d := by
  unfold addE
  simp only [if_neg h]
theorem addE_seed (E : Nat) (d : EData) (pe : Option Nat) (b : SBlk) : (addE E d pe b).seed = if b.slot % 24 < 16 then seedL d.seed b.st.draw else d.seed := by
  unfold addE
  by_cases h1 : b.slot % 24 < 16 <;> by_cases h2 : b.slot / 24 = E <;> simp only [h1, h2, if_true, if_false] <;> (try split) <;> (try split) <;> rfl
theorem fold_seed (E F : Nat) (led : List Nat) : ∀ l : List SBlk, (foldN E led l).1.seed = (foldN F led l).1.seed :=
  list_snoc rfl fun l b ih => by rw [foldN_snoc, foldN_snoc]; unfold stepN; simp only [addE_seed, ih]
theorem fold_skip {E : Nat} (led : List Nat) : ∀ l : List SBlk, (∀ x ∈ l, x.slot / 24 ≠ E) → (foldN E led l).1 = ⟨led, (foldN E led l).1.seed, Z32, Z32, 1⟩ :=
  list_snoc (fun _ => rfl) fun l b ih h => by
    have h1 := ih (fun x hx => h x (by simp [hx]))
    rw [foldN_snoc]
    unfold stepN
    rw [addE_skip (h b (by simp)), h1]
    split <;> rfl
theorem nextH_snoc {led : List Nat} {l : List SBlk} {b : SBlk} (hm : ∀ x ∈ l, x.slot / 24 ≤ lastS l / 24) (h : lastS l ≤ b.slot) :
    nextH led (l ++ [b]) = lockD (if lastS l / 24 < b.slot / 24 then ⟨b.st.led, (nextH led l).seed, b.st.prev, Z32, 1⟩ else ⟨(nextH led l).led, (nextH led l).seed, (nextH led l).start, (nextH led l).lock, (nextH led l).len + 1⟩) ⟨lastS l, b.slot, b.st.prev, b.st.led, b.st.draw⟩ := by
  have hle : lastS l / 24 ≤ b.slot / 24 := Nat.div_le_div_right h
  unfold nextH
  rw [lastS_snoc, foldN_snoc]
  have hpe : (match (foldN (b.slot / 24) led l).2 with | none => 0 | some e => e) = lastS l / 24 := by
    rw [foldN_2]
    by_cases hl : l = []
    · subst hl; rfl
    · rw [if_neg hl]
  by_cases ht : lastS l / 24 < b.slot / 24
  · have hs := fold_skip (E := b.slot / 24) led l (fun x hx => by have := hm x hx; omega)
    have hse := fold_seed (lastS l / 24) (b.slot / 24) led l
    rw [if_pos ht, hse]
    unfold stepN addE lockD
    simp only [hpe, if_pos ht, if_true]
    by_cases h1 : b.slot % 24 < 16
    · simp only [if_pos h1]
    · simp only [if_neg h1]
  · have he : b.slot / 24 = lastS l / 24 := by omega
    rw [if_neg ht, ← he]
    unfold stepN addE lockD
    simp only [hpe, if_neg ht, if_true]
    by_cases h1 : b.slot % 24 < 16
    · simp only [if_pos h1]
    · simp only [if_neg h1]
theorem addE_len (E : Nat) (d : EData) (pe : Option Nat) (b : SBlk) : (addE E d pe b).len ≤ d.len + 1 := by
  unfold addE
  by_cases h1 : b.slot % 24 < 16 <;> by_cases h2 : b.slot / 24 = E <;> simp only [h1, h2, if_true, if_false] <;> (try split) <;> (try split) <;> (try simp only) <;> omega
theorem fold_len (E : Nat) (led : List Nat) : ∀ l : List SBlk, (foldN E led l).1.len ≤ l.length + 1 :=
  list_snoc (Nat.le_refl _) fun l b ih => by
    rw [foldN_snoc, List.length_append]
    have := addE_len E (foldN E led l).1 (foldN E led l).2 b
    show (addE _ _ _ _).len ≤ _
    simp only [List.length_cons, List.length_nil]
    omega
theorem nextH_len (led : List Nat) (l : List SBlk) : (nextH led l).len ≤ l.length + 1 := fold_len _ _ _
/-! ### by places -/
structure SBlk.Ok (x : SBlk) : Prop where
  slot : x.slot < 4294967296
  st : x.st.Ok
instance : Inhabited SBlk := ⟨⟨0, ⟨0, Z32, Z32, Z32⟩⟩⟩
instance : Inhabited EStep := ⟨⟨0, Z32, Z32, Z32⟩⟩
theorem EStep.size (x : EStep) : x.cells.size = 97 := by simp [EStep.cells, hv, aj_size]
theorem SBlk.size (x : SBlk) : x.cells.size = 98 := by
  unfold SBlk.cells
  rw [show (aj #[Value.int .u32 (x.slot : Int)] x.st.cells).size = 1 + x.st.cells.size from by rw [aj_eq]; exact Array.size_append, EStep.size]
def addP (E : Nat) (d : EData) (pv : Nat) (b : SBlk) : EData := addE E d (some pv) b
def pvN (l : List SBlk) (i : Nat) : Nat := if i = 0 then 0 else (l.getD (i - 1) default).slot / 24
theorem addE_none (E : Nat) (d : EData) (b : SBlk) : addE E d none b = addP E d 0 b := rfl
theorem take_snocD {α : Type} [Inhabited α] {l : List α} {i : Nat} (h : i < l.length) : l.take (i + 1) = l.take i ++ [l.getD i default] := by
  rw [List.take_succ_eq_append_getElem h, List.getD_eq_getElem?_getD, List.getElem?_eq_getElem h, Option.getD_some]
theorem lastS_take {l : List SBlk} {i : Nat} (h : 0 < i) (hi : i ≤ l.length) : lastS (l.take i) = (l.getD (i - 1) default).slot := by
  obtain ⟨j, rfl⟩ : ∃ j, i = j + 1 := ⟨i - 1, by omega⟩
  rw [take_snocD (by omega), lastS_snoc]
  rfl
theorem lastS_eq {l : List SBlk} (h : 0 < l.length) : lastS l = (l.getD (l.length - 1) default).slot := by
  have := lastS_take h (Nat.le_refl _)
  rwa [List.take_length] at this
theorem foldN_take {E : Nat} {led : List Nat} {l : List SBlk} {i : Nat} (h : i < l.length) : (foldN E led (l.take (i + 1))).1 = addP E (foldN E led (l.take i)).1 (pvN l i) (l.getD i default) := by
  rw [take_snocD h, foldN_snoc]
  unfold stepN
  rw [foldN_2]
  by_cases h0 : i = 0
  · subst h0; rw [List.take_zero, if_pos rfl]; exact addE_none _ _ _
  · rw [if_neg (by intro e; have := congrArg List.length e; rw [List.length_take, List.length_nil] at this; omega), lastS_take (by omega) (by omega)]
    unfold addP pvN
    rw [if_neg h0]
theorem addP_skip {E pv : Nat} {d : EData} {b : SBlk} (h1 : b.slot / 24 ≠ E) (h2 : ¬ b.slot % 24 < 16) : addP E d pv b = d := by
  unfold addP; rw [addE_skip h1, if_neg h2]
theorem addP_skipL {E pv : Nat} {d : EData} {b : SBlk} (h1 : b.slot / 24 ≠ E) (h2 : b.slot % 24 < 16) : addP E d pv b = ⟨d.led, seedL d.seed b.st.draw, d.start, d.lock, d.len⟩ := by
  unfold addP; rw [addE_skip h1, if_pos h2]
theorem addP_new {E pv : Nat} {d : EData} {b : SBlk} (h1 : b.slot / 24 = E) (h2 : ¬ b.slot % 24 < 16) (h3 : pv < b.slot / 24) : addP E d pv b = ⟨b.st.led, d.seed, b.st.prev, Z32, 1⟩ := by
  unfold addP addE
  simp only [if_pos h1, if_neg h2, if_pos h3]
theorem addP_newL {E pv : Nat} {d : EData} {b : SBlk} (h1 : b.slot / 24 = E) (h2 : b.slot % 24 < 16) (h3 : pv < b.slot / 24) : addP E d pv b = ⟨b.st.led, seedL d.seed b.st.draw, b.st.prev, b.st.prev, 1⟩ := by
  unfold addP addE
  simp only [if_pos h1, if_pos h2, if_pos h3]
theorem addP_more {E pv : Nat} {d : EData} {b : SBlk} (h1 : b.slot / 24 = E) (h2 : ¬ b.slot % 24 < 16) (h3 : ¬ pv < b.slot / 24) : addP E d pv b = ⟨d.led, d.seed, d.start, d.lock, d.len + 1⟩ := by
  unfold addP addE
  simp only [if_pos h1, if_neg h2, if_neg h3]
theorem addP_moreL {E pv : Nat} {d : EData} {b : SBlk} (h1 : b.slot / 24 = E) (h2 : b.slot % 24 < 16) (h3 : ¬ pv < b.slot / 24) : addP E d pv b = ⟨d.led, seedL d.seed b.st.draw, d.start, b.st.prev, d.len + 1⟩ := by
  unfold addP addE
  simp only [if_pos h1, if_pos h2, if_neg h3]
theorem getD_all {α : Type} [Inhabited α] {p : α → Prop} {l : List α} (h : ∀ x ∈ l, p x) {i : Nat} (hi : i < l.length) : p (l.getD i default) := by
  rw [List.getD_eq_getElem?_getD, List.getElem?_eq_getElem hi, Option.getD_some]
  exact h _ (List.getElem_mem hi)
theorem addE_ok {E : Nat} {d : EData} {pe : Option Nat} {b : SBlk} (hd : d.Ok) (hb : b.Ok) (hl : d.len + 1 < 4294967296) : (addE E d pe b).Ok := by
  have h1 : (if b.slot % 24 < 16 then (⟨d.led, seedL d.seed b.st.draw, d.start, d.lock, d.len⟩ : EData) else d).Ok := by
    split
    · exact ⟨hd.led, seedL_ok _ _, hd.start, hd.lock, hd.len⟩
    · exact hd
  have hlen : (if b.slot % 24 < 16 then (⟨d.led, seedL d.seed b.st.draw, d.start, d.lock, d.len⟩ : EData) else d).len = d.len := by split <;> rfl
  unfold addE
  generalize (if b.slot % 24 < 16 then (⟨d.led, seedL d.seed b.st.draw, d.start, d.lock, d.len⟩ : EData) else d) = d1 at *
  simp only
  split
  · have h2 : ∀ q : Bool, (if q = true then (⟨b.st.led, d1.seed, b.st.prev, Z32, 0⟩ : EData) else d1).Ok ∧ (if q = true then (⟨b.st.led, d1.seed, b.st.prev, Z32, 0⟩ : EData) else d1).len + 1 < 4294967296 := fun q => by
      cases q
      · exact ⟨h1, by simp only [Bool.false_eq_true, if_false]; omega⟩
      · exact ⟨⟨hb.st.led, h1.seed, hb.st.prev, H32.zero, by show 0 < 4294967296; decide⟩, by show 0 + 1 < 4294967296; decide⟩
    have h3 := h2 (decide ((match pe with | none => 0 | some e => e) < b.slot / 24))
    simp only [decide_eq_true_eq] at h3
    obtain ⟨h3, h4⟩ := h3
    split
    · exact ⟨h3.led, h3.seed, h3.start, hb.st.prev, h4⟩
    · exact ⟨h3.led, h3.seed, h3.start, h3.lock, h4⟩
  · exact h1
theorem foldN_ok {E : Nat} {led : List Nat} (hl : H32 led) : ∀ l : List SBlk, (∀ x ∈ l, x.Ok) → l.length + 2 < 4294967296 → (foldN E led l).1.Ok :=
  list_snoc (fun _ _ => dataF_ok hl) fun l b ih h hn => by
    rw [foldN_snoc]
    rw [List.length_append] at hn
    simp only [List.length_cons, List.length_nil] at hn
    exact addE_ok (ih (fun x hx => h x (by simp [hx])) (by omega)) (h b (by simp)) (by have := fold_len E led l; omega)
theorem foldN_okT {E : Nat} {led : List Nat} {l : List SBlk} {i : Nat} (hl : H32 led) (hB : ∀ x ∈ l, x.Ok) (hn : l.length + 2 < 4294967296) : (foldN E led (l.take i)).1.Ok :=
  foldN_ok hl _ (fun x hx => hB x (List.mem_of_mem_take hx)) (by have : (l.take i).length ≤ l.length := (by rw [List.length_take]; omega); omega)
end Go.Alm

/- Records out of a row's reading: a struct's parts, one behind the other. -/
namespace Go.Alm
open Go Go.RowKit Go.ChangeShapes Go.WideShapes Go.ChangeAt
def consec (P : Program) : Nat → List (Nat × Nat) → Bool
  | _, [] => true
  | o, (t, off) :: l => Nat.beq off o && consec P (o + P.cellsOf t) l
def tot (P : Program) : Nat → List (Nat × Nat) → Nat
  | o, [] => o
  | o, (t, _) :: l => tot P (o + P.cellsOf t) l
section
variable {H : Type} {enc : TypeId × Value → H} {P : Program} {w : World} {base : Nat} {sp : Nat → Bool} {held : Bool} {fuel t e : Nat} {cs : List Value} {x : DataW H × List MemPlace}
inductive PartsT (enc : TypeId × Value → H) (P : Program) (w : World) (base : Nat) (sp : Nat → Bool) (held : Bool) : List (Nat × Nat) → List Value → Prop
  | nil : PartsT enc P w base sp held [] []
  | cons {n t o : Nat} {c : List Value} {z : DataW H × List MemPlace} {l : List (Nat × Nat)} {cs : List Value} (h : DataW.trod enc P w base sp held n t c = some z) (r : PartsT enc P w base sp held l cs) : PartsT enc P w base sp held ((t, o) :: l) (c ++ cs)
theorem PartsT.inv {t o : Nat} {l : List (Nat × Nat)} (h : PartsT enc P w base sp held ((t, o) :: l) cs) : ∃ n c z cs', DataW.trod enc P w base sp held n t c = some z ∧ PartsT enc P w base sp held l cs' ∧ cs = c ++ cs' := by
  cases h with
  | cons h r => exact ⟨_, _, _, _, h, r, rfl⟩
theorem PartsT.end (h : PartsT enc P w base sp held [] cs) : cs = [] := by cases h; rfl
theorem parts_of_trod {fs : Array Field} {L : List (Nat × Nat)} (he : P.underlying e = some (.struct fs)) (hfs : fs.toList.map (fun f => (f.type, f.offset)) = L) (hL : consec P 0 L = true) (hz : Nat.beq (P.cellsOf e) (tot P 0 L) = true)
    (h : DataW.trod enc P w base sp held fuel e cs = some x) : PartsT enc P w base sp held L cs := by
  obtain ⟨xs, n, _, _, hlen, hxl, hget⟩ := DataW.trod_struct he h
  rw [Nat.eq_of_beq_eq_true hz] at hlen
  have hsz : fs.size = L.length := by have := congrArg List.length hfs; simpa using this
  have get : ∀ (i a b : Nat), L[i]? = some (a, b) → ∃ z, DataW.trod enc P w base sp held n a ((cs.drop b).take (P.cellsOf a)) = some z := fun i a b hi => by
    obtain ⟨f, hf, rfl, rfl⟩ := field_of hfs i hi
    have h1 := hget i f hf
    have hs : i < xs.length := by
      have := (List.getElem?_eq_some_iff.1 hi).1
      omega
    exact ⟨xs[i], by rw [h1]; simp [hs]⟩
  have key : ∀ (M : List (Nat × Nat)) (o k : Nat), L.drop k = M → consec P o M = true → cs.length = tot P o M → PartsT enc P w base sp held M (cs.drop o) := by
    intro M
    induction M with
    | nil => intro o k _ _ hl; rw [List.drop_of_length_le (by rw [hl]; exact Nat.le_refl _)]; exact .nil
    | cons y M ih =>
      obtain ⟨a, b⟩ := y
      intro o k hk hc hl
      simp only [consec, Bool.and_eq_true] at hc
      have hb := Nat.eq_of_beq_eq_true hc.1
      subst hb
      have hi : L[k]? = some (a, b) := by
        have : (L.drop k)[0]? = some (a, b) := by rw [hk]; rfl
        simpa using this
      obtain ⟨z, hz⟩ := get k a b hi
      have := ih (b + P.cellsOf a) (k + 1) (by rw [← List.drop_drop, hk]; rfl) hc.2 hl
      have e : cs.drop b = (cs.drop b).take (P.cellsOf a) ++ cs.drop (b + P.cellsOf a) := by
        rw [← List.drop_drop, List.take_append_drop]
      rw [e]
      exact .cons hz this
  simpa using key L 0 0 rfl hL hlen
structure IsI (P : Program) (k : IntKind) (t : Nat) : Prop where
  u : P.underlying t = some (.int k)
structure IsH (P : Program) (t e : Nat) : Prop where
  u : P.underlying t = some (.array 32 e)
  u8 : P.underlying e = some (.int .u8)
  z : P.cellsOf e = 1
  s : P.cellsOf t = 32
theorem hash_of (h : IsH P t e) (ht : DataW.trod enc P w base sp held fuel t cs = some x) : ∃ l, H32 l ∧ cs = (hv l).toList := by
  obtain ⟨l, hl, rfl, hB⟩ := ints_of_trod h.u h.u8 h.z h.s ht
  exact ⟨l, ⟨hl, hB⟩, (hv_B hl).symm⟩
theorem u32_of (h : IsI P .u32 t) (ht : DataW.trod enc P w base sp held fuel t cs = some x) : ∃ n : Nat, n < 4294967296 ∧ cs = [.int .u32 (n : Int)] := by
  obtain ⟨m, rfl, _, hw⟩ := DataW.trod_int h.u ht
  simp only [Lit.wf, Bool.and_eq_true, decide_eq_true_eq] at hw
  have c1 : IntKind.u32.min = 0 := by decide
  have c2 : IntKind.u32.max = 4294967295 := by decide
  exact ⟨m.toNat, by omega, by rw [show ((m.toNat : Nat) : Int) = m from Int.toNat_of_nonneg (by omega)]⟩
theorem u64_of (h : IsI P .u64 t) (ht : DataW.trod enc P w base sp held fuel t cs = some x) : ∃ n : Nat, n < 18446744073709551616 ∧ cs = [.int .u64 (n : Int)] := by
  obtain ⟨m, rfl, _, hw⟩ := DataW.trod_int h.u ht
  simp only [Lit.wf, Bool.and_eq_true, decide_eq_true_eq] at hw
  have c1 : IntKind.u64.min = 0 := by decide
  have c2 : IntKind.u64.max = 18446744073709551615 := by decide
  exact ⟨m.toNat, by omega, by rw [show ((m.toNat : Nat) : Int) = m from Int.toNat_of_nonneg (by omega)]⟩
theorem i64_of (h : IsI P .i64 t) (ht : DataW.trod enc P w base sp held fuel t cs = some x) : ∃ n : Int, (-9223372036854775808 ≤ n ∧ n ≤ 9223372036854775807) ∧ cs = [.int .i64 n] := by
  obtain ⟨m, rfl, _, hw⟩ := DataW.trod_int h.u ht
  simp only [Lit.wf, Bool.and_eq_true, decide_eq_true_eq] at hw
  have c1 : IntKind.i64.min = -9223372036854775808 := by decide
  have c2 : IntKind.i64.max = 9223372036854775807 := by decide
  exact ⟨m, by omega, rfl⟩
/-- A struct whose fields are these. -/
structure IsS (P : Program) (t : Nat) (L : List (Nat × Nat)) : Prop where
  u : P.underlying t = some (.struct (P.fieldsOf t))
  f : (P.fieldsOf t).toList.map (fun f => (f.type, f.offset)) = L
  c : consec P 0 L = true
  z : Nat.beq (P.cellsOf t) (tot P 0 L) = true
theorem parts_of {L : List (Nat × Nat)} (h : IsS P t L) (ht : DataW.trod enc P w base sp held fuel t cs = some x) : PartsT enc P w base sp held L cs := by
  obtain ⟨h1, h2, h3, h4⟩ := h
  exact parts_of_trod h1 h2 h3 h4 ht
theorem aj_toList (a b : Array Value) : (aj a b).toList = a.toList ++ b.toList := rfl
/-! ### layer 8 -/
structure IsData (P : Program) (t th e tn : Nat) : Prop where
  s : IsS P t [(th, 0), (th, 32), (th, 64), (th, 96), (tn, 128)]
  h : IsH P th e
  n : IsI P .u32 tn
theorem data_of {th tn : Nat} (k : IsData P t th e tn) (ht : DataW.trod enc P w base sp held fuel t cs = some x) : ∃ y : EData, y.Ok ∧ cs = y.cells.toList := by
  obtain ⟨_, _, _, _, h1, r1, rfl⟩ := (parts_of k.s ht).inv
  obtain ⟨_, _, _, _, h2, r2, rfl⟩ := r1.inv
  obtain ⟨_, _, _, _, h3, r3, rfl⟩ := r2.inv
  obtain ⟨_, _, _, _, h4, r4, rfl⟩ := r3.inv
  obtain ⟨_, _, _, _, h5, r5, rfl⟩ := r4.inv
  obtain rfl := r5.end
  obtain ⟨a, ha, rfl⟩ := hash_of k.h h1
  obtain ⟨b, hb, rfl⟩ := hash_of k.h h2
  obtain ⟨c, hc, rfl⟩ := hash_of k.h h3
  obtain ⟨d, hd, rfl⟩ := hash_of k.h h4
  obtain ⟨n, hn, rfl⟩ := u32_of k.n h5
  exact ⟨⟨a, b, c, d, n⟩, ⟨ha, hb, hc, hd, hn⟩, by unfold EData.cells; simp only [aj_toList, List.append_assoc, List.append_nil]⟩
structure IsPair (P : Program) (t td th e tn : Nat) : Prop where
  s : IsS P t [(td, 0), (td, 129)]
  d : IsData P td th e tn
theorem pair_of {td th tn : Nat} (k : IsPair P t td th e tn) (ht : DataW.trod enc P w base sp held fuel t cs = some x) : ∃ y : EPair, y.Ok ∧ cs = y.cells.toList := by
  obtain ⟨_, _, _, _, h1, r1, rfl⟩ := (parts_of k.s ht).inv
  obtain ⟨_, _, _, _, h2, r2, rfl⟩ := r1.inv
  obtain rfl := r2.end
  obtain ⟨a, ha, ea⟩ := data_of k.d h1
  obtain ⟨b, hb, eb⟩ := data_of k.d h2
  exact ⟨⟨a, b⟩, ⟨ha, hb⟩, by rw [ea, eb, List.append_nil]; exact (aj_toList _ _).symm⟩
structure IsBlk (P : Program) (t th e tn : Nat) : Prop where
  s : IsS P t [(tn, 0), (tn, 1), (th, 2), (th, 34), (th, 66)]
  h : IsH P th e
  n : IsI P .u32 tn
theorem blk_of {th tn : Nat} (k : IsBlk P t th e tn) (ht : DataW.trod enc P w base sp held fuel t cs = some x) : ∃ y : EBlk, y.Ok ∧ cs = y.cells.toList := by
  obtain ⟨_, _, _, _, h1, r1, rfl⟩ := (parts_of k.s ht).inv
  obtain ⟨_, _, _, _, h2, r2, rfl⟩ := r1.inv
  obtain ⟨_, _, _, _, h3, r3, rfl⟩ := r2.inv
  obtain ⟨_, _, _, _, h4, r4, rfl⟩ := r3.inv
  obtain ⟨_, _, _, _, h5, r5, rfl⟩ := r4.inv
  obtain rfl := r5.end
  obtain ⟨a, ha, rfl⟩ := u32_of k.n h1
  obtain ⟨b, hb, rfl⟩ := u32_of k.n h2
  obtain ⟨c, hc, rfl⟩ := hash_of k.h h3
  obtain ⟨d, hd, rfl⟩ := hash_of k.h h4
  obtain ⟨n, hn, rfl⟩ := hash_of k.h h5
  exact ⟨⟨a, b, c, d, n⟩, ⟨ha, hb, hc, hd, hn⟩, by unfold EBlk.cells; simp only [aj_toList, List.append_assoc, List.append_nil]; rfl⟩
end
theorem okWide_array {P : Program} {w : World} {r : Reach} {base : Nat} {v : Value} {t n e : Nat} (ht : P.underlying t = some (.array n e)) (h : Value.okWide P w r base t v) : ∃ cs, v = .agg cs ∧ cs.size = P.cellsOf t := by
  simp only [Value.okWide, ht] at h
  obtain ⟨cs, h1, h2, _⟩ := h
  exact ⟨cs, h1, h2⟩
def sinceRe (w : World) : Re := ⟨Old w.heap.size, fun w' => Fr w w' N0, fun _ h _ hk => Nat.lt_of_lt_of_le hk h.size, fun _ _ _ h F d => ⟨F.os.trans h.os, F.tape.trans h.tape, F.output.trans h.output, Nat.le_trans h.size F.size, fun k hk _ => (F.block k (Nat.lt_of_lt_of_le hk h.size) (fun ht => d k hk ht)).trans (h.block k hk (fun h => h.elim))⟩⟩
theorem agg_eq {q c : Array Value} (h : (Value.agg q).cells.toList = c.toList) : q = c := Array.toList_inj.1 (by simpa [Value.cells] using h)
theorem bandI {a b : Bool} (h : a = true) (k : b = true) : (a && b) = true := by rw [h, k]; rfl
inductive RoA (w : World) : List Rc → Prop
  | nil : RoA w []
  | cons {r : Rc} {l : List Rc} (h : r.A w) (t : RoA w l) : RoA w (r :: l)
theorem RoA.out {w : World} {l : List Rc} (h : RoA w l) : ∀ r ∈ l, r.A w := by
  induction h with
  | nil => intro r h; cases h
  | cons h _ ih => intro r hr; rcases List.mem_cons.1 hr with rfl | hr; exact h; exact ih r hr
/-- A contract of the machine's, for a row: nothing old is touched. -/
theorem Does.row {P : Program} {f : Nat} {args : Array Value} {ro : List Rc} {v : Value} (h : Does P f args ro [] (fun v' H => v' = v ∧ H = [])) {w : World} (hA : ∀ r ∈ ro, r.A w) : Calls P f args w fun e w' => e = .returned v ∧ Fr w w' N0 := by
  have hs : Hs w (.gen (sinceRe w) :: ro) [] := ⟨fun r hr => by
    simp only [List.append_nil, List.mem_cons] at hr
    rcases hr with rfl | hr
    · exact Fr.refl _ _
    · exact hA r hr, fun _ _ o ho => (by cases ho), List.Pairwise.nil⟩
  refine (h _ w hs).mono ?_
  rintro e w' ⟨v', H, ⟨rfl, rfl⟩, rfl, hs'⟩
  exact ⟨rfl, hs'.a (.gen (sinceRe w)) (by simp)⟩
end Go.Alm

/- Contracts of the older kind as the machine's: the wire. -/
namespace Go.Alm
open Go Go.RowKit

def rrRe (tr b : Nat) (ao : Option Addr) (cap : Nat) (r : Rs) : Re := ⟨rrS b ao r, fun w => RrAt tr w b ao cap r, fun _ h => h.in, fun _ _ _ h F d => h.keep F d⟩
def wrRe (t8 tw b : Nat) (v : Value) (l : List Nat) : Re := ⟨wrS b v, fun w => WrAt t8 tw w b v l, fun _ h => h.in, fun _ _ _ h F d => h.keep F d⟩
theorem View.writer {a : Rc} {t8 tw b : Nat} (h : a = .blk b #[.slice none 0 0] tw := by kernel_rfl) : View a (.gen (wrRe t8 tw b (.slice none 0 0) [])) := by
  subst h
  have ho : ∀ k, ¬ Own (.slice none 0 0) k := fun k hk => by simp [Own, Value.ownBlock] at hk
  refine ⟨fun w hA => ⟨⟨hA, Row.nil w t8 1, fun k hk => (ho k hk).elim⟩, fun k hk => ?_⟩⟩
  rcases hk with hk | hk
  · exact hk
  · exact (ho k hk).elim
section
variable {P : Program} {f : Nat} {args : Array Value} {ro own : List Rc}
theorem Does.mono {R R' : Value → List Rc → Prop} (h : Does P f args ro own R) (k : ∀ v H, R v H → R' v H) : Does P f args ro own R' := fun F w hw => (h F w hw).mono fun _ _ ⟨v, H, hR, he, hH⟩ => ⟨v, H, k v H hR, he, hH⟩
theorem Does.old {X : Type} {v : X → Value} {H' : X → Rc} (T : Nat → Prop)
    (h : ∀ w, Hs w ro own → Calls P f args w fun e w' => ∃ x, e = .returned (v x) ∧ (H' x).A w' ∧ Fr w w' T ∧ ∀ k, (H' x).S k → (∃ r ∈ own, r.S k) ∨ w.heap.size ≤ k)
    (hT : ∀ k, T k → ∃ r ∈ own, r.S k) : Does P f args ro own (fun v' H => ∃ x, v' = v x ∧ H = [H' x]) := by
  intro F w hw
  refine (h w (hw.ro fun r hr => List.mem_cons_of_mem _ hr)).mono ?_
  rintro e w' ⟨x, rfl, hA, hF, hN⟩
  refine ⟨_, _, ⟨x, rfl, rfl⟩, rfl, ?_⟩
  have := Hs.step (A := own) (B := []) (r' := [H' x]) (by simpa using hw) hF (fun k hk => .inl (hT k hk)) (by simpa using hA) (by simpa using hN) (List.pairwise_singleton _ _)
  rw [List.append_nil] at this
  exact this.ro (by simp)
theorem Does.old2 {A B : Type} {v : A → B → Value} {H' : A → B → Rc} (T : Nat → Prop)
    (h : ∀ w, Hs w ro own → Calls P f args w fun e w' => ∃ a b, e = .returned (v a b) ∧ (H' a b).A w' ∧ Fr w w' T ∧ ∀ k, (H' a b).S k → (∃ r ∈ own, r.S k) ∨ w.heap.size ≤ k)
    (hT : ∀ k, T k → ∃ r ∈ own, r.S k) : Does P f args ro own (fun v' H => ∃ a b, v' = v a b ∧ H = [H' a b]) :=
  (Does.old (X := A × B) (v := fun x => v x.1 x.2) (H' := fun x => H' x.1 x.2) T (fun w hw => (h w hw).mono fun _ _ ⟨a, b, h⟩ => ⟨(a, b), h⟩) hT).mono fun _ _ ⟨x, h⟩ => ⟨x.1, x.2, h⟩
theorem Does.old3 {A B C : Type} {v : A → B → C → Value} {H' : A → B → C → Rc} (T : Nat → Prop)
    (h : ∀ w, Hs w ro own → Calls P f args w fun e w' => ∃ a b c, e = .returned (v a b c) ∧ (H' a b c).A w' ∧ Fr w w' T ∧ ∀ k, (H' a b c).S k → (∃ r ∈ own, r.S k) ∨ w.heap.size ≤ k)
    (hT : ∀ k, T k → ∃ r ∈ own, r.S k) : Does P f args ro own (fun v' H => ∃ a b c, v' = v a b c ∧ H = [H' a b c]) :=
  (Does.old2 (A := A × B) (B := C) (v := fun x c => v x.1 x.2 c) (H' := fun x c => H' x.1 x.2 c) T (fun w hw => (h w hw).mono fun _ _ ⟨a, b, c, h⟩ => ⟨(a, b), c, h⟩) hT).mono fun _ _ ⟨x, c, h⟩ => ⟨x.1, x.2, c, h⟩
theorem New.ofOwn {w : World} {r r' : Rc} (h : New w r.S r'.S) : ∀ k, r'.S k → (∃ x ∈ [r], x.S k) ∨ w.heap.size ≤ k := fun k hk => (h k hk).imp (fun h => ⟨r, List.mem_singleton.2 rfl, h⟩) id
theorem New.ofNone {w : World} {r' : Rc} (h : New w N0 r'.S) : ∀ k, r'.S k → (∃ x ∈ ([] : List Rc), x.S k) ∨ w.heap.size ≤ k := fun k hk => (h k hk).imp (fun h => h.elim) id
/-- A row is handed back. -/
theorem Does.oldRow {e1 sz n : Nat} {xs : List Value} (h : ∀ w, Hs w ro [] → Calls P f args w fun e w' => ∃ v', e = .returned v' ∧ Row w' e1 sz v' n xs ∧ Fr w w' N0 ∧ New w N0 (Own v')) :
    Does P f args ro [] (fun v H => ∃ (ao : Option Addr) (cap : Nat), v = .slice ao n cap ∧ H = [.row e1 sz ao n cap xs]) :=
  Does.old2 (v := fun (ao : Option Addr) (cap : Nat) => .slice ao n cap) (H' := fun (ao : Option Addr) (cap : Nat) => .row e1 sz ao n cap xs) N0 (fun w hw => (h w hw).mono fun e w' ⟨v', he, hR, hF, hN⟩ => by
    obtain ⟨ao, cap, rfl, _⟩ := hR.read
    exact ⟨ao, cap, he, hR, hF, New.ofNone hN⟩) (fun _ h => h.elim)
end
end Go.Alm
