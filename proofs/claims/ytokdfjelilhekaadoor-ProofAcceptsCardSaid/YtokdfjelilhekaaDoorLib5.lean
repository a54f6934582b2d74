/- Plain lemmas and laws of the machine that the walks use; without conditions of their own. -/
import Derived.Test.YtokdfjelilhekaaDoorLib4
import Derived.Test.YtokdfjelilhekaaDoorLib3
/- The machine's steps as laws: one line of a proof for each thing that acts. -/
namespace Go.Alm
open Go Go.RowKit

structure J (P : Program) (Q : Exit → Act → World → Prop) (L : List Iv) (s : St) (RO FZ OW : List Rc) : Prop where
  out : ∀ w, Hs w RO (FZ ++ OW) → den P Q L (fun w => ∀ r ∈ RO ++ FZ, r.A w) s w

def gr (H : List Rc) (i : Nat) : Rc := H.getD i (.rd none [])
theorem gr_A {H : List Rc} {w : World} (h : ∀ r ∈ H, r.A w) (i : Nat) : (gr H i).A w := by
  unfold gr
  rw [List.getD_eq_getElem?_getD]
  cases hi : H[i]? with
  | none => exact Rd.nil _ _
  | some r => exact h r (List.mem_of_getElem? hi)
def Rc.b : Rc → Nat | .blk b _ _ => b | _ => 0
def Rc.c : Rc → Array Value | .blk _ c _ => c | _ => #[]
def Rc.te : Rc → Nat | .blk _ _ t => t | _ => 0
def Rc.isBlk : Rc → Bool | .blk _ _ _ => true | _ => false
def Rc.ao : Rc → Option Addr | .rd ao _ => ao | .row _ _ ao _ _ _ => ao | .blk b _ _ => some ⟨b, 0, none⟩ | _ => none
def Rc.xs : Rc → List Value | .rd _ xs => xs | .row _ _ _ _ _ xs => xs | .blk _ c _ => c.toList | _ => []
def Rc.n : Rc → Nat | .row _ _ _ n _ _ => n | _ => 0
def Rc.cap : Rc → Nat | .row _ _ _ _ c _ => c | _ => 0
def Rc.e : Rc → Nat | .row e _ _ _ _ _ => e | _ => 0
def Rc.sz : Rc → Nat | .row _ s _ _ _ _ => s | _ => 0
def Rc.isRow : Rc → Bool | .row _ _ _ _ _ _ => true | _ => false
def Rc.isRd : Rc → Bool | .rd _ _ => true | .row _ _ _ _ _ _ => true | .blk _ _ _ => true | _ => false
theorem Rc.blk_eq {r : Rc} (h : r.isBlk = true) : r = .blk r.b r.c r.te := by cases r <;> first | rfl | cases h
theorem Rc.row_eq {r : Rc} (h : r.isRow = true) : r = .row r.e r.sz r.ao r.n r.cap r.xs := by cases r <;> first | rfl | cases h
theorem Rc.rd_of {r : Rc} (h : r.isRd = true) {w : World} (hA : r.A w) : Rd w r.ao r.xs := by
  cases r with
  | blk b c te => exact Rd.of_blk hA
  | rd ao xs => exact hA
  | row e sz ao n cap xs =>
    obtain ⟨ao', cap', hv, _, _, hR, _⟩ := Row.read hA
    cases hv; exact hR
  | gen r => cases h
theorem Rc.sub_ar {r : Rc} (h : r.isRd = true) {w : World} (hA : r.A w) : Sub (Ar r.ao r.xs) r.S := by
  cases r with
  | blk b c te => rintro k ⟨_, ad, he, rfl⟩; cases he; rfl
  | rd ao xs => exact Sub.refl _
  | row e sz ao n cap xs =>
    obtain ⟨ao', cap', hv, _, _, hR, ho⟩ := Row.read hA
    cases hv
    rintro k ⟨_, ad, he, rfl⟩
    exact (ho ad he).1
  | gen r => cases h

section
variable {P : Program} {Q : Exit → Act → World → Prop} {L : List Iv} {s : St} {RO FZ OW : List Rc}

theorem Hs.S {w : World} (h : Hs w RO (FZ ++ OW)) : ∀ r ∈ RO ++ FZ, r.A w := fun r hr => h.a r (by simp only [List.mem_append] at hr ⊢; rcases hr with h | h <;> simp [h])

/-- What is reckoned. -/
def pureCur (P : Program) (s : St) : Option Value := fastVal P s.a (cur s)
theorem pureCur_run {v : Value} (h : pureCur P s = some v) (w : World) : (execOp s.a.eval (cur s)).run P w = .ok (.value v) w := fastVal_run h w

theorem m_go (n : Nat) (k : J P Q L (go P n s) RO FZ OW) : J P Q L s RO FZ OW := ⟨fun w h => go_ok h.S n (k.out w h)⟩
theorem m_p (n : Nat) (v : Value) (h : ∀ w : World, (execOp (go P n s).a.eval (cur (go P n s))).run P w = .ok (.value v) w) (k : J P Q L (nx (go P n s) v) RO FZ OW) (hon : onW (go P n s) = true := by kernel_rfl) : J P Q L s RO FZ OW :=
  ⟨fun w hw => go_ok hw.S n (den_p hw.S hon h (k.out w hw))⟩
theorem m_as (n : Nat) (v v' : Value) (e : v = v') (k : J P Q L (nx (go P n s) v') RO FZ OW) (h : pureCur P (go P n s) = some v := by kernel_rfl) (hon : onW (go P n s) = true := by kernel_rfl) : J P Q L s RO FZ OW :=
  m_p n v' (fun w => e ▸ pureCur_run h w) k hon
theorem m_i (n : Nat) (kd : IntKind) (x y : Int) (e : x = y) (k : J P Q L (nx (go P n s) (.int kd y)) RO FZ OW) (h : pureCur P (go P n s) = some (.int kd x) := by kernel_rfl) (hon : onW (go P n s) = true := by kernel_rfl) : J P Q L s RO FZ OW :=
  m_as n _ _ (by rw [e]) k h hon
theorem m_i64 (n : Nat) (x : Int) (m : Nat) (e : x = (m : Int) ∧ m < 9223372036854775808) (k : J P Q L (nx (go P n s) (.int .i64 (m : Int))) RO FZ OW) (h : pureCur P (go P n s) = some (.int .i64 (IntKind.i64.wrap x)) := by kernel_rfl) (hon : onW (go P n s) = true := by kernel_rfl) : J P Q L s RO FZ OW :=
  m_i n .i64 _ _ (by rw [e.1]; exact wrapN_i64 (by omega) (by omega)) k h hon
theorem m_u64 (n : Nat) (x : Int) (m : Nat) (e : x = (m : Int) ∧ m < 18446744073709551616) (k : J P Q L (nx (go P n s) (.int .u64 (m : Int))) RO FZ OW) (h : pureCur P (go P n s) = some (.int .u64 (IntKind.u64.wrap x)) := by kernel_rfl) (hon : onW (go P n s) = true := by kernel_rfl) : J P Q L s RO FZ OW :=
  m_i n .u64 _ _ (by rw [e.1]; exact wrapN_u64 (by omega) (by omega)) k h hon
theorem m_u32 (n : Nat) (x : Int) (m : Nat) (e : x = (m : Int) ∧ m < 4294967296) (k : J P Q L (nx (go P n s) (.int .u32 (m : Int))) RO FZ OW) (h : pureCur P (go P n s) = some (.int .u32 (IntKind.u32.wrap x)) := by kernel_rfl) (hon : onW (go P n s) = true := by kernel_rfl) : J P Q L s RO FZ OW :=
  m_i n .u32 _ _ (by rw [e.1]; exact wrapN_u32 (by omega) (by omega)) k h hon
theorem m_u8 (n : Nat) (x : Int) (m : Nat) (e : x = (m : Int) ∧ m < 256) (k : J P Q L (nx (go P n s) (.int .u8 (m : Int))) RO FZ OW) (h : pureCur P (go P n s) = some (.int .u8 (IntKind.u8.wrap x)) := by kernel_rfl) (hon : onW (go P n s) = true := by kernel_rfl) : J P Q L s RO FZ OW :=
  m_i n .u8 _ _ (by rw [e.1]; exact wrapN_u8 (by omega) (by omega)) k h hon
/-- A number of another kind, as it is modulo its size. -/
theorem m_mod (n : Nat) (kd : IntKind) (x : Nat) (hk : kd.signed = false) (k : J P Q L (nx (go P n s) (.int kd ((x % 2 ^ kd.bits : Nat) : Int))) RO FZ OW) (h : pureCur P (go P n s) = some (.int kd (kd.wrap (x : Int))) := by kernel_rfl) (hon : onW (go P n s) = true := by kernel_rfl) : J P Q L s RO FZ OW :=
  m_i n kd _ _ (by simp [IntKind.wrap, hk]) k h hon

/-- A Bool that is reckoned: two ways. -/
theorem m_sp (n : Nat) (p : Prop) [Decidable p] (k1 : p → J P Q L (nx (go P n s) (.bool true)) RO FZ OW) (k2 : ¬ p → J P Q L (nx (go P n s) (.bool false)) RO FZ OW)
    (h : pureCur P (go P n s) = some (.bool (decide p)) := by kernel_rfl) (hon : onW (go P n s) = true := by kernel_rfl) : J P Q L s RO FZ OW := by
  by_cases hp : p
  · exact m_as n _ _ (by rw [decide_eq_true hp]) (k1 hp) h hon
  · exact m_as n _ _ (by rw [decide_eq_false hp]) (k2 hp) h hon
theorem m_spn (n : Nat) (p : Prop) [Decidable p] (k1 : p → J P Q L (nx (go P n s) (.bool false)) RO FZ OW) (k2 : ¬ p → J P Q L (nx (go P n s) (.bool true)) RO FZ OW)
    (h : pureCur P (go P n s) = some (.bool (!decide p)) := by kernel_rfl) (hon : onW (go P n s) = true := by kernel_rfl) : J P Q L s RO FZ OW := by
  by_cases hp : p
  · exact m_as n _ _ (by rw [decide_eq_true hp]; rfl) (k1 hp) h hon
  · exact m_as n _ _ (by rw [decide_eq_false hp]; rfl) (k2 hp) h hon
theorem m_spb (n : Nat) (b : Bool) (k1 : b = true → J P Q L (nx (go P n s) (.bool true)) RO FZ OW) (k2 : b = false → J P Q L (nx (go P n s) (.bool false)) RO FZ OW)
    (h : pureCur P (go P n s) = some (.bool b) := by kernel_rfl) (hon : onW (go P n s) = true := by kernel_rfl) : J P Q L s RO FZ OW := by
  cases b with
  | true => exact m_as n _ _ rfl (k1 rfl) h hon
  | false => exact m_as n _ _ rfl (k2 rfl) h hon

def condV (s : St) : Option Value := match s.ps with
  | .code (.cond o _ _) => some (s.a.eval o)
  | _ => none
def thn (s : St) : St := match s.ps with
  | .code (.cond _ x _) => ⟨.code x, s.K, s.a, s.r⟩
  | _ => s
def els (s : St) : St := match s.ps with
  | .code (.cond _ _ y) => ⟨.code y, s.K, s.a, s.r⟩
  | _ => s
theorem m_ifb (n : Nat) (b : Bool) (k1 : b = true → J P Q L (thn (go P n s)) RO FZ OW) (k2 : b = false → J P Q L (els (go P n s)) RO FZ OW) (h : condV (go P n s) = some (.bool b) := by kernel_rfl) : J P Q L s RO FZ OW := by
  refine m_go n ?_
  generalize go P n s = t at *
  obtain ⟨ps, K, a, r⟩ := t
  unfold condV at h
  split at h
  · rename_i o x y hps
    simp only at hps
    subst hps
    simp only [Option.some.injEq] at h
    cases b with
    | true => exact ⟨fun w hw => wpIn_cond_true h ((k1 rfl).out w hw)⟩
    | false => exact ⟨fun w hw => wpIn_cond_false h ((k2 rfl).out w hw)⟩
  · cases h
theorem m_if (n : Nat) (p : Prop) [Decidable p] (k1 : p → J P Q L (thn (go P n s)) RO FZ OW) (k2 : ¬ p → J P Q L (els (go P n s)) RO FZ OW) (h : condV (go P n s) = some (.bool (decide p)) := by kernel_rfl) : J P Q L s RO FZ OW :=
  m_ifb n (decide p) (fun e => k1 (of_decide_eq_true e)) (fun e => k2 (of_decide_eq_false e)) h
theorem m_ifn (n : Nat) (p : Prop) [Decidable p] (k1 : p → J P Q L (els (go P n s)) RO FZ OW) (k2 : ¬ p → J P Q L (thn (go P n s)) RO FZ OW) (h : condV (go P n s) = some (.bool (!decide p)) := by kernel_rfl) : J P Q L s RO FZ OW :=
  m_ifb n (!decide p) (fun e => k2 (of_decide_eq_false (by simpa using e))) (fun e => k1 (of_decide_eq_true (by simpa using e))) h

/-! ### reading -/
/-- Is the resource one that may be read here? -/
def rdOk (s : St) (i n : Nat) : Bool := acts s || (reads s && Nat.blt i n)
theorem m_r (n i : Nat) (v : Value) (h : ∀ w, (gr (RO ++ (FZ ++ OW)) i).A w → (execOp (go P n s).a.eval (cur (go P n s))).run P w = .ok (.value v) w) (k : J P Q L (nx (go P n s) v) RO FZ OW)
    (hon : onW (go P n s) = true) (hr : rdOk (go P n s) i (RO ++ FZ).length = true) : J P Q L s RO FZ OW := ⟨fun w hw => go_ok hw.S n (by
  unfold rdOk at hr
  rw [Bool.or_eq_true, Bool.and_eq_true] at hr
  rcases hr with hr | ⟨hr, hi⟩
  · exact den_r hw.S hr hon (h w (gr_A hw.a i)) (k.out w hw)
  · have hi' : i < (RO ++ FZ).length := by simpa using hi
    refine den_q hw.S hr hon (fun w' hS => h w' ?_) (k.out w hw)
    have := gr_A hS i
    unfold gr at this ⊢
    rw [List.getD_eq_getElem?_getD] at this ⊢
    rw [← List.append_assoc, List.getElem?_append_left hi']
    exact this)⟩

def ldT (s : St) : Nat := ((loadOf (cur s).op).getD (0, .tmp 0)).1
def ldX (s : St) : Operand := ((loadOf (cur s).op).getD (0, .tmp 0)).2
def offOf : Value → Nat | .pointer (some ad) => ad.off | _ => 0
def blkOf : Value → Nat | .pointer (some ad) => ad.block | _ => 0
def ldO (s : St) : Nat := offOf (s.a.eval (ldX s))
def ldV (P : Program) (s : St) (r : Rc) : Value := match rowed P (ldT s) with
  | some true => .agg (ext r.c (ldO s) ((sizeT P (ldT s)).getD 0))
  | _ => (r.c.toList[ldO s]?).getD undef
def ldOk (P : Program) (s : St) (r : Rc) : Bool := (loadOf (cur s).op).isSome && r.isBlk && match rowed P (ldT s) with
  | some true => (sizeT P (ldT s)).isSome && Nat.ble (ldO s + (sizeT P (ldT s)).getD 0) r.c.size
  | some false => (r.c.toList[ldO s]?).isSome
  | none => false
theorem ld_run {s : St} {r : Rc} {w : World} (h1 : s.a.eval (ldX s) = .pointer (some ⟨r.b, ldO s, none⟩)) (h2 : ldOk P s r = true) (hA : r.A w) : (execOp s.a.eval (cur s)).run P w = .ok (.value (ldV P s r)) w := by
  unfold ldOk at h2
  simp only [Bool.and_eq_true] at h2
  obtain ⟨⟨h3, h4⟩, h5⟩ := h2
  have hb : w.heap[r.b]? = some (.cells r.c r.te (0, 0)) := by rw [Rc.blk_eq h4] at hA; exact hA
  have ho : loadOf (cur s).op = some (ldT s, ldX s) := by
    unfold ldT ldX
    cases hl : loadOf (cur s).op with
    | none => rw [hl] at h3; cases h3
    | some x => rfl
  unfold ldV
  cases hr : rowed P (ldT s) with
  | none => rw [hr] at h5; cases h5
  | some b =>
    rw [hr] at h5
    cases b with
    | true =>
      simp only [Bool.and_eq_true] at h5
      obtain ⟨h6, h7⟩ := h5
      cases hn : sizeT P (ldT s) with
      | none => rw [hn] at h6; cases h6
      | some n =>
        rw [hn] at h7
        exact run_loadN _ _ _ _ n _ _ _ _ ho hr hn h1 hb h7 (ext_eq _ _ _)
    | false =>
      simp only [Array.getElem?_toList] at h5 ⊢
      cases hc : r.c[ldO s]? with
      | none => rw [hc] at h5; cases h5
      | some v => exact run_load1 _ _ _ _ _ _ _ v ho hr h1 hb hc
/-- A load from a block whose cells are known. -/
theorem m_ld (n i : Nat) (k : J P Q L (nx (go P n s) (ldV P (go P n s) (gr (RO ++ (FZ ++ OW)) i))) RO FZ OW)
    (h1 : (go P n s).a.eval (ldX (go P n s)) = .pointer (some ⟨(gr (RO ++ (FZ ++ OW)) i).b, ldO (go P n s), none⟩) := by kernel_rfl)
    (h2 : (ldOk P (go P n s) (gr (RO ++ (FZ ++ OW)) i) && (onW (go P n s) && rdOk (go P n s) i (RO ++ FZ).length)) = true := by kernel_rfl) : J P Q L s RO FZ OW := by
  simp only [Bool.and_eq_true] at h2
  exact m_r n i _ (fun w hA => ld_run h1 h2.1 hA) k h2.2.1 h2.2.2

/-! ### making and writing -/
theorem m_act (n : Nat) (h : ∀ w, Hs w RO (FZ ++ OW) → ∀ Q', OpW P (cur (go P n s)) (go P n s).a w (fun a' w' => ∃ v OW', a' = (go P n s).a.put (cur (go P n s)).dst v ∧ Hs w' RO (FZ ++ OW') ∧ J P Q L (nx (go P n s) v) RO FZ OW') Q')
    (hc : (acts (go P n s) && onW (go P n s)) = true) : J P Q L s RO FZ OW := by
  simp only [Bool.and_eq_true] at hc
  refine ⟨fun w hw => go_ok hw.S n (den_act hc.1 hc.2 fun Q' => ⟨Oper.wp_mono ?_ (h w hw Q').out⟩)⟩
  rintro a' w' ⟨v, OW', rfl, hw', hj⟩
  exact ⟨v, rfl, hw'.S, hj.out w' hw'⟩

theorem Hs.split {w : World} {A : List Rc} {r : Rc} {B : List Rc} (h : Hs w RO (A ++ r :: B)) : Hs w RO ([r] ++ (A ++ B)) := h.perm (by
  simp only [List.singleton_append]
  exact List.perm_middle.symm)
theorem set_split {OW : List Rc} {i : Nat} {r : Rc} (h : OW[i]? = some r) (r' : Rc) : OW = OW.take i ++ r :: OW.drop (i + 1) ∧ OW.set i r' = OW.take i ++ r' :: OW.drop (i + 1) := by
  obtain ⟨hi, he⟩ := List.getElem?_eq_some_iff.1 h
  constructor
  · conv => lhs; rw [← List.take_append_drop i OW, List.drop_eq_getElem_cons hi, he]
  · rw [List.set_eq_take_append_cons_drop, if_pos hi]
/-- A step that touches one resource. -/
theorem Hs.set {w w' : World} {i : Nat} {r r' : Rc} (h : Hs w RO (FZ ++ OW)) (hi : OW[i]? = some r) (F : Fr w w' r.S) (ha : r'.A w') (hn : New w r.S r'.S) : Hs w' RO (FZ ++ OW.set i r') := by
  obtain ⟨e1, e2⟩ := set_split hi r'
  rw [e2]
  have h' : Hs w RO (FZ ++ (OW.take i ++ r :: OW.drop (i + 1))) := by rw [← e1]; exact h
  rw [← List.append_assoc] at h' ⊢
  have := Hs.step (r' := [r']) h'.split F (fun k hk => .inl ⟨r, List.mem_singleton.2 rfl, hk⟩) (fun x hx => by rw [List.mem_singleton.1 hx]; exact ha)
    (fun x hx k hk => by rw [List.mem_singleton.1 hx] at hk; exact (hn k hk).imp (fun h => ⟨r, List.mem_singleton.2 rfl, h⟩) id) (List.pairwise_singleton _ _)
  refine this.perm ?_
  simp only [List.singleton_append]
  exact List.perm_middle
/-- A step that touches nothing. -/
theorem Hs.keep {w w' : World} (h : Hs w RO OW) (F : Fr w w' N0) : Hs w' RO OW := by
  have := Hs.step (A := []) (B := OW) (r' := []) (by simpa using h) F (fun _ h => h.elim) (by simp) (by simp) List.Pairwise.nil
  simpa using this
theorem Hs.new {w w' : World} {r : Rc} (h : Hs w RO (FZ ++ OW)) (F : Fr w w' N0) (ha : r.A w') (hn : ∀ k, r.S k → w.heap.size ≤ k) : Hs w' RO (FZ ++ (r :: OW)) := by
  have := Hs.step (A := []) (B := FZ ++ OW) (r' := [r]) (by simpa using h) F (fun _ h => h.elim) (by simpa using ha) (fun x hx k hk => by rw [List.mem_singleton.1 hx] at hk; exact .inr (hn k hk)) (List.pairwise_singleton _ _)
  exact this.perm List.perm_middle

def newC (P : Program) (s : St) : Array Value := match newStep P s.a (cur s) 0 with | some (.cells c _ _, _) => c | _ => #[]
def newT (P : Program) (s : St) : Nat := match newStep P s.a (cur s) 0 with | some (.cells _ t _, _) => t | _ => 0
def newV (P : Program) (s : St) (N : Nat) : Value := match newStep P s.a (cur s) N with | some (_, v) => v | _ => undef
theorem m_new (n : Nat) (k : ∀ b, J P Q L (nx (go P n s) (newV P (go P n s) b)) RO FZ (.blk b (newC P (go P n s)) (newT P (go P n s)) :: OW))
    (h : ∀ N, newStep P (go P n s).a (cur (go P n s)) N = some (.cells (newC P (go P n s)) (newT P (go P n s)) (0, 0), newV P (go P n s) N) := by intro _; kernel_rfl) (hc : (acts (go P n s) && onW (go P n s)) = true := by kernel_rfl) : J P Q L s RO FZ OW :=
  m_act n (fun w hw _ => op_new _ _ h fun w' b hb he F => ⟨_, _, rfl, Hs.new (r := .blk b _ _) hw F hb (fun i hi => by rw [show i = b from hi, he]; exact Nat.le_refl _), k b⟩) hc

def stT (s : St) : Nat := ((storeOf (cur s).op).getD (0, .tmp 0, .tmp 0)).1
def stX (s : St) : Operand := ((storeOf (cur s).op).getD (0, .tmp 0, .tmp 0)).2.1
def stY (s : St) : Value := s.a.eval ((storeOf (cur s).op).getD (0, .tmp 0, .tmp 0)).2.2
def stO (s : St) : Nat := offOf (s.a.eval (stX s))
def stOk (P : Program) (s : St) (r : Rc) : Bool := (storeOf (cur s).op).isSome && r.isBlk && ((sizeT P (stT s)) == some (stY s).cells.size) && Nat.ble (stO s + (stY s).cells.size) r.c.size && (stY s).cells.toList.all (·.oneCell')
theorem gr_some {H : List Rc} {i : Nat} (h : (gr H i).isBlk = true) : H[i]? = some (gr H i) := by
  unfold gr at h ⊢
  rw [List.getD_eq_getElem?_getD] at h ⊢
  cases hi : H[i]? with
  | none => rw [hi] at h; cases h
  | some r => rfl
/-- A store into a block whose cells are known. -/
theorem m_st (n i : Nat) (k : J P Q L (nx (go P n s) undef) RO FZ (OW.set i (.blk (gr OW i).b (spl (gr OW i).c (stO (go P n s)) (stY (go P n s)).cells) (gr OW i).te)))
    (h1 : (go P n s).a.eval (stX (go P n s)) = .pointer (some ⟨(gr OW i).b, stO (go P n s), none⟩) := by kernel_rfl)
    (h2 : (stOk P (go P n s) (gr OW i) && (acts (go P n s) && onW (go P n s))) = true := by kernel_rfl) : J P Q L s RO FZ OW := by
  rw [Bool.and_eq_true] at h2
  refine m_act n (fun w hw _ => ?_) h2.2
  have h2 := h2.1
  unfold stOk at h2
  simp only [Bool.and_eq_true, beq_iff_eq] at h2
  obtain ⟨⟨⟨⟨h3, h4⟩, h5⟩, h6⟩, h7⟩ := h2
  have hi := gr_some h4
  have hA : (gr OW i).A w := hw.a _ (by simp only [List.mem_append]; exact .inr (.inr (List.mem_of_getElem? hi)))
  have hS : (gr OW i).S = One (gr OW i).b := by rw [Rc.blk_eq h4]; rfl
  have ho : storeOf (cur (go P n s)).op = some (stT (go P n s), stX (go P n s), ((storeOf (cur (go P n s)).op).getD (0, .tmp 0, .tmp 0)).2.2) := by
    unfold stT stX
    cases hl : storeOf (cur (go P n s)).op with
    | none => rw [hl] at h3; cases h3
    | some x => rfl
  rw [Rc.blk_eq h4] at hA
  refine op_store _ _ _ _ _ (stY (go P n s)) _ _ _ ho h1 rfl hA h5 h6 h7 rfl fun w' hb hz F => ⟨_, _, rfl, Hs.set (r' := .blk _ _ _) hw hi (by rw [hS]; exact F) hb ?_, k⟩
  rw [hS]
  exact New.refl _ _

/-! ### calls -/
/-- What a function does: it borrows `ro`, takes `own`, and hands back what `R` tells. -/
def Does (P : Program) (f : Nat) (args : Array Value) (ro own : List Rc) (R : Value → List Rc → Prop) : Prop :=
  ∀ (F : Re) (w : World), Hs w (.gen F :: ro) own → Calls P f args w fun e w' => ∃ v H, R v H ∧ e = .returned v ∧ Hs w' [.gen F] H
def fnOf (P : Program) (f : Nat) : Func := (P.funcs[f]?).getD default
def DoesPost (P : Program) (f : Nat) (F : Re) (R : Value → List Rc → Prop) : Exit → Act → World → Prop := bodyPost P (fnOf P f) fun e w' => ∃ v H, R v H ∧ e = .returned v ∧ Hs w' [.gen F] H
def start (P : Program) (f : Nat) (args : Array Value) : St := ⟨.code (bodyOf P f), [], ⟨args ++ Array.replicate ((fnOf P f).ntmps - args.size) undef, []⟩, none⟩
theorem m_fn {f : Nat} {args : Array Value} {ro own : List Rc} {R : Value → List Rc → Prop} (k : ∀ F, J P (DoesPost P f F R) [] (start P f args) (.gen F :: ro) [] own)
    (h : ((P.funcs[f]?).isSome && (fnOf P f).body.isSome) = true := by kernel_rfl) : Does P f args ro own R := by
  intro F w hw
  rw [Bool.and_eq_true] at h
  cases hf : P.funcs[f]? with
  | none => rw [hf] at h; cases h.1
  | some fn =>
    have e1 : fnOf P f = fn := by simp [fnOf, hf]
    rw [e1] at h
    cases hbo : fn.body with
    | none => rw [hbo] at h; cases h.2
    | some c =>
      refine calls_of_wp hf hbo ?_
      have hk := (k F).out w hw
      unfold DoesPost start at hk
      rw [e1] at hk
      have e2 : bodyOf P f = c := by simp [bodyOf, hf, hbo]
      rw [e2] at hk
      exact wpIn_wide.1 hk

structure View (a b : Rc) : Prop where
  A : ∀ w, a.A w → b.A w ∧ Sub b.S a.S
theorem View.refl {a b : Rc} (h : a = b := by kernel_rfl) : View a b := by subst h; exact ⟨fun w h => ⟨h, Sub.refl _⟩⟩
theorem View.rd {a b : Rc} (h : a.isRd = true := by kernel_rfl) (e : b = .rd a.ao a.xs := by kernel_rfl) : View a b := by
  subst e
  exact ⟨fun w hA => ⟨Rc.rd_of h hA, Rc.sub_ar h hA⟩⟩
theorem View.cut {a b : Rc} (off n : Nat) (h : a.isBlk = true := by kernel_rfl) (e : b = .rd (some ⟨a.b, off, none⟩) ((a.c.toList.drop off).take n) := by kernel_rfl) : View a b := by
  subst e
  refine ⟨fun w hA => ?_⟩
  rw [Rc.blk_eq h] at hA ⊢
  exact ⟨Rd.of_cut hA off n rfl, Sub.arOne⟩
theorem View.eq {a b c : Rc} (h : View a b) (e : b = c) : View a c := e ▸ h
/-- A digest's bytes within a block. -/
theorem View.hv {a : Rc} {b : Nat} (off : Nat) (l : List Nat) (hl : l.length = 32) (h : a.isBlk = true := by kernel_rfl) (hb : a.b = b := by kernel_rfl) (e : (a.c.toList.drop off).take 32 = (hv l).toList := by kernel_rfl) : View a (.rd (some ⟨b, off, none⟩) (B l)) := by
  subst hb
  refine View.eq (View.cut off 32 h rfl) ?_
  rw [e, hv_B hl]
theorem gr_S {H : List Rc} {i : Nat} {k : Nat} (h : (gr H i).S k) : ∃ x ∈ H, x.S k := by
  unfold gr at h
  rw [List.getD_eq_getElem?_getD] at h
  cases hi : H[i]? with
  | none => rw [hi] at h; exact absurd rfl h.1
  | some x => rw [hi] at h; exact ⟨x, List.mem_of_getElem? hi, h⟩
/-- What is told of more than one. -/
def HView (H : List Rc) (r : Rc) : Prop := ∀ w, (∀ x ∈ H, x.A w) → r.A w ∧ ∀ k, r.S k → ∃ x ∈ H, x.S k
inductive Vs (H : List Rc) : List Rc → Prop
  | nil : Vs H []
  | cons {r : Rc} {l : List Rc} (i : Nat) (v : View (gr H i) r) (t : Vs H l) : Vs H (r :: l)
  | consH {r : Rc} {l : List Rc} (v : HView H r) (t : Vs H l) : Vs H (r :: l)
theorem Vs.spec {H l : List Rc} (h : Vs H l) {w : World} (hA : ∀ r ∈ H, r.A w) : ∀ r ∈ l, r.A w ∧ ∀ k, r.S k → ∃ x ∈ H, x.S k := by
  induction h with
  | nil => simp
  | cons i v t ih =>
    intro r hr
    rcases List.mem_cons.1 hr with rfl | hr
    · obtain ⟨h1, h2⟩ := v.A w (gr_A hA i)
      exact ⟨h1, fun k hk => gr_S (h2 k hk)⟩
    · exact ih r hr
  | consH v t ih =>
    intro r hr
    rcases List.mem_cons.1 hr with rfl | hr
    · exact v w hA
    · exact ih r hr

/-- All of a list, as one. -/
def star (H : List Rc) : Re := ⟨fun k => ∃ r ∈ H, r.S k, fun w => ∀ r ∈ H, r.A w, fun _ h k ⟨r, hr, hk⟩ => r.inn (h r hr) k hk, fun _ _ _ h F d r hr => r.keep (h r hr) F fun k hk => d k ⟨r, hr, hk⟩⟩

def callC (s : St) : Option (Nat × Array Value) := (callOf (cur s).op).map fun x => (x.1, x.2.map s.a.eval)
theorem m_call (n : Nat) (idx : List Nat) {f : Nat} {args : Array Value} {ro own : List Rc} {R : Value → List Rc → Prop} (sp : Does P f args ro own R) (vs : Vs (RO ++ (FZ ++ (pick idx OW).2)) ro)
    (k : ∀ v H, R v H → J P Q L (nx (go P n s) v) RO FZ (H ++ (pick idx OW).2))
    (hc : callC (go P n s) = some (f, args) := by kernel_rfl) (ho : (pick idx OW).1 = own := by kernel_rfl) (h2 : (hasBody P f && (acts (go P n s) && onW (go P n s))) = true := by kernel_rfl) : J P Q L s RO FZ OW := by
  rw [Bool.and_eq_true] at h2
  refine m_act n (fun w hw _ => ?_) h2.2
  have hp := pick_perm idx OW
  rw [ho] at hp
  generalize (pick idx OW).2 = rest at *
  unfold callC at hc
  cases hcall : callOf (cur (go P n s)).op with
  | none => rw [hcall] at hc; cases hc
  | some x =>
    rw [hcall] at hc
    simp only [Option.map_some, Option.some.injEq, Prod.mk.injEq] at hc
    obtain ⟨hf, ha⟩ := hc
    have hw1 : Hs w RO (own ++ (FZ ++ rest)) := hw.perm (by
      refine List.Perm.trans ?_ (hp.append_left FZ)
      exact List.perm_append_comm_assoc _ _ _)
    have hpw := List.pairwise_append.1 hw1.p
    have hrest : ∀ r ∈ RO ++ (FZ ++ rest), r.A w := fun r hr => hw1.a r (by simp only [List.mem_append] at hr ⊢; rcases hr with h | h | h <;> simp [h])
    have hdis : ∀ r ∈ RO ++ (FZ ++ rest), ∀ o ∈ own, DD r o := fun r hr o ho => by
      rcases List.mem_append.1 hr with hr | hr
      · exact hw1.d r hr o (List.mem_append_left _ ho)
      · exact (hpw.2.2 o ho r hr).symm
    have hF : Hs w (.gen (star (RO ++ (FZ ++ rest))) :: ro) own := by
      refine ⟨fun r hr => ?_, fun r hr o ho => ?_, hpw.1⟩
      · rcases List.mem_append.1 hr with hr | hr
        · rcases List.mem_cons.1 hr with rfl | hr
          · exact hrest
          · exact (vs.spec hrest r hr).1
        · exact hw1.a r (by simp [hr])
      · rcases List.mem_cons.1 hr with rfl | hr
        · rintro i ⟨x, hx, hi⟩
          exact hdis x hx o ho i hi
        · intro i hi hi'
          obtain ⟨x, hx, h⟩ := (vs.spec hrest r hr).2 i hi
          exact hdis x hx o ho i h hi'
    refine op_call x.1 x.2 args hcall ha (by rw [hf]; exact h2.1) ?_
    rw [hf]
    refine (sp _ w hF).mono fun e w' ⟨v, H, hR, he, hH⟩ => ⟨v, he, v, _, rfl, ?_, k v H hR⟩
    have hall : ∀ r ∈ RO ++ (FZ ++ rest), r.A w' := hH.a (.gen (star (RO ++ (FZ ++ rest)))) (by simp)
    have hd2 : ∀ r ∈ RO ++ (FZ ++ rest), ∀ o ∈ H, DD r o := fun r hr o ho i hi => hH.d (.gen (star (RO ++ (FZ ++ rest)))) (by simp) o ho i ⟨r, hr, hi⟩
    have fin : Hs w' RO (H ++ (FZ ++ rest)) := by
      refine ⟨fun r hr => ?_, fun r hr o ho => ?_, ?_⟩
      · simp only [List.mem_append] at hr
        rcases hr with hr | hr | hr
        · exact hall r (by simp [hr])
        · exact hH.a r (by simp [hr])
        · exact hall r (by simp only [List.mem_append]; exact .inr hr)
      · rcases List.mem_append.1 ho with ho | ho
        · exact hd2 r (by simp [hr]) o ho
        · exact hw1.d r hr o (List.mem_append_right _ ho)
      · refine List.pairwise_append.2 ⟨hH.p, hpw.2.1, fun o ho r hr => (hd2 r (List.mem_append_right _ hr) o ho).symm⟩
    exact fin.perm (List.perm_append_comm_assoc _ _ _)

/-! ### the end -/
def outOk (s : St) : Bool := (match s.ps with | .out .ret => true | .out .normal => true | _ => false) && s.K.isEmpty && s.a.defers.isEmpty
theorem m_ret {f : Nat} {F : Re} {R : Value → List Rc → Prop} {ro : List Rc} (n : Nat) (v : Value) (idx : List Nat) (hR : R v (pick idx OW).1) (h1 : outOk (go P n s) = true := by kernel_rfl)
    (hr : pureVal P (results (fnOf P f) (go P n s).a.tmps) = some v := by kernel_rfl) : J P (DoesPost P f F R) L s (.gen F :: ro) [] OW := by
  refine m_go n ?_
  generalize go P n s = t at *
  obtain ⟨ps, K, a, r⟩ := t
  unfold outOk at h1
  simp only [Bool.and_eq_true, List.isEmpty_iff] at h1
  obtain ⟨⟨h2, h3⟩, h4⟩ := h1
  have hp := pick_perm idx OW
  have fin : ∀ w, Hs w (.gen F :: ro) ([] ++ OW) → Hs w [.gen F] (pick idx OW).1 := fun w hw => ((hw.perm hp).own).ro (by simp)
  refine ⟨fun w hw => ?_⟩
  subst h3
  cases ps with
  | out e =>
    cases e with
    | normal => exact ⟨h4, v, pureVal_run hr w, v, _, hR, rfl, fin w hw⟩
    | ret => exact ⟨h4, v, pureVal_run hr w, v, _, hR, rfl, fin w hw⟩
    | _ => cases h2
  | _ => cases h2

/-! ### loops -/
def Inv {X : Type} (nt : Nat) (C : X → Prop) (l : X → List (Nat × Value)) (RO : List Rc) (G : X → List Rc) : Iv := fun a w => ∃ y u, C y ∧ a = mk nt (l y) u ∧ Hs w RO (G y)
theorem wp_loopX {X : Type} {F : Fence} {c : Code} {w : World} {a : Act} (I : X → Act → World → Prop) (μ : X → Nat) (x0 : X) (h0 : I x0 a w)
    (round : ∀ x a w, I x a w → c.wpIn F 0 P (Exit.then (fun a' w' => ∃ y, μ y < μ x ∧ I y a' w') Q) a w) : (Code.loop c).wpIn F 0 P Q a w := by
  intro b k cs hro hb hr
  have key : ∀ n x a w, μ x = n → I x a w → ∃ e a' w', Q e a' w' ∧ ArrivesIn (Machine.fenced P F) P (lone (b.atR a (.code c :: .inLoop c :: k)) cs w) b k cs e a' w' := by
    intro n
    induction n using Nat.strongRecOn with
    | _ n ih =>
      intro x a w hn hI
      obtain ⟨e, a₁, w₁, hq, harr⟩ := round x a w hI b (.inLoop c :: k) cs hro hb hr
      cases e with
      | normal =>
        obtain ⟨y, hlt, hI₁⟩ := hq
        obtain ⟨e₂, a₂, w₂, hq₂, harr₂⟩ := ih (μ y) (hn ▸ hlt) y a₁ w₁ rfl hI₁
        exact ⟨e₂, a₂, w₂, hq₂, .of_steps (StepsIn.trans harr (.one (fenced_calm hb hr rfl) stepR_inLoop)) harr₂⟩
      | exit id => exact ⟨_, a₁, w₁, hq, .pass (x := .inLoop c) rfl (fun _ _ => .inl (by simp)) harr⟩
      | goto l => exact ⟨_, a₁, w₁, hq, .pass (x := .inLoop c) rfl (fun _ _ => .inl (by simp)) harr⟩
      | ret => exact ⟨_, a₁, w₁, hq, .pass (x := .inLoop c) rfl (fun _ _ => .inl (by simp)) harr⟩
      | panic ch => exact ⟨_, a₁, w₁, hq, .pass (x := .inLoop c) rfl (fun _ _ => .inl (by simp)) harr⟩
      | outgrown => exact ⟨_, a₁, w₁, hq, .pass (x := .inLoop c) rfl (fun _ _ => .inl (by simp)) harr⟩
  obtain ⟨e, a', w', hq, harr⟩ := key _ x0 a w rfl h0
  exact ⟨e, a', w', hq, .of_steps (.one (fenced_calm hb hr rfl) stepR_loop) harr⟩
def lv (a : Act) (live : List Nat) : List (Nat × Value) := live.map fun i => (i, a.eval (.tmp i))
def lbody (s : St) : Code := match s.ps with | .code (.loop c) => c | _ => .skip
def isLoop (s : St) (n : Nat) : Bool := (match s.ps with | .code (.loop _) => true | _ => false) && Nat.beq (lps s.K) n && s.a.defers.isEmpty
theorem m_loop {X : Type} (n : Nat) (live : List Nat) (up : X → List (Nat × Value)) (idx : List Nat) (HI : X → List Rc) (φ : X → Prop) (μ : X → Nat) (x0 : X) (h0 : φ x0)
    (k : ∀ x u, φ x → J P Q (Inv (go P n s).a.tmps.size (fun y => φ y ∧ μ y < μ x) (fun y => lv (go P n s).a live ++ up y) RO (fun y => HI y ++ (pick idx OW).2) :: L)
      ⟨.code (lbody (go P n s)), .lp :: (go P n s).K, mk (go P n s).a.tmps.size (lv (go P n s).a live ++ up x) u, (go P n s).r⟩ RO [] (HI x ++ (pick idx OW).2))
    (h1 : isLoop (go P n s) L.length = true := by kernel_rfl) (h2 : (up x0).map (fun x => (go P n s).a.eval (.tmp x.1)) = (up x0).map (·.2) := by kernel_rfl) (h3 : (pick idx OW).1 = HI x0 := by kernel_rfl) : J P Q L s RO [] OW := by
  refine m_go n ?_
  have hp := pick_perm idx OW
  rw [h3] at hp
  generalize (pick idx OW).2 = rest at *
  generalize go P n s = t at *
  obtain ⟨ps, K, a, r⟩ := t
  unfold isLoop at h1
  simp only [Bool.and_eq_true, List.isEmpty_iff] at h1
  obtain ⟨⟨h4, h5⟩, h6⟩ := h1
  have h5 := Nat.eq_of_beq_eq_true h5
  cases ps with
  | code c =>
    cases c with
    | loop c =>
      refine ⟨fun w hw => ?_⟩
      refine wp_loopX (fun x a' w' => φ x ∧ (∃ u, a' = mk a.tmps.size (lv a live ++ up x) u) ∧ Hs w' RO (HI x ++ rest)) μ x0 ⟨h0, ?_, hw.perm hp⟩ ?_
      · refine is_mk rfl h6 ?_
        rw [List.map_append, List.map_append, h2]
        congr 1
        simp [lv]
      · rintro x a' w' ⟨hx, ⟨u, rfl⟩, hH⟩
        have hj := (k x u hx).out w' hH
        simp only [den, post, lbody] at hj
        rw [h5, ivAt_top, post_old _ (by omega)] at hj
        refine Code.wpIn_mono (fun e a' w' hq => ?_) hj
        cases e with
        | normal =>
          obtain ⟨y, u, hC, ha, hH⟩ := hq
          exact ⟨y, hC.2, hC.1, ⟨u, ha⟩, hH⟩
        | _ => exact hq
    | _ => cases h4
  | _ => cases h4
def isBack (s : St) (n : Nat) : Bool := (match s.ps with | .out .normal => true | _ => false) && (match s.K with | .lp :: K => Nat.beq (lps K) n | _ => false) && s.a.defers.isEmpty
theorem m_back {X : Type} {nt : Nat} {C : X → Prop} {l : X → List (Nat × Value)} {G : X → List Rc} (n : Nat) (y : X) (idx : List Nat) (hC : C y) (h1 : isBack (go P n s) L.length = true := by kernel_rfl) (hs : (go P n s).a.tmps.size = nt := by kernel_rfl)
    (hl : (l y).map (fun x => (go P n s).a.eval (.tmp x.1)) = (l y).map (·.2) := by kernel_rfl) (hH : (pick idx OW).1 = G y := by kernel_rfl) : J P Q (Inv nt C l RO G :: L) s RO [] OW := by
  refine m_go n ?_
  have hp := pick_perm idx OW
  rw [hH] at hp
  generalize go P n s = t at *
  obtain ⟨ps, K, a, r⟩ := t
  unfold isBack at h1
  simp only [Bool.and_eq_true, List.isEmpty_iff] at h1
  obtain ⟨⟨h4, h5⟩, h6⟩ := h1
  refine ⟨fun w hw => ?_⟩
  cases ps with
  | out e =>
    cases e with
    | normal =>
      cases K with
      | nil => cases h5
      | cons x K =>
        cases x with
        | lp =>
          simp only [den, post, Exit.then]
          rw [Nat.eq_of_beq_eq_true h5, ivAt_top]
          obtain ⟨u, hu⟩ := is_mk (a := a) hs h6 hl
          exact ⟨y, u, hC, hu, (hw.perm hp).own⟩
        | _ => cases h5
    | _ => cases h4
  | _ => cases h4
/-- A loop was left. -/
theorem m_trim {R : Iv} (n : Nat) (k : J P Q L (go P n s) RO FZ OW) (h : Nat.ble (lps (go P n s).K) L.length = true := by kernel_rfl) : J P Q (R :: L) s RO FZ OW :=
  m_go n ⟨fun w hw => by rw [den_old R (Nat.le_of_ble_eq_true h)]; exact k.out w hw⟩

def isCode (s : St) : Bool := match s.ps with | .code _ => true | _ => false
/-! ### regions whose order is open -/
def plOps (s : St) : Array Oper := match s.ps with | .code (.region _ ops true) => ops | _ => #[]
def isDraw (s : St) : Bool := match s.ps with | .code (.region _ _ true) => true | _ => false
theorem m_plan (n : Nat) (sk : List Nat) (π : PT) (idx : List Nat) (k : J P Q L ⟨.pl (plOps (go P n s)) sk π, (go P n s).K, (go P n s).a, none⟩ RO (pick idx OW).1 (pick idx OW).2)
    (h : (isDraw (go P n s) && (go P n s).r.isNone && P.follows .mixedOrders && Region.noSelect (plOps (go P n s)) && Nat.beq π.len (plOps (go P n s)).size && treeC (plOps (go P n s)) sk π) = true := by kernel_rfl) : J P Q L s RO [] OW := by
  refine m_go n ?_
  generalize go P n s = t at *
  obtain ⟨ps, K, a, r⟩ := t
  simp only [Bool.and_eq_true] at h
  obtain ⟨⟨⟨⟨⟨h1, h0⟩, h2⟩, h3⟩, h4⟩, h5⟩ := h
  obtain rfl : r = none := by simpa using h0
  have h4 := Nat.eq_of_beq_eq_true h4
  have hp := pick_perm idx OW
  cases ps with
  | code c =>
    cases c with
    | region id ops d =>
      cases d with
      | false => cases h1
      | true =>
        simp only [plOps] at h3 h4 h5 k
        refine ⟨fun w hw => ?_⟩
        refine wpIn_wide.2 (Code.wp_mono (Q := OnlyN (fun a w => post P Q L none K .normal a w)) (fun e a w hq => by cases e <;> first | exact hq | exact hq.elim) ?_)
        refine wp_region_any h2 (wpAny_of_P (S := fun w => ∀ r ∈ RO ++ (pick idx OW).1, r.A w) (sk := fun i => sk.contains i) _ _ _ _ ?_)
        rw [← h4]
        refine (tree_any h3 (fun _ _ _ h => h) π false _ a _ (fun j oj _ hl => ?_) (fun h => by cases h) (h4 ▸ treeC_ok h5) ?_).1 rfl
        · rw [getD_rep] at hl; cases hl
        · exact k.out _ ((hw.perm hp).keep (Fr.refl _ _).drew)
    | _ => cases h1
  | _ => cases h1
def noPl (s : St) : Bool := match s.ps with
  | .pl _ sk π => π.free fun i => sk.contains i
  | _ => true
theorem den_S {S S' : World → Prop} {w : World} (h : noPl s = true) (k : den P Q L S' s w) : den P Q L S s w := by
  obtain ⟨ps, K, a, r⟩ := s
  cases ps with
  | pl ops sk π => exact tree_S π _ _ h k
  | _ => exact k
def forkL (s : St) : St := match s.ps with
  | .pl ops sk (.f x _) => ⟨.pl ops sk x, s.K, s.a, s.r⟩
  | _ => s
def forkR (s : St) : St := match s.ps with
  | .pl ops sk (.f _ y) => ⟨.pl ops sk y, s.K, s.a, s.r⟩
  | _ => s
def isFork (s : St) : Bool := match s.ps with
  | .pl _ _ (.f _ _) => true
  | _ => false
/-- Two that act are ready: either first. -/
theorem m_fork (n : Nat) (k1 : J P Q L (forkL (go P n s)) RO FZ OW) (k2 : J P Q L (forkR (go P n s)) RO FZ OW) (h : isFork (go P n s) = true := by kernel_rfl) : J P Q L s RO FZ OW := by
  refine m_go n ?_
  generalize go P n s = t at *
  obtain ⟨ps, K, a, r⟩ := t
  cases ps with
  | pl ops sk π =>
    cases π with
    | f x y => exact ⟨fun w hw => ⟨k1.out w hw, k2.out w hw⟩⟩
    | _ => cases h
  | _ => cases h
/-- What follows is shown once. -/
theorem m_cut {X : Type} (n : Nat) (live : List Nat) (up : X → List (Nat × Value)) (HI : X → List Rc) (φ : X → Prop)
    (k1 : J P Q (Inv (go P n s).a.tmps.size φ (fun y => lv (go P n s).a live ++ up y) RO HI :: L) ⟨(go P n s).ps, .lp :: (go P n s).K, (go P n s).a, (go P n s).r⟩ RO [] OW)
    (k2 : ∀ x u, φ x → J P Q L ⟨.out .normal, (go P n s).K, mk (go P n s).a.tmps.size (lv (go P n s).a live ++ up x) u, (go P n s).r⟩ RO [] (HI x))
    (h1 : (isCode (go P n s) && Nat.beq (lps (go P n s).K) L.length) = true := by kernel_rfl) : J P Q L s RO [] OW := by
  refine m_go n ?_
  generalize go P n s = t at *
  obtain ⟨ps, K, a, r⟩ := t
  rw [Bool.and_eq_true] at h1
  have h5 : lps K = L.length := Nat.eq_of_beq_eq_true h1.2
  refine ⟨fun w hw => ?_⟩
  have hj := k1.out w hw
  cases ps with
  | code c =>
    simp only [den, post] at hj ⊢
    refine Code.wpIn_mono (fun e a' w' hq => ?_) hj
    rw [h5, ivAt_top, post_old (K := K) _ (by omega)] at hq
    cases e with
    | normal =>
      obtain ⟨y, u, hC, ha, hH⟩ := hq
      have := (k2 y u hC).out w' hH
      rw [ha]
      exact this
    | _ => exact hq
  | _ => cases h1.1
/-- The region is over. -/
theorem m_thaw (n : Nat) (k : J P Q L (go P n s) RO [] (FZ ++ OW)) (h : noPl (go P n s) = true := by kernel_rfl) : J P Q L s RO FZ OW :=
  m_go n ⟨fun w hw => den_S (S' := fun w => ∀ r ∈ RO ++ [], r.A w) h (k.out w hw)⟩

/-! ### what is known, said otherwise -/
theorem m_view (i : Nat) (r : Rc) (v : View (gr OW i) r) (k : J P Q L s RO FZ (OW.set i r)) (h : Nat.blt i OW.length = true := by kernel_rfl) : J P Q L s RO FZ OW := by
  refine ⟨fun w hw => ?_⟩
  have hlt : i < OW.length := by simpa using h
  have hi : OW[i]? = some (gr OW i) := by simp [gr, hlt]
  have hA : (gr OW i).A w := hw.a _ (by simp only [List.mem_append]; exact .inr (.inr (List.mem_of_getElem? hi)))
  obtain ⟨h1, h2⟩ := v.A w hA
  exact k.out w (Hs.set hw hi (Fr.refl _ _) h1 (Sub.toNew h2))
theorem m_fact (i : Nat) (φ : Prop) (h : ∀ w, (gr (RO ++ (FZ ++ OW)) i).A w → φ) (k : φ → J P Q L s RO FZ OW) : J P Q L s RO FZ OW :=
  ⟨fun w hw => (k (h w (gr_A hw.a i))).out w hw⟩
theorem m_pick (idx : List Nat) (k : J P Q L s RO FZ (pick idx OW).1) : J P Q L s RO FZ OW := ⟨fun w hw => k.out w (by
  have : (FZ ++ ((pick idx OW).1 ++ (pick idx OW).2)).Perm (FZ ++ OW) := (pick_perm idx OW).append_left FZ
  rw [← List.append_assoc] at this
  exact (hw.perm this).own)⟩
end
end Go.Alm

/- The machine's steps: numbers, slices, rows. -/
namespace Go.Alm
open Go Go.RowKit
section
variable {P : Program} {Q : Exit → Act → World → Prop} {L : List Iv} {s : St} {RO FZ OW : List Rc}

/-! ### numbers -/
theorem m_rem (n : Nat) (kd : IntKind) (a d : Nat) (k : J P Q L (nx (go P n s) (.int kd ((a % d : Nat) : Int))) RO FZ OW)
    (h : pureCur P (go P n s) = some (.int kd ((a : Int).tmod (d : Int))) := by kernel_rfl) (hon : onW (go P n s) = true := by kernel_rfl) : J P Q L s RO FZ OW :=
  m_i n kd _ _ (Int.ofNat_tmod a d).symm k h hon
theorem m_shr (n : Nat) (kd : IntKind) (a e : Nat) (k : J P Q L (nx (go P n s) (.int kd ((a / 2 ^ e : Nat) : Int))) RO FZ OW)
    (h : pureCur P (go P n s) = some (.int kd (Int.fdiv (a : Int) (2 ^ e))) := by kernel_rfl) (hon : onW (go P n s) = true := by kernel_rfl) : J P Q L s RO FZ OW := by
  refine m_i n kd _ _ ?_ k h hon
  have : (2 : Int) ^ e = ((2 ^ e : Nat) : Int) := by simp
  rw [this, Int.fdiv_eq_ediv_of_nonneg _ (Int.natCast_nonneg _)]
  rfl

/-! ### rows -/
def SrcW (P : Program) (sz tx : Nat) (H : List Rc) (xv : Value) (m : Nat) (news : List Value) : Prop := ∀ w, (∀ r ∈ H, r.A w) → Src P sz tx xv m news w
theorem SrcW.str {P : Program} {tx : Nat} {H : List Rc} {xv : Value} (s : ByteArray) (h : P.underlying tx = some .string := by kernel_rfl) (hv : xv = .string s := by kernel_rfl) : SrcW P 1 tx H xv s.size (byteCells s) := fun _ _ => hv ▸ Src.ofString _ h s
theorem isSl_spec {P : Program} {t : Nat} (h : isSl P t = true) : ∃ e, P.underlying t = some (.slice e) := by
  unfold isSl at h
  split at h
  · rename_i e ht; exact ⟨e, ht⟩
  · cases h
theorem SrcW.rd {P : Program} {sz tx : Nat} {H : List Rc} {xv : Value} (i : Nat) (m c : Nat) (xs : List Value) (hl : xs.length = m * sz) (h1 : ∀ u ∈ xs, u.oneCell' = true) (hs : 0 < sz := by decide) (ht : isSl P tx = true := by kernel_rfl) (hr : (gr H i).isRd = true := by kernel_rfl) (hx : (gr H i).xs = xs := by kernel_rfl) (hv : xv = .slice (gr H i).ao m c := by kernel_rfl) : SrcW P sz tx H xv m xs :=
  fun w hA => (isSl_spec ht).elim fun e ht => hv ▸ Rd.src ht (by rw [← hx]; exact Rc.rd_of hr (gr_A hA i)) hl hs h1
/-- A cut of a block whose cells are known. -/
theorem SrcW.cut {P : Program} {sz tx : Nat} {H : List Rc} {xv : Value} (i : Nat) (off m c : Nat) (hs : 0 < sz := by decide) (ht : isSl P tx = true := by kernel_rfl) (hr : (gr H i).isBlk = true := by kernel_rfl)
    (h1 : ((((gr H i).c.toList.drop off).take (m * sz)).all (·.oneCell') && Nat.beq (((gr H i).c.toList.drop off).take (m * sz)).length (m * sz)) = true := by kernel_rfl) (hv : xv = .slice (some ⟨(gr H i).b, off, none⟩) m c := by kernel_rfl) : SrcW P sz tx H xv m (((gr H i).c.toList.drop off).take (m * sz)) := fun w hA => by
  have hA := gr_A hA i
  rw [Rc.blk_eq hr] at hA
  rw [Bool.and_eq_true] at h1
  subst hv
  obtain ⟨e, ht⟩ := isSl_spec ht
  exact Rd.src ht (Rd.of_cut hA off (m * sz) rfl) (Nat.eq_of_beq_eq_true h1.2) hs (ones h1.1)
theorem SrcW.news {P : Program} {sz tx m : Nat} {H : List Rc} {xv : Value} {n1 n2 : List Value} (h : SrcW P sz tx H xv m n1) (e : n1 = n2) : SrcW P sz tx H xv m n2 := e ▸ h
theorem SrcW.nil {P : Program} {sz tx : Nat} {H : List Rc} {xv : Value} (c : Nat) (ht : isSl P tx = true := by kernel_rfl) (hv : xv = .slice none 0 c := by kernel_rfl) : SrcW P sz tx H xv 0 [] := fun w _ => (isSl_spec ht).elim fun _ ht => hv ▸ Src.ofNil w ht c

def appS (s : St) : Value := s.a.eval ((appendOf (cur s).op).getD (.tmp 0, .tmp 0, 0, 0)).1
def appX (s : St) : Value := s.a.eval ((appendOf (cur s).op).getD (.tmp 0, .tmp 0, 0, 0)).2.1
def appT (s : St) : Nat := ((appendOf (cur s).op).getD (.tmp 0, .tmp 0, 0, 0)).2.2.1
def appTx (s : St) : Nat := ((appendOf (cur s).op).getD (.tmp 0, .tmp 0, 0, 0)).2.2.2
def appOk (P : Program) (s : St) (e sz bytes : Nat) : Bool := (appendOf (cur s).op).isSome && match elemT P (appT s) with
  | some (e', some z, sz', by') => Nat.beq e e' && Nat.beq sz sz' && Nat.beq bytes by' && Nat.beq z.cells.size sz
  | _ => false
/-- Something is appended to a row of the call's own. `N`, `xs`: what the row is; `ys`: what it is then. -/
theorem m_app (n i : Nat) (e sz bytes N m : Nat) (xs news ys : List Value) (src : SrcW P sz (appTx (go P n s)) (RO ++ (FZ ++ OW.eraseIdx i)) (appX (go P n s)) m news) (hb : N + m ≤ maxLen ∧ (N + m) * bytes ≤ 140737488355328) (hy : xs ++ news = ys)
    (k : ∀ ao cap, J P Q L (nx (go P n s) (.slice ao (N + m) cap)) RO FZ (OW.set i (.row e sz ao (N + m) cap ys)))
    (hr : gr OW i = .row e sz (gr OW i).ao N (gr OW i).cap xs := by kernel_rfl) (hv : appS (go P n s) = .slice (gr OW i).ao N (gr OW i).cap := by kernel_rfl)
    (hc : (appOk P (go P n s) e sz bytes && (acts (go P n s) && onW (go P n s))) = true := by kernel_rfl) : J P Q L s RO FZ OW := by
  subst hy
  rw [Bool.and_eq_true] at hc
  refine m_act n (fun w hw Q' => ?_) hc.2
  have hc := hc.1
  unfold appOk at hc
  rw [Bool.and_eq_true] at hc
  obtain ⟨h1, h2⟩ := hc
  have hi : OW[i]? = some (gr OW i) := by
    unfold gr at hr ⊢
    rw [List.getD_eq_getElem?_getD] at hr ⊢
    cases hi : OW[i]? with
    | none => rw [hi] at hr; cases hr
    | some r => rfl
  have hA : (gr OW i).A w := hw.a _ (by simp only [List.mem_append]; exact .inr (.inr (List.mem_of_getElem? hi)))
  have hS : (gr OW i).S = Own (.slice (gr OW i).ao N (gr OW i).cap) := congrArg Rc.S hr
  have hA' : Row w e sz (.slice (gr OW i).ao N (gr OW i).cap) N xs := by rw [hr] at hA; exact hA
  have ho : appendOf (cur (go P n s)).op = some (((appendOf (cur (go P n s)).op).getD (.tmp 0, .tmp 0, 0, 0)).1, ((appendOf (cur (go P n s)).op).getD (.tmp 0, .tmp 0, 0, 0)).2.1, appT (go P n s), appTx (go P n s)) := by
    unfold appT appTx
    cases hl : appendOf (cur (go P n s)).op with
    | none => rw [hl] at h1; cases h1
    | some x => rfl
  split at h2
  · rename_i e' z sz' by' he
    simp only [Bool.and_eq_true] at h2
    obtain ⟨⟨⟨h3, h4⟩, h5⟩, h6⟩ := h2
    obtain rfl := Nat.eq_of_beq_eq_true h3
    obtain rfl := Nat.eq_of_beq_eq_true h4
    obtain rfl := Nat.eq_of_beq_eq_true h5
    have hsrc := src w fun r hr' => hw.a r (by
      simp only [List.mem_append] at hr' ⊢
      rcases hr' with h | h | h
      · exact .inl h
      · exact .inr (.inl h)
      · exact .inr (.inr (List.mem_of_mem_eraseIdx h)))
    refine op_append _ _ _ _ e sz bytes z ho he (Nat.eq_of_beq_eq_true h6) hv hA' rfl hsrc hb.1 hb.2 fun v' w' hrow hF hN => ?_
    obtain ⟨ao, cap, rfl, _, _, _, _⟩ := hrow.read
    exact ⟨_, _, rfl, Hs.set (r' := .row e sz ao (N + m) cap (xs ++ news)) hw hi (by rw [hS]; exact hF) hrow (by rw [hS]; exact hN), k ao cap⟩
  · cases h2
/-- A row's number of elements and cap. -/
theorem m_rowle (i n cap : Nat) (k : n ≤ cap → cap ≤ maxLen → J P Q L s RO FZ OW) (h : ((gr (RO ++ (FZ ++ OW)) i).isRow) = true := by kernel_rfl) (h1 : (gr (RO ++ (FZ ++ OW)) i).n = n := by kernel_rfl) (h2 : (gr (RO ++ (FZ ++ OW)) i).cap = cap := by kernel_rfl) : J P Q L s RO FZ OW := by
  refine m_fact i (n ≤ cap ∧ cap ≤ maxLen) (fun w hA => ?_) fun hh => k hh.1 hh.2
  rw [Rc.row_eq h] at hA
  obtain ⟨ao', cap', hv, h3, h4, _, _⟩ := Row.read hA
  cases hv
  rw [h1] at h3
  rw [h2] at h3 h4
  exact ⟨h3, h4⟩
/-- A block that was just made, as a row. -/
theorem View.made {a : Rc} (e sz n cap : Nat) (xs : List Value) (hb : a.isBlk = true := by kernel_rfl) (he : (Nat.beq a.te e && Nat.beq a.c.size (cap * sz) && Nat.ble n cap && Nat.ble cap maxLen) = true := by kernel_rfl) (hx : a.c.toList.take (n * sz) = xs := by kernel_rfl) : View a (.row e sz (some ⟨a.b, 0, none⟩) n cap xs) := by
  subst hx
  refine ⟨fun w hA => ?_⟩
  simp only [Bool.and_eq_true] at he
  obtain ⟨⟨⟨h1, h2⟩, h3⟩, h4⟩ := he
  rw [Rc.blk_eq hb] at hA ⊢
  obtain rfl := Nat.eq_of_beq_eq_true h1
  refine ⟨Row.made' hA (Nat.eq_of_beq_eq_true h2) (Nat.le_of_ble_eq_true h4) (Nat.le_of_ble_eq_true h3) rfl, ?_⟩
  intro k hk
  have : Own (.slice (some ⟨a.b, 0, none⟩) n cap) k := hk
  rw [Own_one] at this
  exact this
/-- No row, as a row. -/
theorem m_nil (e sz : Nat) (k : J P Q L s RO FZ (.row e sz none 0 0 [] :: OW)) : J P Q L s RO FZ OW := ⟨fun w hw => k.out w (by
  refine Hs.new hw (Fr.refl _ _) (Row.nil _ _ _) fun i hi => ?_
  have : Own (.slice none 0 0) i := hi
  rw [Own_nil] at this
  exact this.elim)⟩
end
end Go.Alm

namespace Go.Alm
open Go Go.RowKit
section
variable {P : Program} {Q : Exit → Act → World → Prop} {L : List Iv} {s : St} {RO FZ OW : List Rc}
theorem m_appB (n i e : Nat) (l l2 l3 : List Nat) (he : l ++ l2 = l3) {m : Nat} (src : SrcW P 1 (appTx (go P n s)) (RO ++ (FZ ++ OW.eraseIdx i)) (appX (go P n s)) m (B l2)) (hm : m = l2.length) (hb : l.length + l2.length ≤ 140737488355328)
    (k : ∀ ao cap, J P Q L (nx (go P n s) (.slice ao l3.length cap)) RO FZ (OW.set i (.row e 1 ao l3.length cap (B l3))))
    (hr : gr OW i = .row e 1 (gr OW i).ao l.length (gr OW i).cap (B l) := by kernel_rfl) (hv : appS (go P n s) = .slice (gr OW i).ao l.length (gr OW i).cap := by kernel_rfl)
    (hc : (appOk P (go P n s) e 1 1 && (acts (go P n s) && onW (go P n s))) = true := by kernel_rfl) : J P Q L s RO FZ OW := by
  subst hm
  subst he
  refine m_app n i e 1 1 l.length l2.length (B l) (B l2) (B (l ++ l2)) src ⟨?_, by omega⟩ (B_append l l2).symm (fun ao cap => ?_) hr hv hc
  · have : maxLen = 9223372036854775807 := rfl
    omega
  · have h := k ao cap
    rw [List.length_append] at h
    exact h
/-! ### elements -/
def oad (ao : Option Addr) : Addr := ao.getD ⟨0, 0, none⟩
def ixT (s : St) : Nat := ((idxAOf (cur s).op).getD (0, .tmp 0, .tmp 0)).1
def ixX (s : St) : Value := s.a.eval ((idxAOf (cur s).op).getD (0, .tmp 0, .tmp 0)).2.1
def ixI (s : St) : Value := s.a.eval ((idxAOf (cur s).op).getD (0, .tmp 0, .tmp 0)).2.2
/-- An element's address in a slice of which it is known that there is one. -/
theorem m_ix (n i sz N k : Nat) (xs : List Value) (kd : IntKind) (hk : k < N) (hx : k * sz < xs.length) (kk : J P Q L (nx (go P n s) (.pointer (some ((oad (gr (RO ++ (FZ ++ OW)) i).ao).add (k * sz))))) RO FZ OW)
    (h1 : ixX (go P n s) = .slice (gr (RO ++ (FZ ++ OW)) i).ao N (match ixX (go P n s) with | .slice _ _ c => c | _ => 0) := by kernel_rfl) (h2 : ixI (go P n s) = .int kd (k : Int) := by kernel_rfl) (h3 : (gr (RO ++ (FZ ++ OW)) i).xs = xs := by kernel_rfl)
    (hc : ((idxAOf (cur (go P n s)).op).isSome && isSl P (ixT (go P n s)) && (elemSz P (ixT (go P n s)) == some sz) && (gr (RO ++ (FZ ++ OW)) i).isRd && onW (go P n s)) = true := by kernel_rfl) : J P Q L s RO FZ OW := by
  simp only [Bool.and_eq_true, beq_iff_eq] at hc
  obtain ⟨⟨⟨⟨h4, h5⟩, h6⟩, h7⟩, h8⟩ := hc
  refine m_fact i (∃ ad, (gr (RO ++ (FZ ++ OW)) i).ao = some ad) (fun w hA => ?_) ?_
  · have := (Rc.rd_of h7 hA).has (k * sz) (by rw [h3]; exact hx)
    exact this
  · rintro ⟨ad, hao⟩
    have e : (.pointer (some ((oad (gr (RO ++ (FZ ++ OW)) i).ao).add (k * sz))) : Value) = .pointer (some (ad.add (k * sz))) := by rw [hao]; rfl
    rw [e] at kk
    refine m_p n _ (fun w => ?_) kk h8
    have ho : idxAOf (cur (go P n s)).op = some (ixT (go P n s), ((idxAOf (cur (go P n s)).op).getD (0, .tmp 0, .tmp 0)).2.1, ((idxAOf (cur (go P n s)).op).getD (0, .tmp 0, .tmp 0)).2.2) := by
      unfold ixT
      cases hl : idxAOf (cur (go P n s)).op with
      | none => rw [hl] at h4; cases h4
      | some x => rfl
    exact run_idx_o _ _ _ sz _ ad N _ kd k ho h5 h6 h1 h2 hao hk
/-- A cell of such an element. -/
theorem m_lx (n i j : Nat) (xs : List Value) (u : Value) (hu : xs[j]? = some u) (k : J P Q L (nx (go P n s) u) RO FZ OW)
    (h1 : (go P n s).a.eval (ldX (go P n s)) = .pointer (some ((oad (gr (RO ++ (FZ ++ OW)) i).ao).add j)) := by kernel_rfl) (h3 : (gr (RO ++ (FZ ++ OW)) i).xs = xs := by kernel_rfl)
    (hc : ((loadOf (cur (go P n s)).op).isSome && (rowed P (ldT (go P n s)) == some false) && (gr (RO ++ (FZ ++ OW)) i).isRd && (onW (go P n s) && rdOk (go P n s) i (RO ++ FZ).length)) = true := by kernel_rfl) : J P Q L s RO FZ OW := by
  simp only [Bool.and_eq_true, beq_iff_eq] at hc
  obtain ⟨⟨⟨h4, h5⟩, h7⟩, h8, h9⟩ := hc
  have ho : loadOf (cur (go P n s)).op = some (ldT (go P n s), ldX (go P n s)) := by
    unfold ldT ldX
    cases hl : loadOf (cur (go P n s)).op with
    | none => rw [hl] at h4; cases h4
    | some x => rfl
  refine m_r n i u (fun w hA => ?_) k h8 h9
  have hR := Rc.rd_of h7 hA
  rw [h3] at hR
  obtain ⟨ad, ha, hc⟩ := hR j u hu
  refine run_loadC _ _ (ad.add j) u ho h5 ?_ hc
  rw [h1, ha]
  rfl
theorem add_add (ad : Addr) (i j : Nat) : (ad.add i).add j = ad.add (i + j) := by
  unfold Addr.add
  by_cases hn : i = 0 <;> by_cases hj0 : j = 0 <;> simp [hn, hj0, Nat.add_assoc]
/-- More cells of it. -/
theorem m_lxN (n i j sz : Nat) (xs : List Value) (vs : Array Value) (hu : (xs.drop j).take sz = vs.toList) (hs : vs.size = sz) (k : J P Q L (nx (go P n s) (.agg vs)) RO FZ OW)
    (h1 : (go P n s).a.eval (ldX (go P n s)) = .pointer (some ((oad (gr (RO ++ (FZ ++ OW)) i).ao).add j)) := by kernel_rfl) (h3 : (gr (RO ++ (FZ ++ OW)) i).xs = xs := by kernel_rfl)
    (hc : ((loadOf (cur (go P n s)).op).isSome && (rowed P (ldT (go P n s)) == some true) && (sizeT P (ldT (go P n s)) == some sz) && Nat.blt 0 sz && (gr (RO ++ (FZ ++ OW)) i).isRd && (onW (go P n s) && rdOk (go P n s) i (RO ++ FZ).length)) = true := by kernel_rfl) : J P Q L s RO FZ OW := by
  simp only [Bool.and_eq_true, beq_iff_eq] at hc
  obtain ⟨⟨⟨⟨⟨h4, h5⟩, h6⟩, h0⟩, h7⟩, h8, h9⟩ := hc
  have ho : loadOf (cur (go P n s)).op = some (ldT (go P n s), ldX (go P n s)) := by
    unfold ldT ldX
    cases hl : loadOf (cur (go P n s)).op with
    | none => rw [hl] at h4; cases h4
    | some x => rfl
  refine m_r n i (.agg vs) (fun w hA => ?_) k h8 h9
  have hR := Rc.rd_of h7 hA
  rw [h3] at hR
  have h0' : 0 < sz := by simpa using h0
  obtain ⟨ad, ha⟩ : ∃ ad, (gr (RO ++ (FZ ++ OW)) i).ao = some ad := by
    refine hR.has j ?_
    have : ((xs.drop j).take sz).length = sz := by rw [hu]; simpa using hs
    rw [List.length_take, List.length_drop] at this
    omega
  exact run_loadEn _ _ _ ad j sz xs vs ho h5 h6 (by rw [h1, ha]; rfl) ha hR hs hu
end
end Go.Alm

namespace Go.Alm
open Go Go.RowKit
section
variable {P : Program} {Q : Exit → Act → World → Prop} {L : List Iv} {s : St} {RO FZ OW : List Rc}
def biX (s : St) : Operand := ((binOf (cur s).op).getD (.add, .tmp 0, .tmp 0)).2.1
def biY (s : St) : Operand := ((binOf (cur s).op).getD (.add, .tmp 0, .tmp 0)).2.2
/-- A shift to the right by what is not known. -/
abbrev dv (a e : Nat) : Nat := a / 2 ^ e
theorem m_shrv (n : Nat) (kd kd' : IntKind) (a e : Nat) (he : e < 64) (_ : a < 18446744073709551616) (k : J P Q L (nx (go P n s) (.int kd ((dv a e : Nat) : Int))) RO FZ OW)
    (h1 : (binOf (cur (go P n s)).op).map (·.1) = some .shr := by kernel_rfl) (h2 : (go P n s).a.eval (biX (go P n s)) = .int kd (a : Int) := by kernel_rfl) (h3 : (go P n s).a.eval (biY (go P n s)) = .int kd' (e : Int) := by kernel_rfl) (h4 : (kd.bits == 64) = true := by kernel_rfl) (hon : onW (go P n s) = true := by kernel_rfl) : J P Q L s RO FZ OW := by
  refine m_p n _ (fun w => ?_) k hon
  have ho : binOf (cur (go P n s)).op = some (.shr, biX (go P n s), biY (go P n s)) := by
    unfold biX biY
    cases hl : binOf (cur (go P n s)).op with
    | none => rw [hl] at h1; cases h1
    | some x => rw [hl] at h1; simp only [Option.map_some, Option.some.injEq] at h1; rw [← h1]; rfl
  rw [run_shr _ _ _ _ ho h2 h3 (Int.natCast_nonneg _)]
  have hb : kd.bits = 64 := by simpa using h4
  have e1 : min ((e : Int)).toNat kd.bits = e := by rw [hb, Int.toNat_natCast]; omega
  rw [e1]
  have : (2 : Int) ^ e = ((2 ^ e : Nat) : Int) := by simp
  rw [this, Int.fdiv_eq_ediv_of_nonneg _ (Int.natCast_nonneg _)]
  rfl
theorem m_mod8 (n x : Nat) (k : J P Q L (nx (go P n s) (.int .u8 ((x % 256 : Nat) : Int))) RO FZ OW) (h : pureCur P (go P n s) = some (.int .u8 (IntKind.u8.wrap (x : Int))) := by kernel_rfl) (hon : onW (go P n s) = true := by kernel_rfl) : J P Q L s RO FZ OW :=
  m_i n .u8 _ _ (by rw [wrap_u8]; omega) k h hon
theorem m_mod32 (n x : Nat) (k : J P Q L (nx (go P n s) (.int .u32 ((x % 4294967296 : Nat) : Int))) RO FZ OW) (h : pureCur P (go P n s) = some (.int .u32 (IntKind.u32.wrap (x : Int))) := by kernel_rfl) (hon : onW (go P n s) = true := by kernel_rfl) : J P Q L s RO FZ OW :=
  m_i n .u32 _ _ (by rw [wrap_u32]; omega) k h hon
theorem m_mod64 (n x : Nat) (k : J P Q L (nx (go P n s) (.int .u64 ((x % 18446744073709551616 : Nat) : Int))) RO FZ OW) (h : pureCur P (go P n s) = some (.int .u64 (IntKind.u64.wrap (x : Int))) := by kernel_rfl) (hon : onW (go P n s) = true := by kernel_rfl) : J P Q L s RO FZ OW :=
  m_i n .u64 _ _ (by rw [wrap_u64]; omega) k h hon
end
end Go.Alm

namespace Go.Alm
open Go Go.RowKit
section
variable {P : Program} {L : List Iv} {s : St} {OW : List Rc}
/-! ### results that lie in cells -/
def cellV (P : Program) (v : Value) (ty : Nat) (r : Rc) : Value := match rowed P ty with
  | some true => .agg (ext r.c (offOf v) ((sizeT P ty).getD 0))
  | _ => (r.c.toList[offOf v]?).getD undef
def cellOk (P : Program) (v : Value) (ty : Nat) (r : Rc) : Bool := r.isBlk && match rowed P ty with
  | some true => (sizeT P ty).isSome && Nat.ble (offOf v + (sizeT P ty).getD 0) r.c.size
  | some false => (r.c.toList[offOf v]?).isSome
  | none => false
def resV (P : Program) (H : List Rc) (a : Act) : List ResultVar → List Nat → List Value
  | .tmp t :: rs, _ :: is => a.tmps.getD t undef :: resV P H a rs is
  | .cell t ty :: rs, i :: is => cellV P (a.tmps.getD t undef) ty (gr H i) :: resV P H a rs is
  | _, _ => []
def resK (P : Program) (H : List Rc) (a : Act) : List ResultVar → List Nat → Bool
  | .tmp _ :: rs, _ :: is => resK P H a rs is
  | .cell t ty :: rs, i :: is => cellOk P (a.tmps.getD t undef) ty (gr H i) && resK P H a rs is
  | [], [] => true
  | _, _ => false
def resA (a : Act) : List ResultVar → List Nat → List Value
  | .tmp _ :: rs, _ :: is => resA a rs is
  | .cell t _ :: rs, _ :: is => a.tmps.getD t undef :: resA a rs is
  | _, _ => []
def resB (H : List Rc) (a : Act) : List ResultVar → List Nat → List Value
  | .tmp _ :: rs, _ :: is => resB H a rs is
  | .cell t _ :: rs, i :: is => .pointer (some ⟨(gr H i).b, offOf (a.tmps.getD t undef), none⟩) :: resB H a rs is
  | _, _ => []
theorem res_L {H : List Rc} {w : World} (hA : ∀ r ∈ H, r.A w) {a : Act} : ∀ (rs : List ResultVar) (is : List Nat), resK P H a rs is = true → resA a rs is = resB H a rs is → ResL P a w rs (resV P H a rs is)
  | [], [], _, _ => trivial
  | [], _ :: _, h, _ => by cases h
  | .tmp t :: rs, _ :: is, h, e => ⟨ResOne.tmp rfl, res_L hA rs is h e⟩
  | .cell t ty :: rs, i :: is, h, e => by
    simp only [resK, Bool.and_eq_true] at h
    simp only [resA, resB, List.cons.injEq] at e
    refine ⟨?_, res_L hA rs is h.2 e.2⟩
    have hk := h.1
    unfold cellOk at hk
    rw [Bool.and_eq_true] at hk
    have hb := gr_A hA i
    rw [Rc.blk_eq hk.1] at hb
    have hb : w.heap[(gr H i).b]? = some (.cells (gr H i).c (gr H i).te (0, 0)) := hb
    unfold cellV
    cases hr : rowed P ty with
    | none => rw [hr] at hk; cases hk.2
    | some b =>
      rw [hr] at hk
      cases b with
      | true =>
        simp only [Bool.and_eq_true] at hk
        obtain ⟨_, h6, h7⟩ := hk
        cases hn : sizeT P ty with
        | none => rw [hn] at h6; cases h6
        | some n => rw [hn] at h7; exact ResOne.cellN e.1 hr hn hb h7 (ext_eq _ _ _)
      | false =>
        obtain ⟨_, hk⟩ := hk
        simp only [Array.getElem?_toList] at hk ⊢
        cases hc : (gr H i).c[offOf (a.tmps.getD t undef)]? with
        | none => rw [hc] at hk; cases hk
        | some v => exact ResOne.cell1 e.1 hr hb hc
  | .tmp _ :: _, [], h, _ => by cases h
  | .cell _ _ :: _, [], h, _ => by cases h
theorem m_retC {f : Nat} {F : Re} {R : Value → List Rc → Prop} {ro : List Rc} (n : Nat) (is : List Nat) (v : Value) (idx : List Nat) (hR : R v (pick idx OW).1) (h1 : outOk (go P n s) = true := by kernel_rfl)
    (h2 : resK P ((.gen F :: ro) ++ OW) (go P n s).a (fnOf P f).results.toList is = true := by kernel_rfl) (h3 : resA (go P n s).a (fnOf P f).results.toList is = resB ((.gen F :: ro) ++ OW) (go P n s).a (fnOf P f).results.toList is := by kernel_rfl)
    (hr : oneOf (resV P ((.gen F :: ro) ++ OW) (go P n s).a (fnOf P f).results.toList is) = v := by kernel_rfl) : J P (DoesPost P f F R) L s (.gen F :: ro) [] OW := by
  refine m_go n ?_
  generalize go P n s = t at *
  obtain ⟨ps, K, a, r⟩ := t
  unfold outOk at h1
  simp only [Bool.and_eq_true, List.isEmpty_iff] at h1
  obtain ⟨⟨h4, h5⟩, h6⟩ := h1
  have hp := pick_perm idx OW
  have fin : ∀ w, Hs w (.gen F :: ro) ([] ++ OW) → Hs w [.gen F] (pick idx OW).1 := fun w hw => ((hw.perm hp).own).ro (by simp)
  refine ⟨fun w hw => ?_⟩
  subst h5
  have hrun : (results (fnOf P f) a.tmps).run P w = .ok v w := by
    rw [← hr]
    exact run_results' (fn := fnOf P f) _ rfl (res_L (P := P) (a := a) hw.a _ _ h2 h3)
  cases ps with
  | out e =>
    cases e with
    | normal => exact ⟨h6, v, hrun, v, _, hR, rfl, fin w hw⟩
    | ret => exact ⟨h6, v, hrun, v, _, hR, rfl, fin w hw⟩
    | _ => cases h4
  | _ => cases h4
end
end Go.Alm

namespace Go.Alm
open Go Go.RowKit
section
variable {P : Program} {Q : Exit → Act → World → Prop} {L : List Iv} {s : St} {RO OW : List Rc}
/-- A region whose order is open, by hand. -/
theorem m_raw (n : Nat) (S : World → Prop) (sk : Nat → Bool) (π : List (Nat × PK)) (k : ∀ w, Hs w RO ([] ++ OW) → plAt P (plOps (go P n s)) (fun a w => post P Q L none (go P n s).K .normal a w) S sk π 0 (go P n s).a w)
    (h : (isDraw (go P n s) && (go P n s).r.isNone && P.follows .mixedOrders && Region.noSelect (plOps (go P n s)) && Nat.beq π.length (plOps (go P n s)).size && planB (plOps (go P n s)) sk π (Array.replicate (plOps (go P n s)).size false)) = true := by kernel_rfl) : J P Q L s RO [] OW := by
  refine m_go n ?_
  generalize go P n s = t at *
  obtain ⟨ps, K, a, r⟩ := t
  simp only [Bool.and_eq_true] at h
  obtain ⟨⟨⟨⟨⟨h1, h0⟩, h2⟩, h3⟩, h4⟩, h5⟩ := h
  obtain rfl : r = none := by simpa using h0
  have h4 := Nat.eq_of_beq_eq_true h4
  cases ps with
  | code c =>
    cases c with
    | region id ops d =>
      cases d with
      | false => cases h1
      | true =>
        simp only [plOps] at h3 h4 h5 k
        refine ⟨fun w hw => ?_⟩
        refine wpIn_wide.2 (Code.wp_mono (Q := OnlyN (fun a w => post P Q L none K .normal a w)) (fun e a w hq => by cases e <;> first | exact hq | exact hq.elim) ?_)
        refine wp_region_any h2 (wpAny_of_P (S := S) (sk := sk) _ _ _ _ ?_)
        rw [← h4]
        refine plan_any h3 (fun _ _ _ h => h) π _ a _ (fun j oj _ hl => ?_) (h4 ▸ h5) ?_
        · rw [getD_rep] at hl; cases hl
        · have := (k _ (hw.keep (Fr.refl _ _).drew)).out
          exact this
    | _ => cases h1
  | _ => cases h1
theorem Hs.setB {w w' : World} {FZ : List Rc} {b te : Nat} {c : Array Value} (c' : Array Value) (i : Nat) (h : Hs w RO (FZ ++ OW)) (hi : OW[i]? = some (.blk b c te)) (F : Fr w w' (One b)) (g : w'.heap[b]? = some (.cells c' te (0, 0))) : Hs w' RO (FZ ++ OW.set i (.blk b c' te)) :=
  Hs.set (r := .blk b c te) (r' := .blk b c' te) h hi F g (show New w (One b) (One b) from New.refl _ _)
theorem pl_end {ops : Array Oper} {S : World → Prop} {sk : Nat → Bool} {π : List (Nat × PK)} {n : Nat} {a : Act} {w : World} {K : List Ct} (h : n = π.length) (hw : Hs w RO ([] ++ OW)) (k : J P Q L ⟨.out .normal, K, a, none⟩ RO [] OW) : plAt P ops (fun a w => post P Q L none K .normal a w) S sk π n a w := pl_done h (k.out w hw)
abbrev aj' (a b : Array Value) : Array Value := a ++ b
theorem ext_aj {x y : Array Value} {m k n : Nat} (h : x.size = m) : ext (aj' x y) (m + k) n = ext y k n := by
  subst h
  apply Array.toList_inj.1
  have h : List.drop (x.size + k) x.toList = [] := List.drop_eq_nil_of_le (by simp)
  simp [ext, aj', List.drop_append, h]
end
end Go.Alm

/- The machine's steps: views of more, rows of rows, what is compared; contracts of the older kind. -/
namespace Go.Alm
open Go Go.RowKit
section
variable {P : Program} {Q : Exit → Act → World → Prop} {L : List Iv} {s : St} {RO FZ OW : List Rc}

/-! ### contracts of the older kind -/
theorem Does.of_calls {f : Nat} {args : Array Value} {ro : List Rc} {v : Value} (h : ∀ w, (∀ r ∈ ro, r.A w) → Calls P f args w fun e w' => e = .returned v ∧ Fr w w' N0) : Does P f args ro [] (fun v' H => v' = v ∧ H = []) := fun F w hw =>
  (h w fun r hr => hw.a r (by simp [hr])).mono fun _ _ ⟨he, hF⟩ => ⟨v, [], ⟨rfl, rfl⟩, he, (hw.keep hF).ro (by simp)⟩

/-! ### read-only views beside -/
theorem m_also (i : Nat) (r : Rc) (v : View (gr RO i) r) (k : J P Q L s (RO ++ [r]) FZ OW) (h : (Nat.blt i RO.length && noPl s) = true := by kernel_rfl) : J P Q L s RO FZ OW := by
  rw [Bool.and_eq_true] at h
  have hlt : i < RO.length := by simpa using h.1
  have hm : gr RO i ∈ RO := by simp [gr, hlt]
  refine ⟨fun w hw => ?_⟩
  have hv := v.A w (hw.a _ (List.mem_append_left _ hm))
  refine den_S (S' := fun w => ∀ x ∈ (RO ++ [r]) ++ FZ, x.A w) h.2 (k.out w ⟨fun x hx => ?_, fun x hx o ho => ?_, hw.p⟩)
  · simp only [List.mem_append, List.mem_singleton] at hx
    rcases hx with (hx | rfl) | hx
    · exact hw.a x (List.mem_append_left _ hx)
    · exact hv.1
    · exact hw.a x (by simp only [List.mem_append]; exact .inr hx)
  · simp only [List.mem_append, List.mem_singleton] at hx
    rcases hx with hx | rfl
    · exact hw.d x hx o ho
    · exact Sub.dis hv.2 (hw.d _ hm o ho)
theorem m_unro (r : Rc) (k : J P Q L s RO FZ OW) (h : noPl s = true := by kernel_rfl) : J P Q L s (RO ++ [r]) FZ OW := ⟨fun w hw => by
  exact den_S (S' := fun w => ∀ x ∈ RO ++ FZ, x.A w) h (k.out w (hw.ro (by simp +contextual)))⟩

/-! ### views of more than one -/
def RowsAt.re (fp : Nat → Prop) (ao : Option Addr) (ls : List BSl) : Re := ⟨fp, fun w => RowsAt fp w ao ls, fun _ h => h.in, fun _ _ _ h F d => h.keep F d⟩
abbrev rowsR (fp : Nat → Prop) (ao : Option Addr) (ls : List BSl) : Rc := .gen (RowsAt.re fp ao ls)
inductive AllV (H : List Rc) : List Value → List BSl → Prop
  | nil : AllV H [] []
  | cons {cs : List Value} {ls : List BSl} {ao : Option Addr} {l : List Nat} (j n cap : Nat) (v : View (gr H j) (.rd ao (B l))) (hn : l.length = n) (hB : Byt l) (hc : n ≤ cap ∧ cap ≤ maxLen) (t : AllV H cs ls) : AllV H (.slice ao n cap :: cs) (⟨ao, cap, l⟩ :: ls)
theorem AllV.cells {H : List Rc} {cs : List Value} {ls : List BSl} (h : AllV H cs ls) : cs = cellsR ls := by
  induction h with
  | nil => rfl
  | cons j n cap v hn hB hc t ih => rw [ih, ← hn]; rfl
theorem AllV.ok {H : List Rc} {cs : List Value} {ls : List BSl} (h : AllV H cs ls) : ∀ x ∈ ls, x.Ok := by
  induction h with
  | nil => simp
  | cons j n cap v hn hB hc t ih =>
    intro x hx
    rcases List.mem_cons.1 hx with rfl | hx
    · exact ⟨hB, by rw [hn]; exact hc.1, hc.2⟩
    · exact ih x hx
theorem AllV.rd {H : List Rc} {w : World} (hA : ∀ x ∈ H, x.A w) {cs : List Value} {ls : List BSl} (h : AllV H cs ls) : ∀ x ∈ ls, Rd w x.ao (B x.b) ∧ ∀ k, Ar x.ao (B x.b) k → ∃ r ∈ H, r.S k := by
  induction h with
  | nil => simp
  | cons j n cap v hn hB hc t ih =>
    intro x hx
    rcases List.mem_cons.1 hx with rfl | hx
    · obtain ⟨h1, h2⟩ := v.A w (gr_A hA j)
      exact ⟨h1, fun k hk => gr_S (h2 k hk)⟩
    · exact ih x hx
theorem HView.rows {H : List Rc} {cs : List Value} {ls : List BSl} {b : Nat} (i : Nat) (t : AllV H cs ls) (h : (gr H i).isBlk = true := by kernel_rfl) (hb : (gr H i).b = b := by kernel_rfl) (hc : (gr H i).c.toList = cs := by kernel_rfl) : HView H (rowsR (star H).S (some ⟨b, 0, none⟩) ls) := fun w hA => by
  subst hb
  have h1 := gr_A hA i
  rw [Rc.blk_eq h] at h1
  have h1 : w.heap[(gr H i).b]? = some (.cells (gr H i).c (gr H i).te (0, 0)) := h1
  refine ⟨⟨?_, fun x hx => (t.rd hA x hx).1, ?_, fun x hx k hk => (t.rd hA x hx).2 k hk, t.ok, ?_⟩, fun k hk => hk⟩
  · rw [← t.cells, ← hc]; exact Rd.of_blk h1
  · rintro k ⟨_, ad, he, rfl⟩
    cases he
    exact gr_S (i := i) (by rw [Rc.blk_eq h]; rfl)
  · rintro k ⟨r, hr, hk⟩
    exact r.inn (hA r hr) k hk
theorem HView.none {H : List Rc} : HView H (rowsR N0 none []) := fun w _ => ⟨RowsAt.none w, fun _ h => h.elim⟩
end
end Go.Alm

namespace Go.Alm
open Go Go.RowKit
theorem View.rows {a : Rc} {fp : Nat → Prop} {ao : Option Addr} {ls : List BSl} (h : a = rowsR fp ao ls := by kernel_rfl) : View a (.rd ao (cellsR ls)) := by subst h; exact ⟨fun w h => ⟨h.rd, h.in1⟩⟩
theorem View.rowsB {a : Rc} {fp : Nat → Prop} {ao : Option Addr} {ls : List BSl} (x : BSl) (hx : x ∈ ls) (h : a = rowsR fp ao ls := by kernel_rfl) : View a (.rd x.ao (B x.b)) := by subst h; exact ⟨fun w h => ⟨h.rdb x hx, h.in2 x hx⟩⟩
section
variable {P : Program} {Q : Exit → Act → World → Prop} {L : List Iv} {s : St} {RO FZ OW : List Rc}
theorem m_rowsok (i : Nat) (fp : Nat → Prop) (ao : Option Addr) (ls : List BSl) (k : (∀ x ∈ ls, x.Ok) → J P Q L s RO FZ OW) (h : gr (RO ++ (FZ ++ OW)) i = rowsR fp ao ls := by kernel_rfl) : J P Q L s RO FZ OW :=
  m_fact i _ (fun w hA => by rw [h] at hA; exact RowsAt.ok hA) k
end
end Go.Alm

namespace Go.Alm
open Go Go.RowKit
theorem parts1 {x : BSl} (hx : x.b.length ≤ 200000) : (partsL [x]).length ≤ 800000 := by simp [partsL, partL_length]; omega
theorem parts2 {x y : BSl} (hx : x.b.length ≤ 200000) (hy : y.b.length ≤ 200000) : (partsL [x, y]).length ≤ 800000 := by simp [partsL, partL_length]; omega
theorem parts3 {x y z : BSl} (hx : x.b.length ≤ 200000) (hy : y.b.length ≤ 200000) (hz : z.b.length ≤ 200000) : (partsL [x, y, z]).length ≤ 800000 := by simp [partsL, partL_length]; omega
theorem parts0 : (partsL []).length ≤ 800000 := by simp [partsL]
theorem bytl {n : Nat} (h : n < 256) : Byt [n] := fun x hx => by rw [List.mem_singleton.1 hx]; exact h
end Go.Alm

/- What is compared: structs and arrays, by what they are told of. -/
namespace Go.Alm
open Go Go.RowKit
theorem hv_size (l : List Nat) : (hv l).size = 32 := by simp [hv]
theorem hv_iff {a b : List Nat} (ha : a.length = 32) (hb : b.length = 32) : hv a = hv b ↔ a = b := by
  constructor
  · intro h
    have h := congrArg Array.toList h
    rw [hv_B ha, hv_B hb] at h
    exact map_inj' (fun x y e => by injection e with _ e; omega) h
  · rintro rfl; rfl
theorem aj_inj {a b c d : Array Value} (h : a.size = b.size) (e : aj a c = aj b d) : a = b ∧ c = d := by
  have e := congrArg Array.toList e
  simp only [aj_toL] at e
  obtain ⟨h1, h2⟩ := List.append_inj e (by simpa using h)
  exact ⟨Array.toList_inj.1 h1, Array.toList_inj.1 h2⟩
theorem lit1_inj {k : IntKind} {m n : Nat} (e : #[Value.int k (m : Int)] = #[Value.int k (n : Int)]) : m = n := by
  have e := congrArg Array.toList e
  simp at e; omega
section
variable {P : Program} {Q : Exit → Act → World → Prop} {L : List Iv} {s : St} {RO FZ OW : List Rc}
def eqT (s : St) : Nat := match eqlOf (cur s).op with | some (_, t, _, _) => t | none => 0
def eqX (s : St) : Operand := match eqlOf (cur s).op with | some (_, _, x, _) => x | none => .tmp 0
def eqY (s : St) : Operand := match eqlOf (cur s).op with | some (_, _, _, y) => y | none => .tmp 0
def eqOk (P : Program) (s : St) (b : Bool) (n : Nat) : Bool := (match eqlOf (cur s).op with | some (b', _, _, _) => b == b' | none => false) && P.keyTypeAt 8 (eqT s) && !P.eqGuardType P.depth (eqT s) && isAggT P (eqT s) && Nat.beq n (P.cellsOf (eqT s)) && onW s
theorem eqOk_spec {b : Bool} {n : Nat} (h : eqOk P s b n = true) : eqlOf (cur s).op = some (b, eqT s, eqX s, eqY s) ∧ P.keyTypeAt 8 (eqT s) = true ∧ P.eqGuardType P.depth (eqT s) = false ∧ isAggT P (eqT s) = true ∧ n = P.cellsOf (eqT s) ∧ onW s = true := by
  unfold eqOk at h
  simp only [Bool.and_eq_true, Bool.not_eq_true'] at h
  obtain ⟨⟨⟨⟨⟨h1, h2⟩, h3⟩, h4⟩, h5⟩, h6⟩ := h
  refine ⟨?_, h2, h3, h4, Nat.eq_of_beq_eq_true h5, h6⟩
  unfold eqT eqX eqY
  cases hl : eqlOf (cur s).op with
  | none => rw [hl] at h1; cases h1
  | some x =>
    obtain ⟨b', t, x, y⟩ := x
    rw [hl] at h1
    simp only [beq_iff_eq] at h1
    subst h1; rfl
/-- Two are compared: two ways. -/
theorem m_eqs (n : Nat) (b : Bool) (cs ds : Array Value) (p : Prop) (hp : cs = ds ↔ p) (w1 : WfA cs) (w2 : WfA ds) (k1 : p → J P Q L (nx (go P n s) (.bool b)) RO FZ OW) (k2 : ¬ p → J P Q L (nx (go P n s) (.bool (!b))) RO FZ OW)
    (hc : eqOk P (go P n s) b cs.size = true := by kernel_rfl) (hz : Nat.beq cs.size ds.size = true := by kernel_rfl) (hx : (go P n s).a.eval (eqX (go P n s)) = .agg cs := by kernel_rfl) (hy : (go P n s).a.eval (eqY (go P n s)) = .agg ds := by kernel_rfl)
    (l1 : (leaves P 8 (eqT (go P n s))).map (·.map some) = some (cs.toList.map kindV) := by kernel_rfl) (l2 : (leaves P 8 (eqT (go P n s))).map (·.map some) = some (ds.toList.map kindV) := by kernel_rfl) : J P Q L s RO FZ OW := by
  obtain ⟨ho, hk, hg, hs, hn, hon⟩ := eqOk_spec hc
  have hm : ds.size = P.cellsOf (eqT (go P n s)) := by rw [← hn]; exact (Nat.eq_of_beq_eq_true hz).symm
  by_cases h : p
  · have e : cs = ds := hp.2 h
    subst e
    exact m_p n _ (fun w => run_eqd_self b 9992 8 _ _ _ cs rfl ho hk hg hs hx hy hn l1 w1) (k1 h) hon
  · exact m_p n _ (fun w => run_eqd_ne b 9992 8 _ _ _ cs ds rfl ho hk hg hs hx hy hn hm l1 l2 w1 w2 fun e => h (hp.1 e)) (k2 h) hon
theorem m_eqT (n : Nat) (b : Bool) (cs : Array Value) (w1 : WfA cs) (k : J P Q L (nx (go P n s) (.bool b)) RO FZ OW)
    (hc : eqOk P (go P n s) b cs.size = true := by kernel_rfl) (hx : (go P n s).a.eval (eqX (go P n s)) = .agg cs := by kernel_rfl) (hy : (go P n s).a.eval (eqY (go P n s)) = .agg cs := by kernel_rfl)
    (l1 : (leaves P 8 (eqT (go P n s))).map (·.map some) = some (cs.toList.map kindV) := by kernel_rfl) : J P Q L s RO FZ OW := by
  obtain ⟨ho, hk, hg, hs, hn, hon⟩ := eqOk_spec hc
  exact m_p n _ (fun w => run_eqd_self b 9992 8 _ _ _ cs rfl ho hk hg hs hx hy hn l1 w1) k hon
end
def hlit (n : Nat) : List Nat := n :: List.replicate 31 0
theorem hlit_ok {n : Nat} (h : n < 256) : H32 (hlit n) := ⟨rfl, fun x hx => by
  rcases List.mem_cons.1 hx with rfl | hx
  · exact h
  · have := List.eq_of_mem_replicate hx; omega⟩
theorem hlit_len (n : Nat) : (hlit n).length = 32 := rfl
end Go.Alm

/- Layer 8's records: told by their cells. -/
namespace Go.Alm
open Go Go.RowKit
theorem ext_ajL {x y : Array Value} {m k n : Nat} (h : x.size = m) : ext (aj x y) (m + k) n = ext y k n := by rw [aj_eq]; exact ext_aj h
theorem EData.size (x : EData) : x.cells.size = 129 := by simp [EData.cells, hv_size, aj_size]
theorem EData.inj {x y : EData} (h : x.Ok) (k : y.Ok) : x.cells = y.cells ↔ x = y := ⟨fun e => by
  unfold EData.cells at e
  obtain ⟨e, e5⟩ := aj_inj (by simp [hv_size, aj_size]) e
  obtain ⟨e, e4⟩ := aj_inj (by simp [hv_size, aj_size]) e
  obtain ⟨e, e3⟩ := aj_inj (by simp [hv_size, aj_size]) e
  obtain ⟨e1, e2⟩ := aj_inj (by simp [hv_size, aj_size]) e
  have e1 := (hv_iff h.led.len k.led.len).1 e1
  have e2 := (hv_iff h.seed.len k.seed.len).1 e2
  have e3 := (hv_iff h.start.len k.start.len).1 e3
  have e4 := (hv_iff h.lock.len k.lock.len).1 e4
  have e5 := lit1_inj e5
  cases x; cases y
  simp_all, fun e => by rw [e]⟩
theorem EPair.inj {x y : EPair} (h : x.Ok) (k : y.Ok) : x.cells = y.cells ↔ x = y := ⟨fun e => by
  unfold EPair.cells at e
  obtain ⟨e1, e2⟩ := aj_inj (by rw [EData.size, EData.size]) e
  have e1 := (EData.inj h.now k.now).1 e1
  have e2 := (EData.inj h.next k.next).1 e2
  cases x; cases y
  simp_all, fun e => by rw [e]⟩
end Go.Alm
