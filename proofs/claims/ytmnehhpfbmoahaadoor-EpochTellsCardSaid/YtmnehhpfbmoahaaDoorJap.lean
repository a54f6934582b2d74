/- The machine's steps: numbers, slices, rows. -/
import Derived.Test.YtmnehhpfbmoahaaDoorJax
namespace Go.Alm
open Go Go.RowKit
section
variable {P : Program} {Q : Exit → Act → World → Prop} {L : List Iv} {s : St} {RO FZ OW : List Rc}

/-! ### numbers -/
theorem m_rem (n : Nat) (kd : IntKind) (a d : Nat) (k : J P Q L (nx (go P n s) (.int kd ((a % d : Nat) : Int))) RO FZ OW)
    (h : pureCur P (go P n s) = some (.int kd ((a : Int).tmod (d : Int))) := by kernel_rfl) (hon : onW (go P n s) = true := by kernel_rfl) : J P Q L s RO FZ OW :=
  m_i n kd _ _ (Int.ofNat_tmod a d).symm k h hon
theorem m_shr (n : Nat) (kd : IntKind) (a e : Nat) (k : J P Q L (nx (go P n s) (.int kd ((a / 2 ^ e : Nat) : Int))) RO FZ OW)
    (h : pureCur P (go P n s) = some (.int kd (Int.fdiv (a : Int) (2 ^ e))) := by kernel_rfl) (hon : onW (go P n s) = true := by kernel_rfl) : J P Q L s RO FZ OW := by
  refine m_i n kd _ _ ?_ k h hon
  have : (2 : Int) ^ e = ((2 ^ e : Nat) : Int) := by simp
  rw [this, Int.fdiv_eq_ediv_of_nonneg _ (Int.natCast_nonneg _)]
  rfl

/-! ### rows -/
def SrcW (P : Program) (sz tx : Nat) (H : List Rc) (xv : Value) (m : Nat) (news : List Value) : Prop := ∀ w, (∀ r ∈ H, r.A w) → Src P sz tx xv m news w
theorem SrcW.str {P : Program} {tx : Nat} {H : List Rc} {xv : Value} (s : ByteArray) (h : P.underlying tx = some .string := by kernel_rfl) (hv : xv = .string s := by kernel_rfl) : SrcW P 1 tx H xv s.size (byteCells s) := fun w _ => hv ▸ Src.ofString _ h s
theorem isSl_spec {P : Program} {t : Nat} (h : isSl P t = true) : ∃ e, P.underlying t = some (.slice e) := by
  unfold isSl at h
  split at h
  · rename_i e ht; exact ⟨e, ht⟩
  · cases h
theorem SrcW.rd {P : Program} {sz tx : Nat} {H : List Rc} {xv : Value} (i : Nat) (m c : Nat) (xs : List Value) (hl : xs.length = m * sz) (h1 : ∀ u ∈ xs, u.oneCell' = true) (hs : 0 < sz := by decide) (ht : isSl P tx = true := by kernel_rfl) (hr : (gr H i).isRd = true := by kernel_rfl) (hx : (gr H i).xs = xs := by kernel_rfl) (hv : xv = .slice (gr H i).ao m c := by kernel_rfl) : SrcW P sz tx H xv m xs :=
  fun w hA => (isSl_spec ht).elim fun e ht => hv ▸ Rd.src ht (by rw [← hx]; exact Rc.rd_of hr (gr_A hA i)) hl hs h1
/-- A cut of a block whose cells are known. -/
theorem SrcW.cut {P : Program} {sz tx : Nat} {H : List Rc} {xv : Value} (i : Nat) (off m c : Nat) (hs : 0 < sz := by decide) (ht : isSl P tx = true := by kernel_rfl) (hr : (gr H i).isBlk = true := by kernel_rfl)
    (h1 : ((((gr H i).c.toList.drop off).take (m * sz)).all (·.oneCell') && Nat.beq (((gr H i).c.toList.drop off).take (m * sz)).length (m * sz)) = true := by kernel_rfl) (hv : xv = .slice (some ⟨(gr H i).b, off, none⟩) m c := by kernel_rfl) : SrcW P sz tx H xv m (((gr H i).c.toList.drop off).take (m * sz)) := fun w hA => by
  have hA := gr_A hA i
  rw [Rc.blk_eq hr] at hA
  rw [Bool.and_eq_true] at h1
  subst hv
  obtain ⟨e, ht⟩ := isSl_spec ht
  exact Rd.src ht (Rd.of_cut hA off (m * sz) rfl) (Nat.eq_of_beq_eq_true h1.2) hs (ones h1.1)
theorem SrcW.news {P : Program} {sz tx m : Nat} {H : List Rc} {xv : Value} {n1 n2 : List Value} (h : SrcW P sz tx H xv m n1) (e : n1 = n2) : SrcW P sz tx H xv m n2 := e ▸ h
theorem SrcW.nil {P : Program} {sz tx : Nat} {H : List Rc} {xv : Value} (c : Nat) (ht : isSl P tx = true := by kernel_rfl) (hv : xv = .slice none 0 c := by kernel_rfl) : SrcW P sz tx H xv 0 [] := fun w _ => (isSl_spec ht).elim fun e ht => hv ▸ Src.ofNil w ht c

def appS (s : St) : Value := s.a.eval ((appendOf (cur s).op).getD (.tmp 0, .tmp 0, 0, 0)).1
def appX (s : St) : Value := s.a.eval ((appendOf (cur s).op).getD (.tmp 0, .tmp 0, 0, 0)).2.1
def appT (s : St) : Nat := ((appendOf (cur s).op).getD (.tmp 0, .tmp 0, 0, 0)).2.2.1
def appTx (s : St) : Nat := ((appendOf (cur s).op).getD (.tmp 0, .tmp 0, 0, 0)).2.2.2
def appOk (P : Program) (s : St) (e sz bytes : Nat) : Bool := (appendOf (cur s).op).isSome && match elemT P (appT s) with
  | some (e', some z, sz', by') => Nat.beq e e' && Nat.beq sz sz' && Nat.beq bytes by' && Nat.beq z.cells.size sz
  | _ => false
/-- Something is appended to a row of the call's own. `N`, `xs`: what the row is; `ys`: what it is then. -/
theorem m_app (n i : Nat) (e sz bytes N m : Nat) (xs news ys : List Value) (src : SrcW P sz (appTx (go P n s)) (RO ++ (FZ ++ OW.eraseIdx i)) (appX (go P n s)) m news) (hb : N + m ≤ maxLen ∧ (N + m) * bytes ≤ 140737488355328) (hy : xs ++ news = ys)
    (k : ∀ ao cap, J P Q L (nx (go P n s) (.slice ao (N + m) cap)) RO FZ (OW.set i (.row e sz ao (N + m) cap ys)))
    (hr : gr OW i = .row e sz (gr OW i).ao N (gr OW i).cap xs := by kernel_rfl) (hv : appS (go P n s) = .slice (gr OW i).ao N (gr OW i).cap := by kernel_rfl)
    (hc : (appOk P (go P n s) e sz bytes && (acts (go P n s) && onW (go P n s))) = true := by kernel_rfl) : J P Q L s RO FZ OW := by
  subst hy
  rw [Bool.and_eq_true] at hc
  refine m_act n (fun w hw Q' => ?_) hc.2
  have hc := hc.1
  unfold appOk at hc
  rw [Bool.and_eq_true] at hc
  obtain ⟨h1, h2⟩ := hc
  have hi : OW[i]? = some (gr OW i) := by
    unfold gr at hr ⊢
    rw [List.getD_eq_getElem?_getD] at hr ⊢
    cases hi : OW[i]? with
    | none => rw [hi] at hr; cases hr
    | some r => rfl
  have hA : (gr OW i).A w := hw.a _ (by simp only [List.mem_append]; exact .inr (.inr (List.mem_of_getElem? hi)))
  have hS : (gr OW i).S = Own (.slice (gr OW i).ao N (gr OW i).cap) := congrArg Rc.S hr
  have hA' : Row w e sz (.slice (gr OW i).ao N (gr OW i).cap) N xs := by rw [hr] at hA; exact hA
  have ho : appendOf (cur (go P n s)).op = some (((appendOf (cur (go P n s)).op).getD (.tmp 0, .tmp 0, 0, 0)).1, ((appendOf (cur (go P n s)).op).getD (.tmp 0, .tmp 0, 0, 0)).2.1, appT (go P n s), appTx (go P n s)) := by
    unfold appT appTx
    cases hl : appendOf (cur (go P n s)).op with
    | none => rw [hl] at h1; cases h1
    | some x => rfl
  split at h2
  · rename_i e' z sz' by' he
    simp only [Bool.and_eq_true] at h2
    obtain ⟨⟨⟨h3, h4⟩, h5⟩, h6⟩ := h2
    obtain rfl := Nat.eq_of_beq_eq_true h3
    obtain rfl := Nat.eq_of_beq_eq_true h4
    obtain rfl := Nat.eq_of_beq_eq_true h5
    have hsrc := src w fun r hr' => hw.a r (by
      simp only [List.mem_append] at hr' ⊢
      rcases hr' with h | h | h
      · exact .inl h
      · exact .inr (.inl h)
      · exact .inr (.inr (List.mem_of_mem_eraseIdx h)))
    refine op_append _ _ _ _ e sz bytes z ho he (Nat.eq_of_beq_eq_true h6) hv hA' rfl hsrc hb.1 hb.2 fun v' w' hrow hF hN => ?_
    obtain ⟨ao, cap, rfl, _, _, _, _⟩ := hrow.read
    exact ⟨_, _, rfl, Hs.set (r' := .row e sz ao (N + m) cap (xs ++ news)) hw hi (by rw [hS]; exact hF) hrow (by rw [hS]; exact hN), k ao cap⟩
  · cases h2
/-- A row's number of elements and cap. -/
theorem m_rowle (i n cap : Nat) (k : n ≤ cap → cap ≤ maxLen → J P Q L s RO FZ OW) (h : ((gr (RO ++ (FZ ++ OW)) i).isRow) = true := by kernel_rfl) (h1 : (gr (RO ++ (FZ ++ OW)) i).n = n := by kernel_rfl) (h2 : (gr (RO ++ (FZ ++ OW)) i).cap = cap := by kernel_rfl) : J P Q L s RO FZ OW := by
  refine m_fact i (n ≤ cap ∧ cap ≤ maxLen) (fun w hA => ?_) fun hh => k hh.1 hh.2
  rw [Rc.row_eq h] at hA
  obtain ⟨ao', cap', hv, h3, h4, _, _⟩ := Row.read hA
  cases hv
  rw [h1] at h3
  rw [h2] at h3 h4
  exact ⟨h3, h4⟩
/-- A block that was just made, as a row. -/
theorem View.made {a : Rc} (e sz n cap : Nat) (xs : List Value) (hb : a.isBlk = true := by kernel_rfl) (he : (Nat.beq a.te e && Nat.beq a.c.size (cap * sz) && Nat.ble n cap && Nat.ble cap maxLen) = true := by kernel_rfl) (hx : a.c.toList.take (n * sz) = xs := by kernel_rfl) : View a (.row e sz (some ⟨a.b, 0, none⟩) n cap xs) := by
  subst hx
  refine ⟨fun w hA => ?_⟩
  simp only [Bool.and_eq_true] at he
  obtain ⟨⟨⟨h1, h2⟩, h3⟩, h4⟩ := he
  rw [Rc.blk_eq hb] at hA ⊢
  obtain rfl := Nat.eq_of_beq_eq_true h1
  refine ⟨Row.made' hA (Nat.eq_of_beq_eq_true h2) (Nat.le_of_ble_eq_true h4) (Nat.le_of_ble_eq_true h3) rfl, ?_⟩
  intro k hk
  have : Own (.slice (some ⟨a.b, 0, none⟩) n cap) k := hk
  rw [Own_one] at this
  exact this
/-- No row, as a row. -/
theorem m_nil (e sz : Nat) (k : J P Q L s RO FZ (.row e sz none 0 0 [] :: OW)) : J P Q L s RO FZ OW := ⟨fun w hw => k.out w (by
  refine Hs.new hw (Fr.refl _ _) (Row.nil _ _ _) fun i hi => ?_
  have : Own (.slice none 0 0) i := hi
  rw [Own_nil] at this
  exact this.elim)⟩
end
end Go.Alm

namespace Go.Alm
open Go Go.RowKit
section
variable {P : Program} {Q : Exit → Act → World → Prop} {L : List Iv} {s : St} {RO FZ OW : List Rc}
theorem m_appB (n i e : Nat) (l l2 l3 : List Nat) (he : l ++ l2 = l3) {m : Nat} (src : SrcW P 1 (appTx (go P n s)) (RO ++ (FZ ++ OW.eraseIdx i)) (appX (go P n s)) m (B l2)) (hm : m = l2.length) (hb : l.length + l2.length ≤ 140737488355328)
    (k : ∀ ao cap, J P Q L (nx (go P n s) (.slice ao l3.length cap)) RO FZ (OW.set i (.row e 1 ao l3.length cap (B l3))))
    (hr : gr OW i = .row e 1 (gr OW i).ao l.length (gr OW i).cap (B l) := by kernel_rfl) (hv : appS (go P n s) = .slice (gr OW i).ao l.length (gr OW i).cap := by kernel_rfl)
    (hc : (appOk P (go P n s) e 1 1 && (acts (go P n s) && onW (go P n s))) = true := by kernel_rfl) : J P Q L s RO FZ OW := by
  subst hm
  subst he
  refine m_app n i e 1 1 l.length l2.length (B l) (B l2) (B (l ++ l2)) src ⟨?_, by omega⟩ (B_append l l2).symm (fun ao cap => ?_) hr hv hc
  · have : maxLen = 9223372036854775807 := rfl
    omega
  · have h := k ao cap
    rw [List.length_append] at h
    exact h
/-! ### elements -/
def oad (ao : Option Addr) : Addr := ao.getD ⟨0, 0, none⟩
def ixT (s : St) : Nat := ((idxAOf (cur s).op).getD (0, .tmp 0, .tmp 0)).1
def ixX (s : St) : Value := s.a.eval ((idxAOf (cur s).op).getD (0, .tmp 0, .tmp 0)).2.1
def ixI (s : St) : Value := s.a.eval ((idxAOf (cur s).op).getD (0, .tmp 0, .tmp 0)).2.2
/-- An element's address in a slice of which it is known that there is one. -/
theorem m_ix (n i sz N k : Nat) (xs : List Value) (kd : IntKind) (hk : k < N) (hx : k * sz < xs.length) (kk : J P Q L (nx (go P n s) (.pointer (some ((oad (gr (RO ++ (FZ ++ OW)) i).ao).add (k * sz))))) RO FZ OW)
    (h1 : ixX (go P n s) = .slice (gr (RO ++ (FZ ++ OW)) i).ao N (match ixX (go P n s) with | .slice _ _ c => c | _ => 0) := by kernel_rfl) (h2 : ixI (go P n s) = .int kd (k : Int) := by kernel_rfl) (h3 : (gr (RO ++ (FZ ++ OW)) i).xs = xs := by kernel_rfl)
    (hc : ((idxAOf (cur (go P n s)).op).isSome && isSl P (ixT (go P n s)) && (elemSz P (ixT (go P n s)) == some sz) && (gr (RO ++ (FZ ++ OW)) i).isRd && onW (go P n s)) = true := by kernel_rfl) : J P Q L s RO FZ OW := by
  simp only [Bool.and_eq_true, beq_iff_eq] at hc
  obtain ⟨⟨⟨⟨h4, h5⟩, h6⟩, h7⟩, h8⟩ := hc
  refine m_fact i (∃ ad, (gr (RO ++ (FZ ++ OW)) i).ao = some ad) (fun w hA => ?_) ?_
  · have := (Rc.rd_of h7 hA).has (k * sz) (by rw [h3]; exact hx)
    exact this
  · rintro ⟨ad, hao⟩
    have e : (.pointer (some ((oad (gr (RO ++ (FZ ++ OW)) i).ao).add (k * sz))) : Value) = .pointer (some (ad.add (k * sz))) := by rw [hao]; rfl
    rw [e] at kk
    refine m_p n _ (fun w => ?_) kk h8
    have ho : idxAOf (cur (go P n s)).op = some (ixT (go P n s), ((idxAOf (cur (go P n s)).op).getD (0, .tmp 0, .tmp 0)).2.1, ((idxAOf (cur (go P n s)).op).getD (0, .tmp 0, .tmp 0)).2.2) := by
      unfold ixT
      cases hl : idxAOf (cur (go P n s)).op with
      | none => rw [hl] at h4; cases h4
      | some x => rfl
    exact run_idx_o _ _ _ sz _ ad N _ kd k ho h5 h6 h1 h2 hao hk
/-- A cell of such an element. -/
theorem m_lx (n i j : Nat) (xs : List Value) (u : Value) (hu : xs[j]? = some u) (k : J P Q L (nx (go P n s) u) RO FZ OW)
    (h1 : (go P n s).a.eval (ldX (go P n s)) = .pointer (some ((oad (gr (RO ++ (FZ ++ OW)) i).ao).add j)) := by kernel_rfl) (h3 : (gr (RO ++ (FZ ++ OW)) i).xs = xs := by kernel_rfl)
    (hc : ((loadOf (cur (go P n s)).op).isSome && (rowed P (ldT (go P n s)) == some false) && (gr (RO ++ (FZ ++ OW)) i).isRd && (onW (go P n s) && rdOk (go P n s) i (RO ++ FZ).length)) = true := by kernel_rfl) : J P Q L s RO FZ OW := by
  simp only [Bool.and_eq_true, beq_iff_eq] at hc
  obtain ⟨⟨⟨h4, h5⟩, h7⟩, h8, h9⟩ := hc
  have ho : loadOf (cur (go P n s)).op = some (ldT (go P n s), ldX (go P n s)) := by
    unfold ldT ldX
    cases hl : loadOf (cur (go P n s)).op with
    | none => rw [hl] at h4; cases h4
    | some x => rfl
  refine m_r n i u (fun w hA => ?_) k h8 h9
  have hR := Rc.rd_of h7 hA
  rw [h3] at hR
  obtain ⟨ad, ha, hc⟩ := hR j u hu
  refine run_loadC _ _ (ad.add j) u ho h5 ?_ hc
  rw [h1, ha]
  rfl
theorem add_add (ad : Addr) (i j : Nat) : (ad.add i).add j = ad.add (i + j) := by
  unfold Addr.add
  by_cases hn : i = 0 <;> by_cases hj0 : j = 0 <;> simp [hn, hj0, Nat.add_assoc]
/-- More cells of it. -/
theorem m_lxN (n i j sz : Nat) (xs : List Value) (vs : Array Value) (hu : (xs.drop j).take sz = vs.toList) (hs : vs.size = sz) (k : J P Q L (nx (go P n s) (.agg vs)) RO FZ OW)
    (h1 : (go P n s).a.eval (ldX (go P n s)) = .pointer (some ((oad (gr (RO ++ (FZ ++ OW)) i).ao).add j)) := by kernel_rfl) (h3 : (gr (RO ++ (FZ ++ OW)) i).xs = xs := by kernel_rfl)
    (hc : ((loadOf (cur (go P n s)).op).isSome && (rowed P (ldT (go P n s)) == some true) && (sizeT P (ldT (go P n s)) == some sz) && Nat.blt 0 sz && (gr (RO ++ (FZ ++ OW)) i).isRd && (onW (go P n s) && rdOk (go P n s) i (RO ++ FZ).length)) = true := by kernel_rfl) : J P Q L s RO FZ OW := by
  simp only [Bool.and_eq_true, beq_iff_eq] at hc
  obtain ⟨⟨⟨⟨⟨h4, h5⟩, h6⟩, h0⟩, h7⟩, h8, h9⟩ := hc
  have ho : loadOf (cur (go P n s)).op = some (ldT (go P n s), ldX (go P n s)) := by
    unfold ldT ldX
    cases hl : loadOf (cur (go P n s)).op with
    | none => rw [hl] at h4; cases h4
    | some x => rfl
  refine m_r n i (.agg vs) (fun w hA => ?_) k h8 h9
  have hR := Rc.rd_of h7 hA
  rw [h3] at hR
  have h0' : 0 < sz := by simpa using h0
  obtain ⟨ad, ha⟩ : ∃ ad, (gr (RO ++ (FZ ++ OW)) i).ao = some ad := by
    refine hR.has j ?_
    have : ((xs.drop j).take sz).length = sz := by rw [hu]; simpa using hs
    rw [List.length_take, List.length_drop] at this
    omega
  exact run_loadEn _ _ _ ad j sz xs vs ho h5 h6 (by rw [h1, ha]; rfl) ha hR hs hu
end
end Go.Alm

namespace Go.Alm
open Go Go.RowKit
section
variable {P : Program} {Q : Exit → Act → World → Prop} {L : List Iv} {s : St} {RO FZ OW : List Rc}
def biX (s : St) : Operand := ((binOf (cur s).op).getD (.add, .tmp 0, .tmp 0)).2.1
def biY (s : St) : Operand := ((binOf (cur s).op).getD (.add, .tmp 0, .tmp 0)).2.2
/-- A shift to the right by what is not known. -/
abbrev dv (a e : Nat) : Nat := a / 2 ^ e
theorem m_shrv (n : Nat) (kd kd' : IntKind) (a e : Nat) (he : e < 64) (ha : a < 18446744073709551616) (k : J P Q L (nx (go P n s) (.int kd ((dv a e : Nat) : Int))) RO FZ OW)
    (h1 : (binOf (cur (go P n s)).op).map (·.1) = some .shr := by kernel_rfl) (h2 : (go P n s).a.eval (biX (go P n s)) = .int kd (a : Int) := by kernel_rfl) (h3 : (go P n s).a.eval (biY (go P n s)) = .int kd' (e : Int) := by kernel_rfl) (h4 : (kd.bits == 64) = true := by kernel_rfl) (hon : onW (go P n s) = true := by kernel_rfl) : J P Q L s RO FZ OW := by
  refine m_p n _ (fun w => ?_) k hon
  have ho : binOf (cur (go P n s)).op = some (.shr, biX (go P n s), biY (go P n s)) := by
    unfold biX biY
    cases hl : binOf (cur (go P n s)).op with
    | none => rw [hl] at h1; cases h1
    | some x => rw [hl] at h1; simp only [Option.map_some, Option.some.injEq] at h1; rw [← h1]; rfl
  rw [run_shr _ _ _ _ ho h2 h3 (Int.natCast_nonneg _)]
  have hb : kd.bits = 64 := by simpa using h4
  have e1 : min ((e : Int)).toNat kd.bits = e := by rw [hb, Int.toNat_natCast]; omega
  rw [e1]
  have : (2 : Int) ^ e = ((2 ^ e : Nat) : Int) := by simp
  rw [this, Int.fdiv_eq_ediv_of_nonneg _ (Int.natCast_nonneg _)]
  rfl
theorem m_mod8 (n x : Nat) (k : J P Q L (nx (go P n s) (.int .u8 ((x % 256 : Nat) : Int))) RO FZ OW) (h : pureCur P (go P n s) = some (.int .u8 (IntKind.u8.wrap (x : Int))) := by kernel_rfl) (hon : onW (go P n s) = true := by kernel_rfl) : J P Q L s RO FZ OW :=
  m_i n .u8 _ _ (by rw [wrap_u8]; omega) k h hon
theorem m_mod32 (n x : Nat) (k : J P Q L (nx (go P n s) (.int .u32 ((x % 4294967296 : Nat) : Int))) RO FZ OW) (h : pureCur P (go P n s) = some (.int .u32 (IntKind.u32.wrap (x : Int))) := by kernel_rfl) (hon : onW (go P n s) = true := by kernel_rfl) : J P Q L s RO FZ OW :=
  m_i n .u32 _ _ (by rw [wrap_u32]; omega) k h hon
theorem m_mod64 (n x : Nat) (k : J P Q L (nx (go P n s) (.int .u64 ((x % 18446744073709551616 : Nat) : Int))) RO FZ OW) (h : pureCur P (go P n s) = some (.int .u64 (IntKind.u64.wrap (x : Int))) := by kernel_rfl) (hon : onW (go P n s) = true := by kernel_rfl) : J P Q L s RO FZ OW :=
  m_i n .u64 _ _ (by rw [wrap_u64]; omega) k h hon
end
end Go.Alm

namespace Go.Alm
open Go Go.RowKit
section
variable {P : Program} {L : List Iv} {s : St} {OW : List Rc}
/-! ### results that lie in cells -/
def cellV (P : Program) (v : Value) (ty : Nat) (r : Rc) : Value := match rowed P ty with
  | some true => .agg (ext r.c (offOf v) ((sizeT P ty).getD 0))
  | _ => (r.c.toList[offOf v]?).getD undef
def cellOk (P : Program) (v : Value) (ty : Nat) (r : Rc) : Bool := r.isBlk && match rowed P ty with
  | some true => (sizeT P ty).isSome && Nat.ble (offOf v + (sizeT P ty).getD 0) r.c.size
  | some false => (r.c.toList[offOf v]?).isSome
  | none => false
def resV (P : Program) (H : List Rc) (a : Act) : List ResultVar → List Nat → List Value
  | .tmp t :: rs, _ :: is => a.tmps.getD t undef :: resV P H a rs is
  | .cell t ty :: rs, i :: is => cellV P (a.tmps.getD t undef) ty (gr H i) :: resV P H a rs is
  | _, _ => []
def resK (P : Program) (H : List Rc) (a : Act) : List ResultVar → List Nat → Bool
  | .tmp _ :: rs, _ :: is => resK P H a rs is
  | .cell t ty :: rs, i :: is => cellOk P (a.tmps.getD t undef) ty (gr H i) && resK P H a rs is
  | [], [] => true
  | _, _ => false
def resA (a : Act) : List ResultVar → List Nat → List Value
  | .tmp _ :: rs, _ :: is => resA a rs is
  | .cell t _ :: rs, _ :: is => a.tmps.getD t undef :: resA a rs is
  | _, _ => []
def resB (H : List Rc) (a : Act) : List ResultVar → List Nat → List Value
  | .tmp _ :: rs, _ :: is => resB H a rs is
  | .cell t _ :: rs, i :: is => .pointer (some ⟨(gr H i).b, offOf (a.tmps.getD t undef), none⟩) :: resB H a rs is
  | _, _ => []
theorem res_L {H : List Rc} {w : World} (hA : ∀ r ∈ H, r.A w) {a : Act} : ∀ (rs : List ResultVar) (is : List Nat), resK P H a rs is = true → resA a rs is = resB H a rs is → ResL P a w rs (resV P H a rs is)
  | [], [], _, _ => trivial
  | [], _ :: _, h, _ => by cases h
  | .tmp t :: rs, _ :: is, h, e => ⟨ResOne.tmp rfl, res_L hA rs is h e⟩
  | .cell t ty :: rs, i :: is, h, e => by
    simp only [resK, Bool.and_eq_true] at h
    simp only [resA, resB, List.cons.injEq] at e
    refine ⟨?_, res_L hA rs is h.2 e.2⟩
    have hk := h.1
    unfold cellOk at hk
    rw [Bool.and_eq_true] at hk
    have hb := gr_A hA i
    rw [Rc.blk_eq hk.1] at hb
    have hb : w.heap[(gr H i).b]? = some (.cells (gr H i).c (gr H i).te (0, 0)) := hb
    unfold cellV
    cases hr : rowed P ty with
    | none => rw [hr] at hk; cases hk.2
    | some b =>
      rw [hr] at hk
      cases b with
      | true =>
        simp only [Bool.and_eq_true] at hk
        obtain ⟨_, h6, h7⟩ := hk
        cases hn : sizeT P ty with
        | none => rw [hn] at h6; cases h6
        | some n => rw [hn] at h7; exact ResOne.cellN e.1 hr hn hb h7 (ext_eq _ _ _)
      | false =>
        obtain ⟨_, hk⟩ := hk
        simp only [Array.getElem?_toList] at hk ⊢
        cases hc : (gr H i).c[offOf (a.tmps.getD t undef)]? with
        | none => rw [hc] at hk; cases hk
        | some v => exact ResOne.cell1 e.1 hr hb hc
  | .tmp _ :: _, [], h, _ => by cases h
  | .cell _ _ :: _, [], h, _ => by cases h
theorem m_retC {f : Nat} {F : Re} {R : Value → List Rc → Prop} {ro : List Rc} (n : Nat) (is : List Nat) (v : Value) (idx : List Nat) (hR : R v (pick idx OW).1) (h1 : outOk (go P n s) = true := by kernel_rfl)
    (h2 : resK P ((.gen F :: ro) ++ OW) (go P n s).a (fnOf P f).results.toList is = true := by kernel_rfl) (h3 : resA (go P n s).a (fnOf P f).results.toList is = resB ((.gen F :: ro) ++ OW) (go P n s).a (fnOf P f).results.toList is := by kernel_rfl)
    (hr : oneOf (resV P ((.gen F :: ro) ++ OW) (go P n s).a (fnOf P f).results.toList is) = v := by kernel_rfl) : J P (DoesPost P f F R) L s (.gen F :: ro) [] OW := by
  refine m_go n ?_
  generalize go P n s = t at *
  obtain ⟨ps, K, a, r⟩ := t
  unfold outOk at h1
  simp only [Bool.and_eq_true, List.isEmpty_iff] at h1
  obtain ⟨⟨h4, h5⟩, h6⟩ := h1
  have hp := pick_perm idx OW
  have fin : ∀ w, Hs w (.gen F :: ro) ([] ++ OW) → Hs w [.gen F] (pick idx OW).1 := fun w hw => ((hw.perm hp).own).ro (by simp)
  refine ⟨fun w hw => ?_⟩
  subst h5
  have hrun : (results (fnOf P f) a.tmps).run P w = .ok v w := by
    rw [← hr]
    exact run_results' (fn := fnOf P f) _ rfl (res_L (P := P) (a := a) hw.a _ _ h2 h3)
  cases ps with
  | out e =>
    cases e with
    | normal => exact ⟨h6, v, hrun, v, _, hR, rfl, fin w hw⟩
    | ret => exact ⟨h6, v, hrun, v, _, hR, rfl, fin w hw⟩
    | _ => cases h4
  | _ => cases h4
end
end Go.Alm

namespace Go.Alm
open Go Go.RowKit
section
variable {P : Program} {Q : Exit → Act → World → Prop} {L : List Iv} {s : St} {RO OW : List Rc}
/-- A region whose order is open, by hand. -/
theorem m_raw (n : Nat) (S : World → Prop) (sk : Nat → Bool) (π : List (Nat × PK)) (k : ∀ w, Hs w RO ([] ++ OW) → plAt P (plOps (go P n s)) (fun a w => post P Q L none (go P n s).K .normal a w) S sk π 0 (go P n s).a w)
    (h : (isDraw (go P n s) && (go P n s).r.isNone && P.follows .mixedOrders && Region.noSelect (plOps (go P n s)) && Nat.beq π.length (plOps (go P n s)).size && planB (plOps (go P n s)) sk π (Array.replicate (plOps (go P n s)).size false)) = true := by kernel_rfl) : J P Q L s RO [] OW := by
  refine m_go n ?_
  generalize go P n s = t at *
  obtain ⟨ps, K, a, r⟩ := t
  simp only [Bool.and_eq_true] at h
  obtain ⟨⟨⟨⟨⟨h1, h0⟩, h2⟩, h3⟩, h4⟩, h5⟩ := h
  obtain rfl : r = none := by simpa using h0
  have h4 := Nat.eq_of_beq_eq_true h4
  cases ps with
  | code c =>
    cases c with
    | region id ops d =>
      cases d with
      | false => cases h1
      | true =>
        simp only [plOps] at h3 h4 h5 k
        refine ⟨fun w hw => ?_⟩
        refine wpIn_wide.2 (Code.wp_mono (Q := OnlyN (fun a w => post P Q L none K .normal a w)) (fun e a w hq => by cases e <;> first | exact hq | exact hq.elim) ?_)
        refine wp_region_any h2 (wpAny_of_P (S := S) (sk := sk) _ _ _ _ ?_)
        rw [← h4]
        refine plan_any h3 (fun _ _ _ h => h) π _ a _ (fun j oj _ hl => ?_) (h4 ▸ h5) ?_
        · rw [getD_rep] at hl; cases hl
        · have := (k _ (hw.keep (Fr.refl _ _).drew)).out
          exact this
    | _ => cases h1
  | _ => cases h1
theorem Hs.setB {w w' : World} {FZ : List Rc} {b te : Nat} {c : Array Value} (c' : Array Value) (i : Nat) (h : Hs w RO (FZ ++ OW)) (hi : OW[i]? = some (.blk b c te)) (F : Fr w w' (One b)) (g : w'.heap[b]? = some (.cells c' te (0, 0))) : Hs w' RO (FZ ++ OW.set i (.blk b c' te)) :=
  Hs.set (r := .blk b c te) (r' := .blk b c' te) h hi F g (show New w (One b) (One b) from New.refl _ _)
theorem pl_end {ops : Array Oper} {S : World → Prop} {sk : Nat → Bool} {π : List (Nat × PK)} {n : Nat} {a : Act} {w : World} {K : List Ct} (h : n = π.length) (hw : Hs w RO ([] ++ OW)) (k : J P Q L ⟨.out .normal, K, a, none⟩ RO [] OW) : plAt P ops (fun a w => post P Q L none K .normal a w) S sk π n a w := pl_done h (k.out w hw)
abbrev aj' (a b : Array Value) : Array Value := a ++ b
theorem ext_aj {x y : Array Value} {m k n : Nat} (h : x.size = m) : ext (aj' x y) (m + k) n = ext y k n := by
  subst h
  apply Array.toList_inj.1
  have h : List.drop (x.size + k) x.toList = [] := List.drop_eq_nil_of_le (by simp)
  simp [ext, aj', List.drop_append, h]
end
end Go.Alm
