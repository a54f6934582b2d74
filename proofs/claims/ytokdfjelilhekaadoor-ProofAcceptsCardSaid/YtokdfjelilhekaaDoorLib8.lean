/- Plain lemmas and laws of the machine that the walks use; without conditions of their own. -/
import Derived.Test.YtokdfjelilhekaaDoorLib7
import Derived.Test.YtokdfjelilhekaaDoorLib5
import Derived.Test.YtokdfjelilhekaaDoorLib3
import Derived.Test.YtokdfjelilhekaaDoorLib2
import Derived.Test.YtokdfjelilhekaaDoorLib4
import Derived.Test.YtokdfjelilhekaaDoorLib6
/- Layer 16 by the machine: copying; a path out of bytes. -/
namespace Go.Alm
open Go Go.RowKit
def cpS (s : St) : Operand := ((copyOf (cur s).op).getD (.tmp 0, .tmp 0, 0, 0)).1
def cpX (s : St) : Operand := ((copyOf (cur s).op).getD (.tmp 0, .tmp 0, 0, 0)).2.1
def cpT (s : St) : Nat := ((copyOf (cur s).op).getD (.tmp 0, .tmp 0, 0, 0)).2.2.1
theorem srcRd {RO : List Rc} (j : Nat) (ao : Option Addr) (ys : List Value) (h1 : (gr RO j).isRd = true := by kernel_rfl) (h2 : (gr RO j).ao = ao := by kernel_rfl) (h3 : (gr RO j).xs = ys := by kernel_rfl) : ∀ w, (∀ r ∈ RO, r.A w) → Rd w ao ys := fun w h => by
  have := Rc.rd_of h1 (gr_A h j)
  rw [h2, h3] at this; exact this
section
variable {P : Program} {Q : Exit → Act → World → Prop} {L : List Iv} {s : St} {RO FZ OW : List Rc}
/-- Bytes are copied into a block. -/
theorem m_copy (n i b off dLen dCap te sLen sCap mm : Nat) (ao : Option Addr) (ys : List Value) (c c' : Array Value) (src : ∀ w, (∀ r ∈ RO, r.A w) → Rd w ao ys) (hy : ys.length = sLen) (h1 : ∀ u ∈ ys, u.oneCell' = true) (hle : off + min sLen dLen ≤ c.size) (hm : min sLen dLen = mm) (hc' : spl c off (ys.take dLen).toArray = c')
    (k : J P Q L (nx (go P n s) (.int .i64 ((mm : Nat) : Int))) RO FZ (OW.set i (.blk b c' te)))
    (hs : (go P n s).a.eval (cpS (go P n s)) = .slice (some ⟨b, off, none⟩) dLen dCap := by kernel_rfl) (hx : (go P n s).a.eval (cpX (go P n s)) = .slice ao sLen sCap := by kernel_rfl) (hr : gr OW i = .blk b c te := by kernel_rfl)
    (hc : ((copyOf (cur (go P n s)).op).isSome && isSl P (cpT (go P n s)) && (elemSz P (cpT (go P n s)) == some 1) && Nat.blt i OW.length && (acts (go P n s) && onW (go P n s))) = true := by kernel_rfl) : J P Q L s RO FZ OW := by
  simp only [Bool.and_eq_true, beq_iff_eq] at hc
  obtain ⟨⟨⟨⟨h4, h5⟩, h6⟩, h7⟩, h8⟩ := hc
  have hlt : i < OW.length := by simpa using h7
  have hi : OW[i]? = some (.blk b c te) := by
    have := hr
    unfold gr at this
    rw [List.getD_eq_getElem?_getD, List.getElem?_eq_getElem hlt, Option.getD_some] at this
    rw [List.getElem?_eq_getElem hlt, this]
  refine m_act n (fun w hw _ => ?_) (by rw [Bool.and_eq_true]; exact h8)
  have hA : w.heap[b]? = some (.cells c te (0, 0)) := hw.a (.blk b c te) (by simp only [List.mem_append]; exact .inr (.inr (List.mem_of_getElem? hi)))
  have hR := src w fun r hr => hw.a r (by simp only [List.mem_append]; exact .inl hr)
  have ho : copyOf (cur (go P n s)).op = some (cpS (go P n s), cpX (go P n s), cpT (go P n s), ((copyOf (cur (go P n s)).op).getD (.tmp 0, .tmp 0, 0, 0)).2.2.2) := by
    unfold cpS cpX cpT
    cases hl : copyOf (cur (go P n s)).op with
    | none => rw [hl] at h4; cases h4
    | some x => rfl
  subst hm
  exact op_copy _ _ _ _ ho h5 h6 b off dLen dCap ao sLen sCap ys c te c' hs hx hA hR hy h1 hle hc' fun w' hb _ F => ⟨_, _, rfl, Hs.set (r' := .blk b c' te) hw hi F hb (New.refl _ _), k⟩
end
theorem B_dropE (b : List Nat) (n : Nat) : ((B b).drop (n * 1)).take ((b.length - n) * 1) = B (b.drop n) := by
  rw [B_cut, List.take_of_length_le (by rw [List.length_drop]; exact Nat.le_refl _)]
theorem B_take32 {L : List Nat} (h : 32 ≤ L.length) : ((B L).take 32).toArray = hv (L.take 32) := by
  apply Array.ext'
  rw [hv_B (by rw [List.length_take]; omega)]
  simp [B, List.map_take]
theorem p4_size (p : Path4) : p.cells.size = 128 := by unfold Path4.cells; simp only [aj_size, hv_size]
theorem p4_cp0 {a b c d L : List Nat} (h : 32 ≤ L.length) : spl (⟨a, b, c, d⟩ : Path4).cells 0 ((B L).take 32).toArray = (⟨L.take 32, b, c, d⟩ : Path4).cells := by
  rw [B_take32 h]; unfold Path4.cells
  rw [spl_l (by simp [aj_size, hv_size]), spl_l (by simp [aj_size, hv_size]), spl_l (by simp [aj_size, hv_size]), spl_all (by simp [hv_size])]
theorem p4_cp1 {a b c d L : List Nat} (h : 32 ≤ L.length) : spl (⟨a, b, c, d⟩ : Path4).cells 32 ((B L).take 32).toArray = (⟨a, L.take 32, c, d⟩ : Path4).cells := by
  rw [B_take32 h]; unfold Path4.cells
  rw [spl_l (by simp [aj_size, hv_size]), spl_l (by simp [aj_size, hv_size]), spl_r (o := 0) (by simp [aj_size, hv_size]), spl_all (by simp [hv_size])]
theorem p4_cp2 {a b c d L : List Nat} (h : 32 ≤ L.length) : spl (⟨a, b, c, d⟩ : Path4).cells 64 ((B L).take 32).toArray = (⟨a, b, L.take 32, d⟩ : Path4).cells := by
  rw [B_take32 h]; unfold Path4.cells
  rw [spl_l (by simp [aj_size, hv_size]), spl_r (o := 0) (by simp [aj_size, hv_size]), spl_all (by simp [hv_size])]
theorem p4_cp3 {a b c d L : List Nat} (h : 32 ≤ L.length) : spl (⟨a, b, c, d⟩ : Path4).cells 96 ((B L).take 32).toArray = (⟨a, b, c, L.take 32⟩ : Path4).cells := by
  rw [B_take32 h]; unfold Path4.cells
  rw [spl_r (o := 0) (by simp [aj_size, hv_size]), spl_all (by simp [hv_size])]
/-! ### byte by byte -/
def rpC (l : List Nat) (i : Nat) : Array Value := (B (l.take i ++ List.replicate (128 - i) 0)).toArray
theorem rp_size {l : List Nat} {i : Nat} (hl : l.length = 128) (hi : i ≤ 128) : (rpC l i).size = 128 := by
  unfold rpC
  rw [List.size_toArray, B_length, List.length_append, List.length_take, List.length_replicate]; omega
theorem rp_0 (l : List Nat) : rpC l 0 = (⟨Z32, Z32, Z32, Z32⟩ : Path4).cells := by kernel_rfl
theorem rp_put {l : List Nat} {i p : Nat} (hp : p = i) (hi : i < 128) (hl : l.length = 128) : spl (rpC l i) p #[.int .u8 ((l.getD i 0 : Nat) : Int)] = rpC l (i + 1) := by
  subst hp
  unfold rpC
  apply Array.ext'
  have hti : (B (l.take p)).length = p := by rw [B_length, List.length_take]; omega
  have e : List.replicate (128 - p) 0 = 0 :: List.replicate (128 - (p + 1)) 0 := by rw [show 128 - p = (128 - (p + 1)) + 1 by omega]; rfl
  have e2 : l.take (p + 1) = l.take p ++ [l.getD p 0] := by
    rw [List.take_add_one, List.getElem?_eq_getElem (by omega), List.getD_eq_getElem?_getD, List.getElem?_eq_getElem (by omega)]; rfl
  simp only [spl, e, e2, B_append]
  have e3 : B (0 :: List.replicate (128 - (p + 1)) 0) = B [0] ++ B (List.replicate (128 - (p + 1)) 0) := rfl
  rw [e3]
  have l1 : (B (l.take p) ++ (B [0] ++ B (List.replicate (128 - (p + 1)) 0))).take p = B (l.take p) := by rw [List.take_append_of_le_length (by omega), List.take_of_length_le (by omega)]
  have l2 : (B (l.take p) ++ (B [0] ++ B (List.replicate (128 - (p + 1)) 0))).drop (p + 1) = B (List.replicate (128 - (p + 1)) 0) := by
    have h1 : (B (l.take p) ++ (B [0] ++ B (List.replicate (128 - (p + 1)) 0))).drop p = B [0] ++ B (List.replicate (128 - (p + 1)) 0) := by
      rw [List.drop_append_of_le_length (by rw [hti]; exact Nat.le_refl _), List.drop_of_length_le (by rw [hti]; exact Nat.le_refl _), List.nil_append]
    rw [← List.drop_drop, h1]; rfl
  simp only [l1]
  show B (l.take p) ++ [_] ++ ((B (l.take p) ++ (B [0] ++ B (List.replicate (128 - (p + 1)) 0))).drop (p + 1)) = _
  rw [l2]; rfl
theorem rp_end {l : List Nat} (hB : Byt l) (h : rdE l = 0) : rpC l 128 = (rdP l).cells := by
  have hl := rdE_len h
  have hok := rdP_ok hB
  rw [rdP_0 h] at hok ⊢
  apply Array.ext'
  unfold rpC Path4.cells
  have hj : ∀ A C : Array Value, (aj A C).toList = A.toList ++ C.toList := fun _ _ => rfl
  simp only [hj]
  obtain ⟨ka, kb, kc, kd⟩ := hok
  rw [hv_B ka.len, hv_B kb.len, hv_B kc.len, hv_B kd.len, ← B_append, ← B_append, ← B_append]
  show B (l.take 128 ++ List.replicate (128 - 128) 0) = _
  congr 1
  rw [List.take_of_length_le (by omega), show List.replicate (128 - 128) 0 = ([] : List Nat) from rfl, List.append_nil]
  have h4 : (((l.drop 32).drop 32).drop 32).take 32 = ((l.drop 32).drop 32).drop 32 := List.take_of_length_le (by simp only [List.length_drop]; omega)
  rw [h4, List.append_assoc, List.append_assoc, List.take_append_drop, List.take_append_drop, List.take_append_drop]
end Go.Alm

/- Layer 16: some digests, one by one. -/
namespace Go.Alm
open Go Go.RowKit
def awB : Acct := ⟨⟨#[97]⟩, 5, 0⟩
def dg_none : List Nat := [29, 80, 10, 234, 55, 60, 6, 13, 11, 38, 141, 169, 210, 137, 43, 134, 89, 81, 9, 92, 70, 8, 128, 113, 126, 130, 89, 219, 104, 210, 148, 223]
def dg_b1 : List Nat := [161, 113, 220, 125, 84, 74, 39, 99, 154, 113, 243, 65, 220, 165, 126, 47, 10, 224, 253, 170, 96, 221, 200, 194, 175, 119, 119, 122, 48, 109, 59, 134]
def dg_b2 : List Nat := [93, 103, 193, 116, 37, 149, 220, 15, 13, 30, 243, 223, 84, 237, 186, 82, 94, 15, 212, 253, 249, 146, 81, 248, 100, 136, 1, 85, 47, 108, 187, 109]
def dg_b3 : List Nat := [69, 213, 34, 234, 58, 147, 51, 85, 26, 7, 192, 118, 60, 32, 110, 154, 82, 172, 211, 188, 39, 198, 2, 108, 221, 141, 82, 4, 196, 125, 46, 9]
def dg_lf : List Nat := [178, 51, 235, 14, 39, 39, 113, 115, 139, 23, 254, 227, 163, 82, 86, 64, 85, 21, 106, 95, 38, 40, 105, 132, 233, 144, 192, 73, 18, 17, 119, 54]
def dg_n1 : List Nat := [217, 0, 48, 97, 157, 63, 2, 220, 206, 23, 106, 131, 213, 195, 18, 32, 204, 65, 209, 9, 90, 74, 193, 45, 249, 45, 211, 21, 154, 146, 166, 52]
def dg_n2 : List Nat := [101, 146, 139, 123, 66, 182, 36, 167, 249, 44, 152, 41, 219, 37, 52, 133, 152, 136, 183, 238, 56, 8, 58, 122, 50, 27, 110, 69, 27, 184, 199, 26]
def dg_n3 : List Nat := [132, 223, 6, 40, 199, 105, 111, 186, 135, 207, 12, 44, 224, 129, 111, 44, 203, 75, 194, 218, 2, 178, 118, 214, 130, 93, 92, 21, 210, 37, 137, 55]
def dg_n4 : List Nat := [188, 136, 143, 103, 69, 119, 215, 84, 210, 215, 37, 178, 161, 167, 182, 190, 194, 111, 217, 235, 24, 151, 242, 184, 155, 193, 52, 33, 233, 150, 104, 215]
def dg_m1 : List Nat := [84, 155, 245, 188, 118, 141, 16, 90, 187, 114, 170, 157, 221, 166, 156, 121, 117, 209, 171, 50, 66, 106, 150, 198, 52, 249, 10, 200, 104, 101, 245, 243]
def dg_m2 : List Nat := [186, 101, 40, 237, 248, 24, 21, 254, 85, 99, 8, 93, 93, 32, 183, 43, 16, 238, 208, 60, 131, 58, 227, 71, 112, 4, 109, 210, 203, 209, 24, 221]
def dg_m3 : List Nat := [68, 35, 95, 9, 220, 119, 188, 197, 141, 205, 191, 114, 94, 190, 242, 95, 184, 132, 108, 49, 197, 189, 187, 201, 213, 110, 163, 171, 253, 149, 29, 205]
def dg_m4 : List Nat := [57, 27, 11, 39, 138, 243, 242, 222, 85, 184, 126, 125, 0, 189, 166, 208, 198, 188, 108, 168, 186, 252, 78, 52, 173, 34, 13, 126, 82, 19, 175, 163]
theorem e_none : accNone = dg_none := by kernel_rfl
theorem e_lf : accHa awB = dg_lf := by kernel_rfl
theorem e_b1 : joinL 1 dg_none dg_none = dg_b1 := by kernel_rfl
theorem e_b2 : joinL 2 dg_b1 dg_b1 = dg_b2 := by kernel_rfl
theorem e_b3 : joinL 3 dg_b2 dg_b2 = dg_b3 := by kernel_rfl
theorem e_n1 : joinL 1 dg_none dg_lf = dg_n1 := by kernel_rfl
theorem e_n2 : joinL 2 dg_n1 dg_b1 = dg_n2 := by kernel_rfl
theorem e_n3 : joinL 3 dg_n2 dg_b2 = dg_n3 := by kernel_rfl
theorem e_n4 : joinL 4 dg_b3 dg_n3 = dg_n4 := by kernel_rfl
theorem e_m1 : joinL 1 dg_lf dg_none = dg_m1 := by kernel_rfl
theorem e_m2 : joinL 2 dg_m1 dg_b1 = dg_m2 := by kernel_rfl
theorem e_m3 : joinL 3 dg_m2 dg_b2 = dg_m3 := by kernel_rfl
theorem e_m4 : joinL 4 dg_b3 dg_m3 = dg_m4 := by kernel_rfl
theorem n4_m4 : ¬ dg_m4 = dg_n4 := by decide
theorem e_bare1 : bareL 1 = dg_b1 := by show joinL 1 accNone accNone = _; rw [e_none, e_b1]
theorem e_bare2 : bareL 2 = dg_b2 := by show joinL 2 (bareL 1) (bareL 1) = _; rw [e_bare1, e_b2]
theorem e_bare3 : bareL 3 = dg_b3 := by show joinL 3 (bareL 2) (bareL 2) = _; rw [e_bare2, e_b3]
end Go.Alm

/- Layer 16: what is asked first; a tree's paths are accepted. -/
namespace Go.Alm
open Go Go.RowKit
def awN : TM := setM [] 9 awB
theorem awB_ok : awB.Ok := ⟨by decide, by decide, by decide⟩
theorem awB_r : rightS awB.s = true := by kernel_rfl
theorem awB_e : accE awB.s = 0 := accE_yes awB_r
theorem p9 : placeOk 9 := by decide
theorem p8 : placeOk 8 := by decide
theorem awSetB : setT [] 9 awB = awN := setT_yes p9 awB_r
theorem awN_ok : TrOk awN := TrOk.nil.set p9 awB_ok awB_r
def awP9 : Path4 := pathP (getM awN) 9
def awR9 : List Nat := nodeL (getM awN) 4 0
theorem awP9_ok : awP9.Ok := pathP_ok _ _
theorem awR9_ok : H32 awR9 := nodeL_ok _ _ _
theorem awPE9 : pathE 9 = 0 := pathE_yes p9
theorem awLead9 : leadL 9 (accHa awB) awP9 = awR9 := by
  rw [leadL_yes (pl := 9) (q := 9) rfl (by decide), awP9, pathP_yes (pl := 9) (q := 9) rfl (by decide)]
  exact lead_path (g := getM awN) (q := 9) (by decide)
theorem awP9_is : awP9 = ⟨dg_none, dg_b1, dg_b2, dg_b3⟩ := by
  have g : ∀ h q : Nat, (∀ k : Nat, q * 2 ^ h ≤ k → k < (q + 1) * 2 ^ h → k ≠ 9) → nodeL (getM awN) h q = bareL h := fun h q hk => nodeL_bare (M := awN) fun k h1 h2 => by
    have := hk k h1 h2
    show (if (9 : Int) = (k : Int) then some awB else none) = none
    rw [if_neg (by omega)]
  have h0 : pathL (getM awN) 9 0 = bareL 0 := g 0 8 (fun k h1 h2 => by omega)
  have h1 : pathL (getM awN) 9 1 = bareL 1 := g 1 5 (fun k h1 h2 => by omega)
  have h2 : pathL (getM awN) 9 2 = bareL 2 := g 2 3 (fun k h1 h2 => by omega)
  have h3 : pathL (getM awN) 9 3 = bareL 3 := g 3 0 (fun k h1 h2 => by omega)
  rw [awP9, pathP_yes (pl := 9) (q := 9) rfl (by decide), h0, h1, h2, h3, show bareL 0 = accNone from rfl, e_none, e_bare1, e_bare2, e_bare3]
theorem awR9_is : awR9 = dg_n4 := by
  rw [← awLead9, leadL_yes (pl := 9) (q := 9) rfl (by decide), awP9_is, e_lf]
  unfold leadN
  rw [up_1 (q := 9) (h := 0) (by decide), e_n1, up_0 (q := 9) (h := 1) (by decide), e_n2, up_0 (q := 9) (h := 2) (by decide), e_n3, up_1 (q := 9) (h := 3) (by decide), e_n4]
theorem awLead8 : ¬ leadL 8 (accHa awB) awP9 = awR9 := by
  rw [awR9_is, leadL_yes (pl := 8) (q := 8) rfl (by decide), awP9_is, e_lf]
  unfold leadN
  rw [up_0 (q := 8) (h := 0) (by decide), e_m1, up_0 (q := 8) (h := 1) (by decide), e_m2, up_0 (q := 8) (h := 2) (by decide), e_m3, up_1 (q := 8) (h := 3) (by decide), e_m4]
  exact n4_m4
theorem awC9 : chkE awR9 9 awB awP9 = 0 := chk_yes awB_e p9 awLead9
theorem awC8 : chkE awR9 8 awB awP9 = 13 := chk_no awB_e p8 awLead8
theorem awC16 : chkE awR9 16 awB awP9 = 1 := chk_pl awB_e p16
end Go.Alm

/- Layer 9, plainly: states come back from their bytes, and bytes from their states. -/
namespace Go.Alm
open Go Go.RowKit
theorem stAt22 (l : List Nat) : stAt l 22 = ⟨(rsAt l 0).hash, (rsAt l 1).hash, (rsAt l 2).hash, (rsAt l 3).num 4, (rsAt l 4).num 4, (rsAt l 5).num 4, ⟨(rsAt l 6).num 4, ⟨(rsAt l 7).num 4, [(rsAt l 8).num 4, (rsAt l 9).num 4, (rsAt l 10).num 4, (rsAt l 11).num 4]⟩⟩,
    ⟨⟨(rsAt l 12).hash, (rsAt l 13).hash, (rsAt l 14).hash, (rsAt l 15).hash, (rsAt l 16).num 4⟩, ⟨(rsAt l 17).hash, (rsAt l 18).hash, (rsAt l 19).hash, (rsAt l 20).hash, (rsAt l 21).num 4⟩⟩⟩ := by kernel_rfl
theorem part_size {s : SState} (h : s.Ok) (i : Nat) : (s.part i).b.length = psz i := by
  unfold SState.part psz ptsH
  split <;> simp [SPart.b, putB_length, h.prev.len, h.led.len, h.draw.len, h.eps.now.led.len, h.eps.now.seed.len, h.eps.now.start.len, h.eps.now.lock.len, h.eps.next.led.len, h.eps.next.seed.len, h.eps.next.start.len, h.eps.next.lock.len]
  all_goals (split <;> simp_all)
theorem rs_pre {s : SState} (h : s.Ok) (u : List Nat) : ∀ k, rsAt (s.pre k ++ u) k = ⟨0, u⟩ := by
  have key : ∀ k u, rsAt (s.pre k ++ u) k = ⟨0, u⟩ := by
    intro k
    induction k with
    | zero => intro u; rfl
    | succ k ih =>
      intro u
      simp only [rsAt, SState.pre]
      rw [List.append_assoc, ih]
      exact (take_app (part_size h k)).1
  exact fun k => key k u
theorem pre_split (s : SState) : ∀ (n k : Nat), ∃ t, s.pre (k + n) = s.pre k ++ t
  | 0, k => ⟨[], by simp⟩
  | n + 1, k => by
    obtain ⟨t, ht⟩ := pre_split s n k
    exact ⟨t ++ (s.part (k + n)).b, by rw [← Nat.add_assoc, SState.pre, ht, List.append_assoc]⟩
theorem rs_at {s : SState} (h : s.Ok) (u : List Nat) {i : Nat} (hi : i < 22) : ∃ t, rsAt (s.bytes ++ u) i = ⟨0, (s.part i).b ++ t⟩ := by
  obtain ⟨t, ht⟩ := pre_split s (21 - i) (i + 1)
  rw [show i + 1 + (21 - i) = 22 by omega] at ht
  refine ⟨t ++ u, ?_⟩
  rw [SState.bytes, ht, SState.pre, List.append_assoc, List.append_assoc, rs_pre h]
theorem rs_hash {s : SState} (h : s.Ok) (u : List Nat) {i : Nat} (hi : i < 22) {x : List Nat} (hp : s.part i = .h x) (hx : x.length = 32) : (rsAt (s.bytes ++ u) i).hash = x := by
  obtain ⟨t, ht⟩ := rs_at h u hi
  rw [ht, hp]; exact hash_app hx
theorem rs_num {s : SState} (h : s.Ok) (u : List Nat) {i : Nat} (hi : i < 22) {n : Nat} (hp : s.part i = .n n) (hn : n < 4294967296) : (rsAt (s.bytes ++ u) i).num 4 = n := by
  obtain ⟨t, ht⟩ := rs_at h u hi
  rw [ht, hp]; exact num_app (k := 4) hn t
/-- What is read of a state's bytes is the state. -/
theorem st_back {s : SState} (h : s.Ok) (u : List Nat) : stAt (s.bytes ++ u) 22 = s := by
  have hc := h.win.ring.counts
  rw [stAt22, rs_hash h u (i := 0) (by decide) rfl h.prev.len, rs_hash h u (i := 1) (by decide) rfl h.led.len, rs_hash h u (i := 2) (by decide) rfl h.draw.len, rs_num h u (i := 3) (by decide) rfl h.slot, rs_num h u (i := 4) (by decide) rfl h.len,
    rs_num h u (i := 5) (by decide) rfl h.count, rs_num h u (i := 6) (by decide) rfl h.win.min, rs_num h u (i := 7) (by decide) rfl h.win.ring.last, rs_num h u (i := 8) (by decide) rfl (hc.lt 0), rs_num h u (i := 9) (by decide) rfl (hc.lt 1), rs_num h u (i := 10) (by decide) rfl (hc.lt 2), rs_num h u (i := 11) (by decide) rfl (hc.lt 3),
    rs_hash h u (i := 12) (by decide) rfl h.eps.now.led.len, rs_hash h u (i := 13) (by decide) rfl h.eps.now.seed.len, rs_hash h u (i := 14) (by decide) rfl h.eps.now.start.len, rs_hash h u (i := 15) (by decide) rfl h.eps.now.lock.len, rs_num h u (i := 16) (by decide) rfl h.eps.now.len,
    rs_hash h u (i := 17) (by decide) rfl h.eps.next.led.len, rs_hash h u (i := 18) (by decide) rfl h.eps.next.seed.len, rs_hash h u (i := 19) (by decide) rfl h.eps.next.start.len, rs_hash h u (i := 20) (by decide) rfl h.eps.next.lock.len, rs_num h u (i := 21) (by decide) rfl h.eps.next.len]
  have e : [s.win.ring.counts.getD 0 0, s.win.ring.counts.getD 1 0, s.win.ring.counts.getD 2 0, s.win.ring.counts.getD 3 0] = s.win.ring.counts := getD4 rfl hc.1 rfl rfl rfl rfl
  rw [e]
theorem rs_end {s : SState} (h : s.Ok) (u : List Nat) : rsAt (s.bytes ++ u) 22 = ⟨0, u⟩ := rs_pre h u 22
theorem read_back {s : SState} (h : s.Ok) (k : s.Right) : stE s.bytes = 0 ∧ stRd s.bytes = s := by
  have e1 := rs_end h []
  have e2 := st_back h []
  rw [List.append_nil] at e1 e2
  have := st_good (l := s.bytes) (by rw [e1]; rfl) (by rw [e2]; exact k)
  exact ⟨this.1, by rw [this.2, e2]⟩
theorem read_form {s : SState} (h : s.Ok) (k : ¬ s.Right) : stE s.bytes = 2 ∧ stRd s.bytes = state0 := by
  have e1 := rs_end h []
  have e2 := st_back h []
  rw [List.append_nil] at e1 e2
  exact st_form (l := s.bytes) (by rw [e1]; rfl) (by rw [e2]; exact k)
theorem read_long {s : SState} (h : s.Ok) : stE (s.bytes ++ [0]) = 4 := by
  have e1 := rs_end h [0]
  have := (st_bad (l := s.bytes ++ [0]) (by rw [e1]; decide)).1
  rw [this, e1]; rfl
def psum : Nat → Nat
  | 0 => 0
  | i + 1 => psum i + psz i
theorem pre_psum {s : SState} (h : s.Ok) : ∀ i, (s.pre i).length = psum i
  | 0 => rfl
  | i + 1 => by rw [SState.pre, List.length_append, pre_psum h i, part_size h]; rfl
theorem bytes_len {s : SState} (h : s.Ok) : s.bytes.length = 396 := (pre_psum h 22).trans (by decide)
theorem read_short {s : SState} (h : s.Ok) : stE (s.bytes.take 395) = 3 := by
  have hp : (s.pre 21).length = 392 := (pre_psum h 21).trans (by decide)
  have e : s.bytes.take 395 = s.pre 21 ++ (s.part 21).b.take 3 := by
    show (s.pre 21 ++ (s.part 21).b).take 395 = _
    rw [List.take_append, hp, List.take_of_length_le (by rw [hp]; decide)]
  have e1 : rsAt (s.bytes.take 395) 22 = ⟨3, []⟩ := by
    rw [e]
    show (rsAt (s.pre 21 ++ (s.part 21).b.take 3) 21).take 4 = _
    rw [rs_pre h]
    exact take_cut (by rw [List.length_take, part_size h]; decide)
  have := (st_bad (l := s.bytes.take 395) (by rw [e1]; decide)).1
  rw [this, e1]; rfl
theorem bytes_inj {s t : SState} (hs : s.Ok) (ht : t.Ok) : s.bytes = t.bytes ↔ s = t := ⟨fun e => by
  have e1 := st_back hs []
  have e2 := st_back ht []
  rw [e] at e1
  exact e1.symm.trans e2, fun e => by rw [e]⟩
theorem part22 (l : List Nat) {i : Nat} (hi : i < 22) : ((stAt l 22).part i).b = match ptsH i with | true => (rsAt l i).hash | false => putB ((rsAt l i).num 4) 4 4 := by
  rw [stAt22]
  match i, hi with
  | 0, _ => show (_ : List Nat) = _; kernel_rfl
  | 1, _ => show (_ : List Nat) = _; kernel_rfl
  | 2, _ => show (_ : List Nat) = _; kernel_rfl
  | 3, _ => show (_ : List Nat) = _; kernel_rfl
  | 4, _ => show (_ : List Nat) = _; kernel_rfl
  | 5, _ => show (_ : List Nat) = _; kernel_rfl
  | 6, _ => show (_ : List Nat) = _; kernel_rfl
  | 7, _ => show (_ : List Nat) = _; kernel_rfl
  | 8, _ => show (_ : List Nat) = _; kernel_rfl
  | 9, _ => show (_ : List Nat) = _; kernel_rfl
  | 10, _ => show (_ : List Nat) = _; kernel_rfl
  | 11, _ => show (_ : List Nat) = _; kernel_rfl
  | 12, _ => show (_ : List Nat) = _; kernel_rfl
  | 13, _ => show (_ : List Nat) = _; kernel_rfl
  | 14, _ => show (_ : List Nat) = _; kernel_rfl
  | 15, _ => show (_ : List Nat) = _; kernel_rfl
  | 16, _ => show (_ : List Nat) = _; kernel_rfl
  | 17, _ => show (_ : List Nat) = _; kernel_rfl
  | 18, _ => show (_ : List Nat) = _; kernel_rfl
  | 19, _ => show (_ : List Nat) = _; kernel_rfl
  | 20, _ => show (_ : List Nat) = _; kernel_rfl
  | 21, _ => show (_ : List Nat) = _; kernel_rfl
  | n + 22, h => exact absurd h (by omega)
/-- What was read is what is written. -/
theorem read_write {l : List Nat} (hB : Byt l) (h : stE l = 0) : (stRd l).bytes = l ∧ (stRd l).Right := by
  have he : (rsAt l 22).end = 0 := Classical.byContradiction fun hn => by rw [(st_bad hn).1] at h; exact hn h
  have hR : (stAt l 22).Right := Classical.byContradiction fun hn => by rw [(st_form he hn).1] at h; cases h
  have hg := st_good he hR
  rw [hg.2]
  refine ⟨?_, hR⟩
  obtain ⟨e0, l0⟩ := Rs.end_ok he
  have up : ∀ n, n ≤ 22 → (rsAt l (22 - n)).e = 0 := by
    intro n
    induction n with
    | zero => intro _; exact e0
    | succ n ih =>
      intro hn
      have := ih (by omega)
      rw [show 22 - n = (22 - (n + 1)) + 1 by omega] at this
      exact (Rs.take_ok this).1
  have hpart : ∀ i, i < 22 → ((stAt l 22).part i).b ++ (rsAt l (i + 1)).l = (rsAt l i).l := by
    intro i hi
    have hz : (rsAt l (i + 1)).e = 0 := by
      have := up (22 - (i + 1)) (by omega)
      rwa [show 22 - (22 - (i + 1)) = i + 1 by omega] at this
    rw [part22 l hi]
    cases hp : ptsH i with
    | true =>
      have e : rsAt l (i + 1) = (rsAt l i).take 32 := by simp only [rsAt, psz, hp]
      rw [e] at hz ⊢; exact Rs.hash_ok hz
    | false =>
      have e : rsAt l (i + 1) = (rsAt l i).take 4 := by simp only [rsAt, psz, hp]
      rw [e] at hz ⊢; exact Rs.num_ok (rsAt_byt hB i) hz
  have fin : ∀ n, n ≤ 22 → (stAt l 22).pre n ++ (rsAt l n).l = l := by
    intro n
    induction n with
    | zero => intro _; rfl
    | succ n ih =>
      intro hn
      rw [SState.pre, List.append_assoc, hpart n (by omega)]
      exact ih (by omega)
  have := fin 22 (Nat.le_refl _)
  rw [l0, List.append_nil] at this
  exact this
theorem genesis_right (led : List Nat) : (stateF led).Right :=
  ⟨⟨Nat.le_refl 12, (by decide : ring1.Right)⟩, (by show 0 = 0 / 3; decide), Nat.zero_lt_one, Nat.le_refl 1, Nat.zero_le _, Nat.zero_lt_one, Nat.zero_lt_one, Nat.le_refl 1, Nat.le_refl 1⟩
end Go.Alm

/- Layer 9, plainly: what the document fixes of a first state. -/
namespace Go.Alm
open Go Go.RowKit
theorem read_nil : stE [] = 3 ∧ stRd [] = state0 := by
  have h : (rsAt [] 22).end = 3 := by kernel_rfl
  have := st_bad (l := []) (by rw [h]; decide)
  exact ⟨this.1.trans h, this.2⟩
set_option maxRecDepth 100000 in
theorem st_nz : (stH (stateF (hlit 5))).getD 0 0 = 91 := by kernel_rfl
theorem bind_var {α : Type} (x : α) {C : Prop} (k : ∀ y, y = x → C) : C := k x rfl
def SState.b0 (s : SState) : List Nat := s.bytes ++ [0]
theorem b0_long {s : SState} (h : s.Ok) : stE s.b0 = 4 := read_long h
theorem b0_len {s : SState} (h : s.Ok) : s.b0.length = 397 := by rw [SState.b0, List.length_append, bytes_len h]; rfl
theorem b0_byt {s : SState} (h : s.Ok) : Byt s.b0 := fun x hx => by
  rcases List.mem_append.1 hx with hx | hx
  · exact bytes_byt h x hx
  · rw [List.mem_singleton.1 hx]; decide
end Go.Alm

/- Layer 16: a tree's paths are accepted; a path with another byte. -/
namespace Go.Alm
open Go Go.RowKit
structure APut where
  place : Int
  a : Acct
structure APut.Ok (x : APut) : Prop where
  place : i64Ok x.place
  a : x.a.Ok
def APut.cells (x : APut) : Array Value := aj #[.int .i64 x.place] x.a.cells
instance : Inhabited APut := ⟨⟨0, acct0⟩⟩
theorem APut.size (x : APut) : x.cells.size = 4 := rfl
theorem APut.ones (x : APut) : x.cells.toList.all (·.oneCell') = true := rfl
theorem APut.one (x : APut) : ∀ u ∈ x.cells.toList, u.oneCell' = true := fun u hu => List.all_eq_true.1 x.ones u hu
def AllU (l : List APut) : Prop := ∀ x ∈ l, x.Ok
theorem AllU.get {l : List APut} (h : AllU l) {i : Nat} (hi : i < l.length) : (l.getD i default).Ok := by
  rw [List.getD_eq_getElem?_getD, List.getElem?_eq_getElem hi, Option.getD_some]
  exact h _ (List.getElem_mem hi)
theorem acc_lead {M : TM} {q : Nat} {P : Path4} (hq : q < 16) (h : hasAt M (q : Int) = true) (hP : P = pathP (getM M) (q : Int)) : leadL (q : Int) (accHa (acctAt M (q : Int))) P = nodeL (getM M) 4 0 := by
  rw [hP, leadL_yes (q := q) rfl hq, pathP_yes (q := q) rfl hq, nodeL_ref h]
  exact lead_path hq
theorem none_lead {M : TM} {q : Nat} {P : Path4} (hq : q < 16) (h : hasAt M (q : Int) = false) (hP : P = pathP (getM M) (q : Int)) : leadL (q : Int) accNone P = nodeL (getM M) 4 0 := by
  rw [hP, leadL_yes (q := q) rfl hq, pathP_yes (q := q) rfl hq, nodeL_refno h]
  exact lead_path hq
theorem accE_none {M : TM} {p : Int} (h : hasAt M p = false) : accE (acctAt M p).s = 1 := by
  rw [acctAt_no h]; exact accE_no (by kernel_rfl)
/-! ### one byte is another one -/
def Path4.at (p : Path4) (i : Nat) : List Nat := match i with | 0 => p.a | 1 => p.b | 2 => p.c | _ => p.d
def Path4.put (p : Path4) (i : Nat) (x : List Nat) : Path4 := match i with | 0 => ⟨x, p.b, p.c, p.d⟩ | 1 => ⟨p.a, x, p.c, p.d⟩ | 2 => ⟨p.a, p.b, x, p.d⟩ | _ => ⟨p.a, p.b, p.c, x⟩
theorem Path4.at_ok {p : Path4} (h : p.Ok) (i : Nat) : H32 (p.at i) := by
  unfold Path4.at; split
  · exact h.a
  · exact h.b
  · exact h.c
  · exact h.d
theorem Path4.put_ok {p : Path4} (h : p.Ok) {x : List Nat} (hx : H32 x) (i : Nat) : (p.put i x).Ok := by
  unfold Path4.put; split
  · exact ⟨hx, h.b, h.c, h.d⟩
  · exact ⟨h.a, hx, h.c, h.d⟩
  · exact ⟨h.a, h.b, hx, h.d⟩
  · exact ⟨h.a, h.b, h.c, hx⟩
theorem at_put {p : Path4} {i : Nat} (h : i < 4) (x : List Nat) : (p.put i x).at i = x := by
  match i, h with
  | 0, _ => rfl
  | 1, _ => rfl
  | 2, _ => rfl
  | 3, _ => rfl
/-- Up to a height. -/
def upN (q : Nat) (leaf : List Nat) (p : Path4) : Nat → List Nat
  | 0 => leaf
  | h + 1 => up q h (upN q leaf p h) (p.at h)
theorem upN_ok {q : Nat} {leaf : List Nat} {p : Path4} (h : H32 leaf) (i : Nat) : H32 (upN q leaf p i) := by
  cases i with
  | zero => exact h
  | succ i => exact up_ok _ _ _ _
theorem leadN_up (q : Nat) (leaf : List Nat) (p : Path4) : leadN q leaf p = upN q leaf p 4 := rfl
/-- So far no clash was at hand. -/
def NoHit (q : Nat) (leaf : List Nat) (p p' : Path4) (i : Nat) : Prop := ∀ j, j < i → upN q leaf p (j + 1) = upN q leaf p' (j + 1) → upN q leaf p j = upN q leaf p' j ∧ p.at j = p'.at j
theorem NoHit.start (q : Nat) (leaf : List Nat) (p p' : Path4) : NoHit q leaf p p' 0 := fun _ h => absurd h (by omega)
theorem NoHit.step {q : Nat} {leaf : List Nat} {p p' : Path4} {i : Nat} (h : NoHit q leaf p p' i) (k : upN q leaf p (i + 1) = upN q leaf p' (i + 1) → upN q leaf p i = upN q leaf p' i ∧ p.at i = p'.at i) : NoHit q leaf p p' (i + 1) := fun j hj e => by
  rcases Nat.lt_succ_iff_lt_or_eq.1 hj with h1 | h1
  · exact h j h1 e
  · subst h1; exact k e
theorem NoHit.same {q : Nat} {leaf : List Nat} {p p' : Path4} (h : NoHit q leaf p p' 4) (e : upN q leaf p 4 = upN q leaf p' 4) : ∀ j, j < 4 → p.at j = p'.at j := by
  have k3 := h 3 (by decide) e
  have k2 := h 2 (by decide) k3.1
  have k1 := h 1 (by decide) k2.1
  have k0 := h 0 (by decide) k1.1
  intro j hj
  match j, hj with
  | 0, _ => exact k0.2
  | 1, _ => exact k1.2
  | 2, _ => exact k2.2
  | 3, _ => exact k3.2
theorem set_other {l : List Nat} {j c : Nat} (hj : j < l.length) (h : ¬ l.getD j 0 = c) : ¬ l = l.set j c := fun e => h (by
  have := congrArg (fun m => m.getD j 0) e
  simp only [List.getD_eq_getElem?_getD, List.getElem?_set_self hj, Option.getD_some] at this
  rw [List.getD_eq_getElem?_getD]; exact this)
theorem spl_one' {c : Array Value} {l : List Nat} {i v : Nat} (off : Nat) (hl : l.length = 32) (hi : i < 32) (hc : (c.toList.drop off).take 32 = (hv l).toList) : spl c (off + i) #[.int .u8 (v : Int)] = spl c off (hv (l.set i v)) := by
  have hh : (hv (l.set i v)).toList = ((hv l).toList).set i (.int .u8 (v : Int)) := by
    rw [hv_B (by rw [List.length_set]; exact hl), hv_B hl, B, B, List.map_set]
  have hz : (hv (l.set i v)).size = 32 := hv_size _
  apply Array.ext'
  simp only [spl, hz]
  rw [hh, ← hc]
  have hlen : off + 32 ≤ c.toList.length := by
    have := congrArg List.length hc
    rw [hv_B hl, B_length, List.length_take, List.length_drop, hl] at this
    omega
  have e : (c.toList.drop off).take 32 = (c.toList.drop off).take i ++ (c.toList.drop (off + i)).take (32 - i) := by
    conv => lhs; rw [show 32 = i + (32 - i) by omega, List.take_add]
    rw [List.drop_drop]
  have e2 : ((c.toList.drop (off + i)).take (32 - i)) = (c.toList[off + i]'(by omega)) :: (c.toList.drop (off + i + 1)).take (32 - (i + 1)) := by
    rw [List.drop_eq_getElem_cons (by omega), show 32 - i = (32 - (i + 1)) + 1 by omega, List.take_succ_cons]
  have e3 : ((c.toList.drop off).take 32).set i (.int .u8 (v : Int)) = (c.toList.drop off).take i ++ (.int .u8 (v : Int) :: (c.toList.drop (off + i + 1)).take (32 - (i + 1))) := by
    rw [e, e2, List.set_append_right _ _ (by rw [List.length_take]; omega)]
    rw [List.length_take, List.length_drop, show i - min i (c.toList.length - off) = 0 by omega]; rfl
  rw [e3]
  have e4 : c.toList.take (off + i) = c.toList.take off ++ (c.toList.drop off).take i := List.take_add
  have e5 : c.toList.drop (off + i + 1) = (c.toList.drop (off + i + 1)).take (32 - (i + 1)) ++ c.toList.drop (off + 32) := by
    conv => lhs; rw [← List.take_append_drop (32 - (i + 1)) (c.toList.drop (off + i + 1))]
    rw [List.drop_drop, show off + i + 1 + (32 - (i + 1)) = off + 32 by omega]
  rw [e4]
  show c.toList.take off ++ (c.toList.drop off).take i ++ [_] ++ c.toList.drop (off + i + 1) = _
  conv => lhs; rw [e5]
  simp only [List.append_assoc, List.cons_append, List.nil_append]
theorem p4_get {p : Path4} {i j : Nat} (hi : i < 4) (hj : j < 32) : p.cells[(0 + i * 32) + j * 1]? = some (.int .u8 (((p.at i).getD j 0 : Nat) : Int)) := by
  have g : ∀ l : List Nat, (hv l).toList[j]? = some (.int .u8 ((l.getD j 0 : Nat) : Int)) := fun l => by simp [hv, hj]
  have z : ∀ l : List Nat, (hv l).toList.length = 32 := fun l => by simp [hv]
  have e : p.cells.toList = (hv p.a).toList ++ ((hv p.b).toList ++ ((hv p.c).toList ++ (hv p.d).toList)) := by
    unfold Path4.cells
    have hj : ∀ A C : Array Value, (aj A C).toList = A.toList ++ C.toList := fun _ _ => rfl
    simp only [hj, List.append_assoc]
  rw [← Array.getElem?_toList, e]
  match i, hi with
  | 0, _ => rw [List.getElem?_append_left (by rw [z]; omega), show 0 + 0 * 32 + j * 1 = j by omega]; exact g _
  | 1, _ => rw [List.getElem?_append_right (by rw [z]; omega), z, List.getElem?_append_left (by rw [z]; omega), show 0 + 1 * 32 + j * 1 - 32 = j by omega]; exact g _
  | 2, _ => rw [List.getElem?_append_right (by rw [z]; omega), z, List.getElem?_append_right (by rw [z]; omega), z, List.getElem?_append_left (by rw [z]; omega), show 0 + 2 * 32 + j * 1 - 32 - 32 = j by omega]; exact g _
  | 3, _ => rw [List.getElem?_append_right (by rw [z]; omega), z, List.getElem?_append_right (by rw [z]; omega), z, List.getElem?_append_right (by rw [z]; omega), z, show 0 + 3 * 32 + j * 1 - 32 - 32 - 32 = j by omega]; exact g _
theorem ext4_0 (p : Path4) : ext p.cells (0 + 0 * 32) 32 = hv (p.at 0) := by kernel_rfl
theorem ext4_1 (p : Path4) : ext p.cells (0 + 1 * 32) 32 = hv (p.at 1) := by kernel_rfl
theorem ext4_2 (p : Path4) : ext p.cells (0 + 2 * 32) 32 = hv (p.at 2) := by kernel_rfl
theorem ext4_3 (p : Path4) : ext p.cells (0 + 3 * 32) 32 = hv (p.at 3) := by kernel_rfl
theorem ext4 {p : Path4} {i : Nat} (hi : i < 4) : ext p.cells (0 + i * 32) 32 = hv (p.at i) := by
  match i, hi with
  | 0, _ => exact ext4_0 p
  | 1, _ => exact ext4_1 p
  | 2, _ => exact ext4_2 p
  | 3, _ => exact ext4_3 p
theorem p4_put {p : Path4} (h : p.Ok) {i j c : Nat} (hi : i < 4) (hj : j < 32) : spl p.cells ((0 + i * 32) + j * 1) #[.int .u8 (c : Int)] = (p.put i ((p.at i).set j c)).cells := by
  have key : ∀ l : List Nat, H32 l → spl (hv l) j #[.int .u8 (c : Int)] = hv (l.set j c) := fun l hl => by
    have h0 := spl_one' (c := hv l) (l := l) (i := j) (v := c) 0 hl.len hj (by rw [List.drop_zero, List.take_of_length_le (by simp [hv])])
    rw [Nat.zero_add] at h0
    rw [h0, spl_all (by rw [hv_size, hv_size])]
  unfold Path4.cells
  match i, hi with
  | 0, _ =>
    rw [show 0 + 0 * 32 + j * 1 = j by omega, spl_l (by simp [aj_size, hv_size]; omega), spl_l (by simp [aj_size, hv_size]; omega), spl_l (by simp [hv_size]; omega), key _ h.a]; rfl
  | 1, _ =>
    rw [spl_l (by simp [aj_size, hv_size]; omega), spl_l (by simp [aj_size, hv_size]; omega), spl_r (o := j) (by simp [hv_size]), key _ h.b]; rfl
  | 2, _ =>
    rw [spl_l (by simp [aj_size, hv_size]; omega), spl_r (o := j) (by simp [aj_size, hv_size]), key _ h.c]; rfl
  | 3, _ =>
    rw [spl_r (o := j) (by simp [aj_size, hv_size]), key _ h.d]; rfl
end Go.Alm

/- Layer 4's things out of a row's reading. -/
namespace Go.Alm
open Go Go.RowKit Go.ChangeShapes Go.WideShapes Go.ChangeAt

theorem field_of {fs : Array Field} {L : List (TypeId × Nat)} (h : fs.toList.map (fun f => (f.type, f.offset)) = L) (i : Nat) {a b : Nat} (hi : L[i]? = some (a, b)) : ∃ f, fs[i]? = some f ∧ f.type = a ∧ f.offset = b := by
  subst h
  rw [List.getElem?_map, Option.map_eq_some_iff] at hi
  obtain ⟨f, hf, he⟩ := hi
  simp only [Prod.mk.injEq] at he
  exact ⟨f, by simpa using hf, he.1, he.2⟩

section
variable {H : Type} {enc : TypeId × Value → H} {P : Program} {w : World} {base : Nat} {sp : Nat → Bool} {held : Bool} {fuel t e : Nat} {cs : List Value} {x : DataW H × List MemPlace}

theorem thing_of_trod {fs : Array Field} {ti tu th tb e8 e8' : Nat} (he : P.underlying e = some (.struct fs)) (hfs : fs.toList.map (fun f => (f.type, f.offset)) = [(ti, 0), (tu, 1), (th, 2), (tb, 34), (ti, 35)])
    (hi : P.underlying ti = some (.int .i64)) (hu : P.underlying tu = some (.int .u64)) (hh : P.underlying th = some (.array 32 e8)) (hb : P.underlying tb = some (.slice e8')) (h8 : P.underlying e8 = some (.int .u8)) (h8' : P.underlying e8' = some (.int .u8))
    (zi : P.cellsOf ti = 1) (zu : P.cellsOf tu = 1) (zh : P.cellsOf th = 32) (zb : P.cellsOf tb = 1) (z8 : P.cellsOf e8 = 1) (z8' : P.cellsOf e8' = 1) (ze : P.cellsOf e = 36)
    (h : DataW.trod enc P w base sp held fuel e cs = some x) : ∃ y : Thing, cs = y.cells.toList ∧ y.Ok ∧ Rd w y.ao (B y.b) := by
  obtain ⟨xs, n, _, _, hlen, hxl, hget⟩ := DataW.trod_struct he h
  rw [ze] at hlen
  have hsz : fs.size = 5 := by have := congrArg List.length hfs; simpa using this
  have get : ∀ (i a b : Nat), i < 5 → ([(ti, 0), (tu, 1), (th, 2), (tb, 34), (ti, 35)] : List (TypeId × Nat))[i]? = some (a, b) → ∃ z, DataW.trod enc P w base sp held n a ((cs.drop b).take (P.cellsOf a)) = some z := fun i a b hi5 hL => by
    obtain ⟨f, hf, rfl, rfl⟩ := field_of hfs i hL
    have h1 := hget i f hf
    have hs : i < xs.length := by omega
    exact ⟨xs[i], by rw [h1]; simp [hs]⟩
  obtain ⟨z0, g0⟩ := get 0 ti 0 (by decide) rfl
  obtain ⟨z1, g1⟩ := get 1 tu 1 (by decide) rfl
  obtain ⟨z2, g2⟩ := get 2 th 2 (by decide) rfl
  obtain ⟨z3, g3⟩ := get 3 tb 34 (by decide) rfl
  obtain ⟨z4, g4⟩ := get 4 ti 35 (by decide) rfl
  obtain ⟨k, e0, _, w0⟩ := DataW.trod_int hi g0
  obtain ⟨m, e1, _, w1⟩ := DataW.trod_int hu g1
  obtain ⟨l, hl, e2, Bl⟩ := ints_of_trod hh h8 z8 zh g2
  obtain ⟨ao, b, cap, e3, hR, Bb, hbc, hcm⟩ := bytes_of_trod hb h8' z8' g3
  obtain ⟨q, e4, _, w4⟩ := DataW.trod_int hi g4
  rw [zi] at e0 e4; rw [zu] at e1; rw [zh] at e2; rw [zb] at e3
  simp only [Lit.wf, Bool.and_eq_true, decide_eq_true_eq] at w0 w1 w4
  have c1 : IntKind.u64.min = 0 := by decide
  have c2 : IntKind.u64.max = 18446744073709551615 := by decide
  have c3 : IntKind.i64.max = 9223372036854775807 := by decide
  refine ⟨⟨k, m.toNat, l, ao, cap, b, q⟩, ?_, ⟨by simp only; omega, hl, Bl, Bb, hbc, hcm, by simp only; omega⟩, hR⟩
  have hm : ((m.toNat : Nat) : Int) = m := Int.toNat_of_nonneg (by omega)
  have es : cs = (cs.drop 0).take 1 ++ ((cs.drop 1).take 1 ++ ((cs.drop 2).take 32 ++ ((cs.drop 34).take 1 ++ (cs.drop 35).take 1))) := by
    have s4 : (cs.drop 34).take 1 ++ (cs.drop 35).take 1 = cs.drop 34 := by
      have : (cs.drop 35).take 1 = (cs.drop 34).drop 1 := by rw [List.drop_drop, List.take_of_length_le (by rw [List.length_drop]; omega)]
      rw [this, List.take_append_drop]
    have s3 : (cs.drop 2).take 32 ++ cs.drop 34 = cs.drop 2 := by
      have : cs.drop 34 = (cs.drop 2).drop 32 := by rw [List.drop_drop]
      rw [this, List.take_append_drop]
    have s2 : (cs.drop 1).take 1 ++ cs.drop 2 = cs.drop 1 := by
      have : cs.drop 2 = (cs.drop 1).drop 1 := by rw [List.drop_drop]
      rw [this, List.take_append_drop]
    rw [s4, s3, s2, List.drop_zero, List.take_append_drop]
  rw [es, e0, e1, e2, e3, e4]
  unfold Thing.cells
  rw [Array.toList_append, Array.toList_append, hv_B hl]
  simp [hm]

theorem things_of_trod {fs : Array Field} {ti tu th tb e8 e8' : Nat} (ht : P.underlying t = some (.slice e)) (he : P.underlying e = some (.struct fs)) (hfs : fs.toList.map (fun f => (f.type, f.offset)) = [(ti, 0), (tu, 1), (th, 2), (tb, 34), (ti, 35)])
    (hi : P.underlying ti = some (.int .i64)) (hu : P.underlying tu = some (.int .u64)) (hh : P.underlying th = some (.array 32 e8)) (hb : P.underlying tb = some (.slice e8')) (h8 : P.underlying e8 = some (.int .u8)) (h8' : P.underlying e8' = some (.int .u8))
    (zi : P.cellsOf ti = 1) (zu : P.cellsOf tu = 1) (zh : P.cellsOf th = 32) (zb : P.cellsOf tb = 1) (z8 : P.cellsOf e8 = 1) (z8' : P.cellsOf e8' = 1) (ze : P.cellsOf e = 36)
    (h : DataW.trod enc P w base sp held fuel t cs = some x) : ∃ ao ts cap, cs = [.slice ao (ts : List Thing).length cap] ∧ ThingsAt w.heap.size w ao ts ∧ ts.length ≤ cap ∧ cap ≤ maxLen := by
  rcases DataW.trod_slice ht h with ⟨rfl, _⟩ | ⟨a, len, cap, elems, rest, n, _, rfl, _, _, hlc, hcm, hel, hget, _⟩
  · exact ⟨none, [], 0, rfl, ⟨Rd.nil _ _, fun _ h => (by cases h), Sub.nil, fun _ h => (by cases h), fun _ h => (by cases h), Nat.le_refl _⟩, Nat.le_refl _, Nat.zero_le _⟩
  · have key : ∀ i, i < len → ∃ y : Thing, y.Ok ∧ Rd w y.ao (B y.b) ∧ ∀ j, j < 36 → w.cell? ((a.add (i * 36)).add j) = y.cells.toList[j]? := fun i hi' => by
      have h1 := hget i hi'
      have hs : (elems[i]?).isSome = true := by simp [hel, hi']
      obtain ⟨c, hc, hy⟩ := some_of_bind h1 hs
      obtain ⟨y, hy'⟩ := Option.isSome_iff_exists.1 hs
      rw [hy'] at hy
      obtain ⟨z, ez, ok, hR⟩ := thing_of_trod he hfs hi hu hh hb h8 h8' zi zu zh zb z8 z8' ze hy
      rw [ze] at hc
      have hcc := (World.cells?_some hc).2.2
      rw [ez] at hcc
      exact ⟨z, ok, hR, hcc⟩
    let f : Nat → Thing := fun i => if h : i < len then Classical.choose (key i h) else ⟨0, 0, [], none, 0, [], 0⟩
    have hf : ∀ i, i < len → (f i).Ok ∧ Rd w (f i).ao (B (f i).b) ∧ ∀ j, j < 36 → w.cell? ((a.add (i * 36)).add j) = (f i).cells.toList[j]? := fun i hi' => by
      have : f i = Classical.choose (key i hi') := by simp only [f, dif_pos hi']
      rw [this]; exact Classical.choose_spec (key i hi')
    have hmem : ∀ y ∈ (List.range len).map f, ∃ i, i < len ∧ y = f i := fun y hy => by
      obtain ⟨i, hi', rfl⟩ := List.mem_map.1 hy
      exact ⟨i, List.mem_range.1 hi', rfl⟩
    have hRd : Rd w (some a) (cellsT ((List.range len).map f)) := fun j u hj => by
      have hjl := (List.getElem?_eq_some_iff.1 hj).1
      rw [cellsT_length, List.length_map, List.length_range] at hjl
      have hdiv : j / 36 < len := by omega
      have hg := cellsT_get ((List.range len).map f) (j / 36) (f (j / 36)) (by simp [hdiv])
      have hm : j % 36 < 36 := Nat.mod_lt _ (by decide)
      have hu : (f (j / 36)).cells.toList[j % 36]? = some u := by
        rw [← hg, List.getElem?_take, if_pos hm, List.getElem?_drop, show j / 36 * 36 + j % 36 = j by omega]
        exact hj
      refine ⟨a, rfl, ?_⟩
      have hc := (hf _ hdiv).2.2 _ hm
      have e : (a.add (j / 36 * 36)).add (j % 36) = a.add j := by rw [add_add, show j / 36 * 36 + j % 36 = j by omega]
      rw [e] at hc
      rw [hc, hu]
    refine ⟨some a, (List.range len).map f, cap, by simp, ⟨hRd, ?_, hRd.in, ?_, ?_, Nat.le_refl _⟩, by simpa using hlc, hcm⟩
    · intro y hy; obtain ⟨i, hi', rfl⟩ := hmem y hy; exact (hf i hi').2.1
    · intro y hy; obtain ⟨i, hi', rfl⟩ := hmem y hy; exact (hf i hi').2.1.in
    · intro y hy; obtain ⟨i, hi', rfl⟩ := hmem y hy; exact (hf i hi').1
end
end Go.Alm

/- Layer 8's histories, plainly. -/
namespace Go.Alm
open Go Go.RowKit
structure EStep where
  by_ : Nat
  prev : List Nat
  led : List Nat
  draw : List Nat
structure EStep.Ok (x : EStep) : Prop where
  by_ : x.by_ < 4294967296
  prev : H32 x.prev
  led : H32 x.led
  draw : H32 x.draw
def EStep.cells (x : EStep) : Array Value := aj (aj (aj #[.int .u32 (x.by_ : Int)] (hv x.prev)) (hv x.led)) (hv x.draw)
structure SBlk where
  slot : Nat
  st : EStep
def SBlk.cells (b : SBlk) : Array Value := aj #[.int .u32 (b.slot : Int)] b.st.cells
/-- What one block of a history adds to what is told of the epoch E. -/
def addE (E : Nat) (d : EData) (pe : Option Nat) (b : SBlk) : EData :=
  let d1 : EData := if b.slot % 24 < 16 then ⟨d.led, seedL d.seed b.st.draw, d.start, d.lock, d.len⟩ else d
  if b.slot / 24 = E then
    let d2 : EData := if (match pe with | none => 0 | some e => e) < b.slot / 24 then ⟨b.st.led, d1.seed, b.st.prev, Z32, 0⟩ else d1
    if b.slot % 24 < 16 then ⟨d2.led, d2.seed, d2.start, b.st.prev, d2.len + 1⟩ else ⟨d2.led, d2.seed, d2.start, d2.lock, d2.len + 1⟩
  else d1
def stepN (E : Nat) (a : EData × Option Nat) (b : SBlk) : EData × Option Nat := (addE E a.1 a.2 b, some (b.slot / 24))
def lastE (l : List SBlk) : Option Nat := (l.map (·.slot / 24)).getLast?
def lastS (l : List SBlk) : Nat := match l.getLast? with | some b => b.slot | none => 0
def foldN (E : Nat) (led : List Nat) (l : List SBlk) : EData × Option Nat := l.foldl (stepN E) (dataF led, none)
def nextH (led : List Nat) (l : List SBlk) : EData := (foldN (lastS l / 24) led l).1
theorem foldN_snoc (E : Nat) (led : List Nat) (l : List SBlk) (b : SBlk) : foldN E led (l ++ [b]) = stepN E (foldN E led l) b := by simp [foldN]
theorem list_snoc {α : Type} {P : List α → Prop} (h0 : P []) (h1 : ∀ l b, P l → P (l ++ [b])) : ∀ l, P l := fun l => by
  have : ∀ r : List α, P r.reverse := fun r => by
    induction r with
    | nil => exact h0
    | cons x r ih => rw [List.reverse_cons]; exact h1 _ _ ih
  have := this l.reverse
  rwa [List.reverse_reverse] at this
theorem lastS_snoc (l : List SBlk) (b : SBlk) : lastS (l ++ [b]) = b.slot := by simp [lastS]
theorem foldN_2 (E : Nat) (led : List Nat) : ∀ l : List SBlk, (foldN E led l).2 = if l = [] then none else some (lastS l / 24) :=
  list_snoc (by rfl) fun l b _ => by rw [foldN_snoc, if_neg (by simp), lastS_snoc]; rfl
theorem addE_skip {E : Nat} {d : EData} {pe : Option Nat} {b : SBlk} (h : b.slot / 24 ≠ E) : addE E d pe b = if b.slot % 24 < 16 then ⟨d.led, seedL d.seed b.st.draw, d.start, d.lock, d.len⟩ else d := by
  unfold addE
  simp only [if_neg h]
theorem addE_seed (E : Nat) (d : EData) (pe : Option Nat) (b : SBlk) : (addE E d pe b).seed = if b.slot % 24 < 16 then seedL d.seed b.st.draw else d.seed := by
  unfold addE
  by_cases h1 : b.slot % 24 < 16 <;> by_cases h2 : b.slot / 24 = E <;> simp only [h1, h2, if_true, if_false] <;> (try split) <;> (try split) <;> rfl
theorem fold_seed (E F : Nat) (led : List Nat) : ∀ l : List SBlk, (foldN E led l).1.seed = (foldN F led l).1.seed :=
  list_snoc rfl fun l b ih => by rw [foldN_snoc, foldN_snoc]; unfold stepN; simp only [addE_seed, ih]
theorem fold_skip {E : Nat} (led : List Nat) : ∀ l : List SBlk, (∀ x ∈ l, x.slot / 24 ≠ E) → (foldN E led l).1 = ⟨led, (foldN E led l).1.seed, Z32, Z32, 1⟩ :=
  list_snoc (fun _ => rfl) fun l b ih h => by
    have h1 := ih (fun x hx => h x (by simp [hx]))
    rw [foldN_snoc]
    unfold stepN
    rw [addE_skip (h b (by simp)), h1]
    split <;> rfl
theorem nextH_snoc {led : List Nat} {l : List SBlk} {b : SBlk} (hm : ∀ x ∈ l, x.slot / 24 ≤ lastS l / 24) (h : lastS l ≤ b.slot) :
    nextH led (l ++ [b]) = lockD (if lastS l / 24 < b.slot / 24 then ⟨b.st.led, (nextH led l).seed, b.st.prev, Z32, 1⟩ else ⟨(nextH led l).led, (nextH led l).seed, (nextH led l).start, (nextH led l).lock, (nextH led l).len + 1⟩) ⟨lastS l, b.slot, b.st.prev, b.st.led, b.st.draw⟩ := by
  have hle : lastS l / 24 ≤ b.slot / 24 := Nat.div_le_div_right h
  unfold nextH
  rw [lastS_snoc, foldN_snoc]
  have hpe : (match (foldN (b.slot / 24) led l).2 with | none => 0 | some e => e) = lastS l / 24 := by
    rw [foldN_2]
    by_cases hl : l = []
    · subst hl; rfl
    · rw [if_neg hl]
  by_cases ht : lastS l / 24 < b.slot / 24
  · have hs := fold_skip (E := b.slot / 24) led l (fun x hx => by have := hm x hx; omega)
    have hse := fold_seed (lastS l / 24) (b.slot / 24) led l
    rw [if_pos ht, hse]
    unfold stepN addE lockD
    simp only [hpe, if_pos ht, if_true]
    by_cases h1 : b.slot % 24 < 16
    · simp only [if_pos h1]
    · simp only [if_neg h1]
  · have he : b.slot / 24 = lastS l / 24 := by omega
    rw [if_neg ht, ← he]
    unfold stepN addE lockD
    simp only [hpe, if_neg ht, if_true]
    by_cases h1 : b.slot % 24 < 16
    · simp only [if_pos h1]
    · simp only [if_neg h1]
theorem addE_len (E : Nat) (d : EData) (pe : Option Nat) (b : SBlk) : (addE E d pe b).len ≤ d.len + 1 := by
  unfold addE
  by_cases h1 : b.slot % 24 < 16 <;> by_cases h2 : b.slot / 24 = E <;> simp only [h1, h2, if_true, if_false] <;> (try split) <;> (try split) <;> (try simp only) <;> omega
theorem fold_len (E : Nat) (led : List Nat) : ∀ l : List SBlk, (foldN E led l).1.len ≤ l.length + 1 :=
  list_snoc (Nat.le_refl _) fun l b ih => by
    rw [foldN_snoc, List.length_append]
    have := addE_len E (foldN E led l).1 (foldN E led l).2 b
    show (addE _ _ _ _).len ≤ _
    simp only [List.length_cons, List.length_nil]
    omega
theorem nextH_len (led : List Nat) (l : List SBlk) : (nextH led l).len ≤ l.length + 1 := fold_len _ _ _
/-! ### by places -/
structure SBlk.Ok (x : SBlk) : Prop where
  slot : x.slot < 4294967296
  st : x.st.Ok
instance : Inhabited SBlk := ⟨⟨0, ⟨0, Z32, Z32, Z32⟩⟩⟩
instance : Inhabited EStep := ⟨⟨0, Z32, Z32, Z32⟩⟩
theorem EStep.size (x : EStep) : x.cells.size = 97 := by simp [EStep.cells, hv, aj_size]
theorem SBlk.size (x : SBlk) : x.cells.size = 98 := by
  unfold SBlk.cells
  rw [show (aj #[Value.int .u32 (x.slot : Int)] x.st.cells).size = 1 + x.st.cells.size from by rw [aj_eq]; exact Array.size_append, EStep.size]
def addP (E : Nat) (d : EData) (pv : Nat) (b : SBlk) : EData := addE E d (some pv) b
def pvN (l : List SBlk) (i : Nat) : Nat := if i = 0 then 0 else (l.getD (i - 1) default).slot / 24
theorem addE_none (E : Nat) (d : EData) (b : SBlk) : addE E d none b = addP E d 0 b := rfl
theorem lastS_take {l : List SBlk} {i : Nat} (h : 0 < i) (hi : i ≤ l.length) : lastS (l.take i) = (l.getD (i - 1) default).slot := by
  obtain ⟨j, rfl⟩ : ∃ j, i = j + 1 := ⟨i - 1, by omega⟩
  rw [take_snocD (by omega), lastS_snoc]
  rfl
theorem lastS_eq {l : List SBlk} (h : 0 < l.length) : lastS l = (l.getD (l.length - 1) default).slot := by
  have := lastS_take h (Nat.le_refl _)
  rwa [List.take_length] at this
theorem foldN_take {E : Nat} {led : List Nat} {l : List SBlk} {i : Nat} (h : i < l.length) : (foldN E led (l.take (i + 1))).1 = addP E (foldN E led (l.take i)).1 (pvN l i) (l.getD i default) := by
  rw [take_snocD h, foldN_snoc]
  unfold stepN
  rw [foldN_2]
  by_cases h0 : i = 0
  · subst h0; rw [List.take_zero, if_pos rfl]; exact addE_none _ _ _
  · rw [if_neg (by intro e; have := congrArg List.length e; rw [List.length_take, List.length_nil] at this; omega), lastS_take (by omega) (by omega)]
    unfold addP pvN
    rw [if_neg h0]
theorem addP_skip {E pv : Nat} {d : EData} {b : SBlk} (h1 : b.slot / 24 ≠ E) (h2 : ¬ b.slot % 24 < 16) : addP E d pv b = d := by
  unfold addP; rw [addE_skip h1, if_neg h2]
theorem addP_skipL {E pv : Nat} {d : EData} {b : SBlk} (h1 : b.slot / 24 ≠ E) (h2 : b.slot % 24 < 16) : addP E d pv b = ⟨d.led, seedL d.seed b.st.draw, d.start, d.lock, d.len⟩ := by
  unfold addP; rw [addE_skip h1, if_pos h2]
theorem addP_new {E pv : Nat} {d : EData} {b : SBlk} (h1 : b.slot / 24 = E) (h2 : ¬ b.slot % 24 < 16) (h3 : pv < b.slot / 24) : addP E d pv b = ⟨b.st.led, d.seed, b.st.prev, Z32, 1⟩ := by
  unfold addP addE
  simp only [if_pos h1, if_neg h2, if_pos h3]
theorem addP_newL {E pv : Nat} {d : EData} {b : SBlk} (h1 : b.slot / 24 = E) (h2 : b.slot % 24 < 16) (h3 : pv < b.slot / 24) : addP E d pv b = ⟨b.st.led, seedL d.seed b.st.draw, b.st.prev, b.st.prev, 1⟩ := by
  unfold addP addE
  simp only [if_pos h1, if_pos h2, if_pos h3]
theorem addP_more {E pv : Nat} {d : EData} {b : SBlk} (h1 : b.slot / 24 = E) (h2 : ¬ b.slot % 24 < 16) (h3 : ¬ pv < b.slot / 24) : addP E d pv b = ⟨d.led, d.seed, d.start, d.lock, d.len + 1⟩ := by
  unfold addP addE
  simp only [if_pos h1, if_neg h2, if_neg h3]
theorem addP_moreL {E pv : Nat} {d : EData} {b : SBlk} (h1 : b.slot / 24 = E) (h2 : b.slot % 24 < 16) (h3 : ¬ pv < b.slot / 24) : addP E d pv b = ⟨d.led, seedL d.seed b.st.draw, d.start, b.st.prev, d.len + 1⟩ := by
  unfold addP addE
  simp only [if_pos h1, if_pos h2, if_neg h3]
theorem getD_all {α : Type} [Inhabited α] {p : α → Prop} {l : List α} (h : ∀ x ∈ l, p x) {i : Nat} (hi : i < l.length) : p (l.getD i default) := by
  rw [List.getD_eq_getElem?_getD, List.getElem?_eq_getElem hi, Option.getD_some]
  exact h _ (List.getElem_mem hi)
theorem addE_ok {E : Nat} {d : EData} {pe : Option Nat} {b : SBlk} (hd : d.Ok) (hb : b.Ok) (hl : d.len + 1 < 4294967296) : (addE E d pe b).Ok := by
  have h1 : (if b.slot % 24 < 16 then (⟨d.led, seedL d.seed b.st.draw, d.start, d.lock, d.len⟩ : EData) else d).Ok := by
    split
    · exact ⟨hd.led, seedL_ok _ _, hd.start, hd.lock, hd.len⟩
    · exact hd
  have hlen : (if b.slot % 24 < 16 then (⟨d.led, seedL d.seed b.st.draw, d.start, d.lock, d.len⟩ : EData) else d).len = d.len := by split <;> rfl
  unfold addE
  generalize (if b.slot % 24 < 16 then (⟨d.led, seedL d.seed b.st.draw, d.start, d.lock, d.len⟩ : EData) else d) = d1 at *
  simp only
  split
  · have h2 : ∀ q : Bool, (if q = true then (⟨b.st.led, d1.seed, b.st.prev, Z32, 0⟩ : EData) else d1).Ok ∧ (if q = true then (⟨b.st.led, d1.seed, b.st.prev, Z32, 0⟩ : EData) else d1).len + 1 < 4294967296 := fun q => by
      cases q
      · exact ⟨h1, by simp only [Bool.false_eq_true, if_false]; omega⟩
      · exact ⟨⟨hb.st.led, h1.seed, hb.st.prev, H32.zero, by show 0 < 4294967296; decide⟩, by show 0 + 1 < 4294967296; decide⟩
    have h3 := h2 (decide ((match pe with | none => 0 | some e => e) < b.slot / 24))
    simp only [decide_eq_true_eq] at h3
    obtain ⟨h3, h4⟩ := h3
    split
    · exact ⟨h3.led, h3.seed, h3.start, hb.st.prev, h4⟩
    · exact ⟨h3.led, h3.seed, h3.start, h3.lock, h4⟩
  · exact h1
theorem foldN_ok {E : Nat} {led : List Nat} (hl : H32 led) : ∀ l : List SBlk, (∀ x ∈ l, x.Ok) → l.length + 2 < 4294967296 → (foldN E led l).1.Ok :=
  list_snoc (fun _ _ => dataF_ok hl) fun l b ih h hn => by
    rw [foldN_snoc]
    rw [List.length_append] at hn
    simp only [List.length_cons, List.length_nil] at hn
    exact addE_ok (ih (fun x hx => h x (by simp [hx])) (by omega)) (h b (by simp)) (by have := fold_len E led l; omega)
theorem foldN_okT {E : Nat} {led : List Nat} {l : List SBlk} {i : Nat} (hl : H32 led) (hB : ∀ x ∈ l, x.Ok) (hn : l.length + 2 < 4294967296) : (foldN E led (l.take i)).1.Ok :=
  foldN_ok hl _ (fun x hx => hB x (List.mem_of_mem_take hx)) (by have : (l.take i).length ≤ l.length := (by rw [List.length_take]; omega); omega)
end Go.Alm

/- Records out of a row's reading: a struct's parts, one behind the other. -/
namespace Go.Alm
open Go Go.RowKit Go.ChangeShapes Go.WideShapes Go.ChangeAt
def consec (P : Program) : Nat → List (Nat × Nat) → Bool
  | _, [] => true
  | o, (t, off) :: l => Nat.beq off o && consec P (o + P.cellsOf t) l
def tot (P : Program) : Nat → List (Nat × Nat) → Nat
  | o, [] => o
  | o, (t, _) :: l => tot P (o + P.cellsOf t) l
section
variable {H : Type} {enc : TypeId × Value → H} {P : Program} {w : World} {base : Nat} {sp : Nat → Bool} {held : Bool} {fuel t e : Nat} {cs : List Value} {x : DataW H × List MemPlace}
inductive PartsT (enc : TypeId × Value → H) (P : Program) (w : World) (base : Nat) (sp : Nat → Bool) (held : Bool) : List (Nat × Nat) → List Value → Prop
  | nil : PartsT enc P w base sp held [] []
  | cons {n t o : Nat} {c : List Value} {z : DataW H × List MemPlace} {l : List (Nat × Nat)} {cs : List Value} (h : DataW.trod enc P w base sp held n t c = some z) (r : PartsT enc P w base sp held l cs) : PartsT enc P w base sp held ((t, o) :: l) (c ++ cs)
theorem PartsT.inv {t o : Nat} {l : List (Nat × Nat)} (h : PartsT enc P w base sp held ((t, o) :: l) cs) : ∃ n c z cs', DataW.trod enc P w base sp held n t c = some z ∧ PartsT enc P w base sp held l cs' ∧ cs = c ++ cs' := by
  cases h with
  | cons h r => exact ⟨_, _, _, _, h, r, rfl⟩
theorem PartsT.end (h : PartsT enc P w base sp held [] cs) : cs = [] := by cases h; rfl
theorem parts_of_trod {fs : Array Field} {L : List (Nat × Nat)} (he : P.underlying e = some (.struct fs)) (hfs : fs.toList.map (fun f => (f.type, f.offset)) = L) (hL : consec P 0 L = true) (hz : Nat.beq (P.cellsOf e) (tot P 0 L) = true)
    (h : DataW.trod enc P w base sp held fuel e cs = some x) : PartsT enc P w base sp held L cs := by
  obtain ⟨xs, n, _, _, hlen, hxl, hget⟩ := DataW.trod_struct he h
  rw [Nat.eq_of_beq_eq_true hz] at hlen
  have hsz : fs.size = L.length := by have := congrArg List.length hfs; simpa using this
  have get : ∀ (i a b : Nat), L[i]? = some (a, b) → ∃ z, DataW.trod enc P w base sp held n a ((cs.drop b).take (P.cellsOf a)) = some z := fun i a b hi => by
    obtain ⟨f, hf, rfl, rfl⟩ := field_of hfs i hi
    have h1 := hget i f hf
    have hs : i < xs.length := by
      have := (List.getElem?_eq_some_iff.1 hi).1
      omega
    exact ⟨xs[i], by rw [h1]; simp [hs]⟩
  have key : ∀ (M : List (Nat × Nat)) (o k : Nat), L.drop k = M → consec P o M = true → cs.length = tot P o M → PartsT enc P w base sp held M (cs.drop o) := by
    intro M
    induction M with
    | nil => intro o k _ _ hl; rw [List.drop_of_length_le (by rw [hl]; exact Nat.le_refl _)]; exact .nil
    | cons y M ih =>
      obtain ⟨a, b⟩ := y
      intro o k hk hc hl
      simp only [consec, Bool.and_eq_true] at hc
      have hb := Nat.eq_of_beq_eq_true hc.1
      subst hb
      have hi : L[k]? = some (a, b) := by
        have : (L.drop k)[0]? = some (a, b) := by rw [hk]; rfl
        simpa using this
      obtain ⟨z, hz⟩ := get k a b hi
      have := ih (b + P.cellsOf a) (k + 1) (by rw [← List.drop_drop, hk]; rfl) hc.2 hl
      have e : cs.drop b = (cs.drop b).take (P.cellsOf a) ++ cs.drop (b + P.cellsOf a) := by
        rw [← List.drop_drop, List.take_append_drop]
      rw [e]
      exact .cons hz this
  simpa using key L 0 0 rfl hL hlen
structure IsI (P : Program) (k : IntKind) (t : Nat) : Prop where
  u : P.underlying t = some (.int k)
structure IsH (P : Program) (t e : Nat) : Prop where
  u : P.underlying t = some (.array 32 e)
  u8 : P.underlying e = some (.int .u8)
  z : P.cellsOf e = 1
  s : P.cellsOf t = 32
theorem hash_of (h : IsH P t e) (ht : DataW.trod enc P w base sp held fuel t cs = some x) : ∃ l, H32 l ∧ cs = (hv l).toList := by
  obtain ⟨l, hl, rfl, hB⟩ := ints_of_trod h.u h.u8 h.z h.s ht
  exact ⟨l, ⟨hl, hB⟩, (hv_B hl).symm⟩
theorem u32_of (h : IsI P .u32 t) (ht : DataW.trod enc P w base sp held fuel t cs = some x) : ∃ n : Nat, n < 4294967296 ∧ cs = [.int .u32 (n : Int)] := by
  obtain ⟨m, rfl, _, hw⟩ := DataW.trod_int h.u ht
  simp only [Lit.wf, Bool.and_eq_true, decide_eq_true_eq] at hw
  have c1 : IntKind.u32.min = 0 := by decide
  have c2 : IntKind.u32.max = 4294967295 := by decide
  exact ⟨m.toNat, by omega, by rw [show ((m.toNat : Nat) : Int) = m from Int.toNat_of_nonneg (by omega)]⟩
theorem u64_of (h : IsI P .u64 t) (ht : DataW.trod enc P w base sp held fuel t cs = some x) : ∃ n : Nat, n < 18446744073709551616 ∧ cs = [.int .u64 (n : Int)] := by
  obtain ⟨m, rfl, _, hw⟩ := DataW.trod_int h.u ht
  simp only [Lit.wf, Bool.and_eq_true, decide_eq_true_eq] at hw
  have c1 : IntKind.u64.min = 0 := by decide
  have c2 : IntKind.u64.max = 18446744073709551615 := by decide
  exact ⟨m.toNat, by omega, by rw [show ((m.toNat : Nat) : Int) = m from Int.toNat_of_nonneg (by omega)]⟩
theorem i64_of (h : IsI P .i64 t) (ht : DataW.trod enc P w base sp held fuel t cs = some x) : ∃ n : Int, (-9223372036854775808 ≤ n ∧ n ≤ 9223372036854775807) ∧ cs = [.int .i64 n] := by
  obtain ⟨m, rfl, _, hw⟩ := DataW.trod_int h.u ht
  simp only [Lit.wf, Bool.and_eq_true, decide_eq_true_eq] at hw
  have c1 : IntKind.i64.min = -9223372036854775808 := by decide
  have c2 : IntKind.i64.max = 9223372036854775807 := by decide
  exact ⟨m, by omega, rfl⟩
/-- A struct whose fields are these. -/
structure IsS (P : Program) (t : Nat) (L : List (Nat × Nat)) : Prop where
  u : P.underlying t = some (.struct (P.fieldsOf t))
  f : (P.fieldsOf t).toList.map (fun f => (f.type, f.offset)) = L
  c : consec P 0 L = true
  z : Nat.beq (P.cellsOf t) (tot P 0 L) = true
theorem parts_of {L : List (Nat × Nat)} (h : IsS P t L) (ht : DataW.trod enc P w base sp held fuel t cs = some x) : PartsT enc P w base sp held L cs := by
  obtain ⟨h1, h2, h3, h4⟩ := h
  exact parts_of_trod h1 h2 h3 h4 ht
theorem aj_toList (a b : Array Value) : (aj a b).toList = a.toList ++ b.toList := rfl
/-! ### layer 8 -/
structure IsData (P : Program) (t th e tn : Nat) : Prop where
  s : IsS P t [(th, 0), (th, 32), (th, 64), (th, 96), (tn, 128)]
  h : IsH P th e
  n : IsI P .u32 tn
theorem data_of {th tn : Nat} (k : IsData P t th e tn) (ht : DataW.trod enc P w base sp held fuel t cs = some x) : ∃ y : EData, y.Ok ∧ cs = y.cells.toList := by
  obtain ⟨_, _, _, _, h1, r1, rfl⟩ := (parts_of k.s ht).inv
  obtain ⟨_, _, _, _, h2, r2, rfl⟩ := r1.inv
  obtain ⟨_, _, _, _, h3, r3, rfl⟩ := r2.inv
  obtain ⟨_, _, _, _, h4, r4, rfl⟩ := r3.inv
  obtain ⟨_, _, _, _, h5, r5, rfl⟩ := r4.inv
  obtain rfl := r5.end
  obtain ⟨a, ha, rfl⟩ := hash_of k.h h1
  obtain ⟨b, hb, rfl⟩ := hash_of k.h h2
  obtain ⟨c, hc, rfl⟩ := hash_of k.h h3
  obtain ⟨d, hd, rfl⟩ := hash_of k.h h4
  obtain ⟨n, hn, rfl⟩ := u32_of k.n h5
  exact ⟨⟨a, b, c, d, n⟩, ⟨ha, hb, hc, hd, hn⟩, by unfold EData.cells; simp only [aj_toList, List.append_assoc, List.append_nil]⟩
structure IsPair (P : Program) (t td th e tn : Nat) : Prop where
  s : IsS P t [(td, 0), (td, 129)]
  d : IsData P td th e tn
theorem pair_of {td th tn : Nat} (k : IsPair P t td th e tn) (ht : DataW.trod enc P w base sp held fuel t cs = some x) : ∃ y : EPair, y.Ok ∧ cs = y.cells.toList := by
  obtain ⟨_, _, _, _, h1, r1, rfl⟩ := (parts_of k.s ht).inv
  obtain ⟨_, _, _, _, h2, r2, rfl⟩ := r1.inv
  obtain rfl := r2.end
  obtain ⟨a, ha, ea⟩ := data_of k.d h1
  obtain ⟨b, hb, eb⟩ := data_of k.d h2
  exact ⟨⟨a, b⟩, ⟨ha, hb⟩, by rw [ea, eb, List.append_nil]; exact (aj_toList _ _).symm⟩
structure IsBlk (P : Program) (t th e tn : Nat) : Prop where
  s : IsS P t [(tn, 0), (tn, 1), (th, 2), (th, 34), (th, 66)]
  h : IsH P th e
  n : IsI P .u32 tn
theorem blk_of {th tn : Nat} (k : IsBlk P t th e tn) (ht : DataW.trod enc P w base sp held fuel t cs = some x) : ∃ y : EBlk, y.Ok ∧ cs = y.cells.toList := by
  obtain ⟨_, _, _, _, h1, r1, rfl⟩ := (parts_of k.s ht).inv
  obtain ⟨_, _, _, _, h2, r2, rfl⟩ := r1.inv
  obtain ⟨_, _, _, _, h3, r3, rfl⟩ := r2.inv
  obtain ⟨_, _, _, _, h4, r4, rfl⟩ := r3.inv
  obtain ⟨_, _, _, _, h5, r5, rfl⟩ := r4.inv
  obtain rfl := r5.end
  obtain ⟨a, ha, rfl⟩ := u32_of k.n h1
  obtain ⟨b, hb, rfl⟩ := u32_of k.n h2
  obtain ⟨c, hc, rfl⟩ := hash_of k.h h3
  obtain ⟨d, hd, rfl⟩ := hash_of k.h h4
  obtain ⟨n, hn, rfl⟩ := hash_of k.h h5
  exact ⟨⟨a, b, c, d, n⟩, ⟨ha, hb, hc, hd, hn⟩, by unfold EBlk.cells; simp only [aj_toList, List.append_assoc, List.append_nil]; rfl⟩
end
theorem okWide_array {P : Program} {w : World} {r : Reach} {base : Nat} {v : Value} {t n e : Nat} (ht : P.underlying t = some (.array n e)) (h : Value.okWide P w r base t v) : ∃ cs, v = .agg cs ∧ cs.size = P.cellsOf t := by
  simp only [Value.okWide, ht] at h
  obtain ⟨cs, h1, h2, _⟩ := h
  exact ⟨cs, h1, h2⟩
def sinceRe (w : World) : Re := ⟨Old w.heap.size, fun w' => Fr w w' N0, fun _ h _ hk => Nat.lt_of_lt_of_le hk h.size, fun _ _ _ h F d => ⟨F.os.trans h.os, F.tape.trans h.tape, F.output.trans h.output, Nat.le_trans h.size F.size, fun k hk _ => (F.block k (Nat.lt_of_lt_of_le hk h.size) (fun ht => d k hk ht)).trans (h.block k hk (fun h => h.elim))⟩⟩
theorem agg_eq {q c : Array Value} (h : (Value.agg q).cells.toList = c.toList) : q = c := Array.toList_inj.1 (by simpa [Value.cells] using h)
theorem bandI {a b : Bool} (h : a = true) (k : b = true) : (a && b) = true := by rw [h, k]; rfl
inductive RoA (w : World) : List Rc → Prop
  | nil : RoA w []
  | cons {r : Rc} {l : List Rc} (h : r.A w) (t : RoA w l) : RoA w (r :: l)
theorem RoA.out {w : World} {l : List Rc} (h : RoA w l) : ∀ r ∈ l, r.A w := by
  induction h with
  | nil => intro r h; cases h
  | cons h _ ih => intro r hr; rcases List.mem_cons.1 hr with rfl | hr; exact h; exact ih r hr
/-- A contract of the machine's, for a row: nothing old is touched. -/
theorem Does.row {P : Program} {f : Nat} {args : Array Value} {ro : List Rc} {v : Value} (h : Does P f args ro [] (fun v' H => v' = v ∧ H = [])) {w : World} (hA : ∀ r ∈ ro, r.A w) : Calls P f args w fun e w' => e = .returned v ∧ Fr w w' N0 := by
  have hs : Hs w (.gen (sinceRe w) :: ro) [] := ⟨fun r hr => by
    simp only [List.append_nil, List.mem_cons] at hr
    rcases hr with rfl | hr
    · exact Fr.refl _ _
    · exact hA r hr, fun _ _ o ho => (by cases ho), List.Pairwise.nil⟩
  refine (h _ w hs).mono ?_
  rintro e w' ⟨v', H, ⟨rfl, rfl⟩, rfl, hs'⟩
  exact ⟨rfl, hs'.a (.gen (sinceRe w)) (by simp)⟩
end Go.Alm

/- Records out of a row's reading: layers 9 and 12; slices of records. -/
namespace Go.Alm
open Go Go.RowKit Go.ChangeShapes Go.WideShapes Go.ChangeAt
section
variable {H : Type} {enc : TypeId × Value → H} {P : Program} {w : World} {base : Nat} {sp : Nat → Bool} {held : Bool} {fuel t e : Nat} {cs : List Value} {x : DataW H × List MemPlace}
structure IsC4 (P : Program) (t e : Nat) : Prop where
  u : P.underlying t = some (.array 4 e)
  n : IsI P .u32 e
  z : P.cellsOf e = 1
  s : P.cellsOf t = 4
theorem c4_of (h : IsC4 P t e) (ht : DataW.trod enc P w base sp held fuel t cs = some x) : ∃ l, N4 l ∧ cs = (c4 l).toList := by
  obtain ⟨xs, m, _, _, hlen, hxl, hget⟩ := DataW.trod_array h.u ht
  rw [h.s] at hlen
  have key : ∀ i, i < 4 → ∃ q : Nat, q < 4294967296 ∧ cs[i]? = some (.int .u32 (q : Int)) := fun i hi => by
    have h1 := hget i hi
    have hs : (xs[i]?).isSome = true := by simp [hxl, hi]
    obtain ⟨y, hy⟩ := Option.isSome_iff_exists.1 hs
    rw [hy] at h1
    obtain ⟨n, hn, hc⟩ := u32_of h.n h1
    rw [h.z, Nat.mul_one] at hc
    have hi' : i < cs.length := by omega
    rw [List.drop_eq_getElem_cons hi'] at hc
    simp only [List.take_succ_cons, List.take_zero, List.cons.injEq, and_true] at hc
    exact ⟨n, hn, by rw [← hc]; simp [hi']⟩
  obtain ⟨a, ha, ea⟩ := key 0 (by decide)
  obtain ⟨b, hb, eb⟩ := key 1 (by decide)
  obtain ⟨c, hc, ec⟩ := key 2 (by decide)
  obtain ⟨d, hd, ed⟩ := key 3 (by decide)
  refine ⟨[a, b, c, d], ⟨rfl, fun x hx => ?_⟩, ?_⟩
  · simp only [List.mem_cons, List.not_mem_nil, or_false] at hx
    rcases hx with rfl | rfl | rfl | rfl <;> assumption
  · match cs, hlen, ea, eb, ec, ed with
    | [_, _, _, _], _, ea, eb, ec, ed =>
      simp only [List.getElem?_cons_zero, List.getElem?_cons_succ, Option.some.injEq] at ea eb ec ed
      subst ea eb ec ed
      rfl
structure IsRing (P : Program) (t tc tn : Nat) : Prop where
  s : IsS P t [(tn, 0), (tc, 1)]
  c : IsC4 P tc tn
theorem ring_of {tc tn : Nat} (k : IsRing P t tc tn) (ht : DataW.trod enc P w base sp held fuel t cs = some x) : ∃ y : RRing, y.Ok ∧ cs = y.cells.toList := by
  obtain ⟨_, _, _, _, h1, r1, rfl⟩ := (parts_of k.s ht).inv
  obtain ⟨_, _, _, _, h2, r2, rfl⟩ := r1.inv
  obtain rfl := r2.end
  obtain ⟨n, hn, rfl⟩ := u32_of k.c.n h1
  obtain ⟨l, hl, rfl⟩ := c4_of k.c h2
  exact ⟨⟨n, l⟩, ⟨hn, hl⟩, rfl⟩
structure IsWin (P : Program) (t tr tc tn : Nat) : Prop where
  s : IsS P t [(tn, 0), (tr, 1)]
  r : IsRing P tr tc tn
theorem win_of {tr tc tn : Nat} (k : IsWin P t tr tc tn) (ht : DataW.trod enc P w base sp held fuel t cs = some x) : ∃ y : RWin, y.Ok ∧ cs = y.cells.toList := by
  obtain ⟨_, _, _, _, h1, r1, rfl⟩ := (parts_of k.s ht).inv
  obtain ⟨_, _, _, _, h2, r2, rfl⟩ := r1.inv
  obtain rfl := r2.end
  obtain ⟨n, hn, rfl⟩ := u32_of k.r.c.n h1
  obtain ⟨y, hy, rfl⟩ := ring_of k.r h2
  exact ⟨⟨n, y⟩, ⟨hn, hy⟩, rfl⟩
structure IsState (P : Program) (t th e tn tw tr tc tp td : Nat) : Prop where
  s : IsS P t [(th, 0), (th, 32), (th, 64), (tn, 96), (tn, 97), (tn, 98), (tw, 99), (tp, 105)]
  h : IsH P th e
  n : IsI P .u32 tn
  w : IsWin P tw tr tc tn
  p : IsPair P tp td th e tn
theorem st_cells (a b c : List Nat) (d f g : Nat) (u : RWin) (v : EPair) : (SState.cells ⟨a, b, c, d, f, g, u, v⟩).toList = (hv a).toList ++ ((hv b).toList ++ ((hv c).toList ++ ([.int .u32 (d : Int)] ++ ([.int .u32 (f : Int)] ++ ([.int .u32 (g : Int)] ++ (u.cells.toList ++ (v.cells.toList ++ []))))))) := by
  have h : ∀ A B C U V : Array Value, ∀ x y z : Value, (aj (aj (aj (aj (aj A B) C) #[x, y, z]) U) V).toList = A.toList ++ (B.toList ++ (C.toList ++ ([x] ++ ([y] ++ ([z] ++ (U.toList ++ (V.toList ++ []))))))) := by
    intro A B C U V x y z
    simp only [aj_toList, List.append_assoc, List.append_nil, List.cons_append, List.nil_append]
  exact h _ _ _ _ _ _ _ _
theorem state_of {th tn tw tr tc tp td : Nat} (k : IsState P t th e tn tw tr tc tp td) (ht : DataW.trod enc P w base sp held fuel t cs = some x) : ∃ y : SState, y.Ok ∧ cs = y.cells.toList := by
  obtain ⟨_, _, _, _, h1, r1, rfl⟩ := (parts_of k.s ht).inv
  obtain ⟨_, _, _, _, h2, r2, rfl⟩ := r1.inv
  obtain ⟨_, _, _, _, h3, r3, rfl⟩ := r2.inv
  obtain ⟨_, _, _, _, h4, r4, rfl⟩ := r3.inv
  obtain ⟨_, _, _, _, h5, r5, rfl⟩ := r4.inv
  obtain ⟨_, _, _, _, h6, r6, rfl⟩ := r5.inv
  obtain ⟨_, _, _, _, h7, r7, rfl⟩ := r6.inv
  obtain ⟨_, _, _, _, h8, r8, rfl⟩ := r7.inv
  obtain rfl := r8.end
  obtain ⟨a, ha, e1⟩ := hash_of k.h h1
  obtain ⟨b, hb, e2⟩ := hash_of k.h h2
  obtain ⟨c, hc, e3⟩ := hash_of k.h h3
  obtain ⟨d, hd, e4⟩ := u32_of k.n h4
  obtain ⟨f, hf, e5⟩ := u32_of k.n h5
  obtain ⟨g, hg, e6⟩ := u32_of k.n h6
  obtain ⟨u, hu, e7⟩ := win_of k.w h7
  obtain ⟨v, hw, e8⟩ := pair_of k.p h8
  refine ⟨⟨a, b, c, d, f, g, u, v⟩, ⟨ha, hb, hc, hd, hf, hg, hu, hw⟩, ?_⟩
  rw [e1, e2, e3, e4, e5, e6, e7, e8]
  exact (st_cells _ _ _ _ _ _ _ _).symm
structure IsKey (P : Program) (t th e tn : Nat) : Prop where
  s : IsS P t [(tn, 0), (th, 1), (th, 33)]
  h : IsH P th e
  n : IsI P .u32 tn
theorem key_of {th tn : Nat} (k : IsKey P t th e tn) (ht : DataW.trod enc P w base sp held fuel t cs = some x) : ∃ y : OKey, y.Ok ∧ cs = y.cells.toList := by
  obtain ⟨_, _, _, _, h1, r1, rfl⟩ := (parts_of k.s ht).inv
  obtain ⟨_, _, _, _, h2, r2, rfl⟩ := r1.inv
  obtain ⟨_, _, _, _, h3, r3, rfl⟩ := r2.inv
  obtain rfl := r3.end
  obtain ⟨a, ha, rfl⟩ := u32_of k.n h1
  obtain ⟨b, hb, rfl⟩ := hash_of k.h h2
  obtain ⟨c, hc, rfl⟩ := hash_of k.h h3
  exact ⟨⟨a, b, c⟩, ⟨ha, hb, hc⟩, by unfold OKey.cells; simp only [aj_toList, List.append_assoc, List.append_nil]⟩
structure IsStep (P : Program) (t th e tn : Nat) : Prop where
  s : IsS P t [(tn, 0), (th, 1), (th, 33), (th, 65)]
  h : IsH P th e
  n : IsI P .u32 tn
theorem step_of {th tn : Nat} (k : IsStep P t th e tn) (ht : DataW.trod enc P w base sp held fuel t cs = some x) : ∃ y : EStep, y.Ok ∧ cs = y.cells.toList := by
  obtain ⟨_, _, _, _, h1, r1, rfl⟩ := (parts_of k.s ht).inv
  obtain ⟨_, _, _, _, h2, r2, rfl⟩ := r1.inv
  obtain ⟨_, _, _, _, h3, r3, rfl⟩ := r2.inv
  obtain ⟨_, _, _, _, h4, r4, rfl⟩ := r3.inv
  obtain rfl := r4.end
  obtain ⟨a, ha, rfl⟩ := u32_of k.n h1
  obtain ⟨b, hb, rfl⟩ := hash_of k.h h2
  obtain ⟨c, hc, rfl⟩ := hash_of k.h h3
  obtain ⟨d, hd, rfl⟩ := hash_of k.h h4
  exact ⟨⟨a, b, c, d⟩, ⟨ha, hb, hc, hd⟩, by unfold EStep.cells; simp only [aj_toList, List.append_assoc, List.append_nil]⟩
/-- A slice of records. -/
theorem recs_of_trod {X : Type} {f : X → Array Value} {Ok : X → Prop} {sz : Nat} (hsz : ∀ y, (f y).size = sz) (hp : 0 < sz) (ht : P.underlying t = some (.slice e)) (ze : P.cellsOf e = sz)
    (el : ∀ (fu : Nat) (c : List Value) (y : DataW H × List MemPlace), DataW.trod enc P w base sp held fu e c = some y → ∃ z : X, Ok z ∧ c = (f z).toList)
    (h : DataW.trod enc P w base sp held fuel t cs = some x) : ∃ (ao : Option Addr) (l : List X) (cap : Nat), cs = [.slice ao l.length cap] ∧ Rd w ao (RL f l) ∧ (∀ y ∈ l, Ok y) ∧ l.length ≤ cap ∧ cap ≤ maxLen := by
  rcases DataW.trod_slice ht h with ⟨rfl, _⟩ | ⟨a, len, cap, elems, rest, n, _, rfl, _, _, hlc, hcm, hel, hget, _⟩
  · exact ⟨none, [], 0, rfl, Rd.nil _ _, fun _ h => (by cases h), Nat.le_refl _, Nat.zero_le _⟩
  · have key : ∀ i, i < len → ∃ y : X, Ok y ∧ ∀ j, j < sz → w.cell? ((a.add (i * sz)).add j) = (f y).toList[j]? := fun i hi' => by
      have h1 := hget i hi'
      have hs : (elems[i]?).isSome = true := by simp [hel, hi']
      obtain ⟨c, hc, hy⟩ := some_of_bind h1 hs
      obtain ⟨y, hy'⟩ := Option.isSome_iff_exists.1 hs
      rw [hy'] at hy
      obtain ⟨z, ok, ez⟩ := el _ _ _ hy
      rw [ze] at hc
      have hcc := (World.cells?_some hc).2.2
      rw [ez] at hcc
      exact ⟨z, ok, hcc⟩
    have build : ∀ m, m ≤ len → ∃ l : List X, l.length = m ∧ (∀ y ∈ l, Ok y) ∧ ∀ i, i < m → ∃ y, l[i]? = some y ∧ ∀ j, j < sz → w.cell? ((a.add (i * sz)).add j) = (f y).toList[j]? := by
      intro m
      induction m with
      | zero => exact fun _ => ⟨[], rfl, fun _ h => (by cases h), fun i hi => absurd hi (by omega)⟩
      | succ m ih =>
        intro hm
        obtain ⟨l, hl, hok, hg⟩ := ih (by omega)
        obtain ⟨y, hy, hc⟩ := key m (by omega)
        refine ⟨l ++ [y], by simp [hl], fun z hz => ?_, fun i hi => ?_⟩
        · rcases List.mem_append.1 hz with hz | hz
          · exact hok z hz
          · rw [List.mem_singleton.1 hz]; exact hy
        · rcases Nat.lt_or_ge i m with h1 | h1
          · obtain ⟨z, hz, hc'⟩ := hg i h1
            exact ⟨z, by rw [List.getElem?_append_left (by omega)]; exact hz, hc'⟩
          · have : i = m := by omega
            subst this
            exact ⟨y, by rw [List.getElem?_append_right (by omega)]; simp [hl], hc⟩
    obtain ⟨l, hl, hok, hg⟩ := build len (Nat.le_refl _)
    subst hl
    refine ⟨some a, l, cap, rfl, fun j u hj => ?_, hok, hlc, hcm⟩
    have hjl := (List.getElem?_eq_some_iff.1 hj).1
    rw [RL_length hsz] at hjl
    have hdiv : j / sz < l.length := (Nat.div_lt_iff_lt_mul hp).2 hjl
    obtain ⟨y, hy, hc⟩ := hg _ hdiv
    have hm : j % sz < sz := Nat.mod_lt _ hp
    refine ⟨a, rfl, ?_⟩
    have hdm : j / sz * sz + j % sz = j := by rw [Nat.mul_comm]; exact Nat.div_add_mod j sz
    have e1 : (a.add (j / sz * sz)).add (j % sz) = a.add j := by rw [add_add, hdm]
    have hc := hc _ hm
    rw [e1] at hc
    rw [hc]
    -- the same cell of the row
    have hw := congrArg (fun q : List Value => q[j % sz]?) (show ((RL f l).drop (j / sz * sz)).take sz = (f y).toList from by
      have hlt : j / sz < l.length := hdiv
      rw [RL_drop hsz, List.drop_eq_getElem_cons hlt, RL]
      have : l[j / sz] = y := by rw [List.getElem?_eq_getElem hlt] at hy; exact Option.some.inj hy
      rw [this, List.take_append_of_le_length (by simp [hsz]), List.take_of_length_le (by simp [hsz])])
    simp only [List.getElem?_take, if_pos hm, List.getElem?_drop, hdm] at hw
    rw [← hw]; exact hj
end
end Go.Alm

/- Layers 6, 7 and 10, plainly: rings, windows, and children. -/
namespace Go.Alm
open Go Go.RowKit
/-- What place `i` counts of the sub-windows up to `n`: nothing, if its sub-window is behind the last one that was counted. -/
def kp (last n i c : Nat) : Nat := if n ≤ last + (n + 4 - i) % 4 then c else 0
theorem kp_le (last n i c : Nat) : kp last n i c ≤ c := by unfold kp; split <;> omega
def RRing.cn (r : RRing) (i : Nat) : Nat := r.counts.getD i 0
/-- The ring, as it is looked at up to sub-window `n`. -/
def ringTo (r : RRing) (n : Nat) : RRing := ⟨r.last, [kp r.last n 0 (r.cn 0), kp r.last n 1 (r.cn 1), kp r.last n 2 (r.cn 2), kp r.last n 3 (r.cn 3)]⟩
def ringSum (r : RRing) : Nat := r.cn 0 + r.cn 1 + r.cn 2 + r.cn 3
def kq (r : RRing) (n i : Nat) : Nat := kp r.last n i (r.cn i) + (if n % 4 = i then 1 else 0)
def ringAdd (r : RRing) (n : Nat) : RRing := ⟨n, [kq r n 0, kq r n 1, kq r n 2, kq r n 3]⟩
def ring0 : RRing := ⟨0, [0, 0, 0, 0]⟩
def ringPE (r : RRing) (n : Nat) : Nat := if n < r.last then 6 else if n = r.last ∧ 3 ≤ r.cn (n % 4) then 11 else 0
def ringPut (r : RRing) (n : Nat) : RRing := if ringPE r n = 0 then ringAdd r n else ring0
def ringBE (r : RRing) (n : Nat) : Nat := if n ≤ r.last then 6 else 0
def ringBef (r : RRing) (n : Nat) : Nat := if n ≤ r.last then 0 else ringSum (ringTo r (n - 1))
def winRel (x : RWin) (s : Nat) : Nat := if s < 12 ∨ s / 3 ≤ x.ring.last then x.min else min x.min (ringBef x.ring (s / 3))
def win0 : RWin := ⟨0, ring0⟩
def winPut (x : RWin) (s : Nat) : RWin := if ringPE x.ring (s / 3) = 0 then ⟨winRel x s, ringAdd x.ring (s / 3)⟩ else win0
theorem ring0_ok : ring0.Ok := ⟨by decide, by decide⟩
theorem win0_ok : win0.Ok := ⟨by decide, ring0_ok⟩
/-- Few enough to be added. -/
def RRing.Few (r : RRing) : Prop := r.cn 0 + r.cn 1 + r.cn 2 + r.cn 3 < 4294967295
theorem RRing.Right.few {r : RRing} (h : r.Right) : r.Few := by
  obtain ⟨h0, h1, h2, h3, _⟩ := h
  unfold RRing.Few RRing.cn; omega
theorem RRing.Right.le {r : RRing} (h : r.Right) (i : Nat) (hi : i < 4) : r.cn i ≤ 3 := by
  obtain ⟨h0, h1, h2, h3, _⟩ := h
  unfold RRing.cn
  match i, hi with
  | 0, _ => exact h0
  | 1, _ => exact h1
  | 2, _ => exact h2
  | 3, _ => exact h3
theorem n4_mk {a b c d : Nat} (ha : a < 4294967296) (hb : b < 4294967296) (hc : c < 4294967296) (hd : d < 4294967296) : N4 [a, b, c, d] := ⟨rfl, fun x hx => by
  simp only [List.mem_cons, List.not_mem_nil, or_false] at hx
  omega⟩
theorem ringTo_ok {r : RRing} (h : r.Ok) (n : Nat) : (ringTo r n).Ok := ⟨h.last, n4_mk (Nat.lt_of_le_of_lt (kp_le _ _ _ _) (h.counts.lt 0)) (Nat.lt_of_le_of_lt (kp_le _ _ _ _) (h.counts.lt 1)) (Nat.lt_of_le_of_lt (kp_le _ _ _ _) (h.counts.lt 2)) (Nat.lt_of_le_of_lt (kp_le _ _ _ _) (h.counts.lt 3))⟩
theorem ringTo_few {r : RRing} (h : r.Few) (n : Nat) : (ringTo r n).Few := by
  have h0 := kp_le r.last n 0 (r.cn 0); have h1 := kp_le r.last n 1 (r.cn 1); have h2 := kp_le r.last n 2 (r.cn 2); have h3 := kp_le r.last n 3 (r.cn 3)
  unfold RRing.Few at *
  show kp r.last n 0 (r.cn 0) + kp r.last n 1 (r.cn 1) + kp r.last n 2 (r.cn 2) + kp r.last n 3 (r.cn 3) < _
  omega
theorem kq_lt {r : RRing} (h : r.Few) (n i : Nat) (hi : i < 4) : kq r n i < 4294967296 := by
  have := kp_le r.last n i (r.cn i)
  have hc : r.cn i < 4294967295 := by unfold RRing.Few at h; match i, hi with | 0, _ => omega | 1, _ => omega | 2, _ => omega | 3, _ => omega
  unfold kq; split <;> omega
theorem ringAdd_ok {r : RRing} (h : r.Few) {n : Nat} (hn : n < 4294967296) : (ringAdd r n).Ok := ⟨hn, n4_mk (kq_lt h n 0 (by decide)) (kq_lt h n 1 (by decide)) (kq_lt h n 2 (by decide)) (kq_lt h n 3 (by decide))⟩
theorem ringPut_ok {r : RRing} (h : r.Few) {n : Nat} (hn : n < 4294967296) : (ringPut r n).Ok := by unfold ringPut; split; exact ringAdd_ok h hn; exact ring0_ok
theorem ringBef_lt {r : RRing} (h : r.Few) (n : Nat) : ringBef r n < 4294967296 := by
  have := ringTo_few h (n - 1)
  unfold ringBef ringSum
  unfold RRing.Few at this
  split <;> omega
theorem winRel_le (x : RWin) (s : Nat) : winRel x s ≤ x.min := by unfold winRel; split <;> omega
theorem winPut_ok {x : RWin} (hx : x.Ok) (h : x.ring.Few) {s : Nat} (hs : s < 4294967296) : (winPut x s).Ok := by
  unfold winPut; split
  · exact ⟨Nat.lt_of_le_of_lt (winRel_le x s) hx.min, ringAdd_ok h (by omega)⟩
  · exact win0_ok
/-! ### the steps of the code -/
theorem ringSum_eq (r : RRing) : r.counts.getD 0 0 + r.counts.getD 1 0 + r.counts.getD 2 0 + r.counts.getD 3 0 = ringSum r := rfl
/-- What was passed is dropped, one place behind the other. -/
def zap (l : List Nat) (a : Nat) : Nat → List Nat
  | 0 => l
  | k + 1 => (zap l a k).set ((a + 1 + k) % 4) 0
theorem zap_n4 {l : List Nat} (h : N4 l) (a : Nat) : ∀ k, N4 (zap l a k)
  | 0 => h
  | k + 1 => by
    have ih := zap_n4 h a k
    refine ⟨by rw [zap, List.length_set]; exact ih.1, fun x hx => ?_⟩
    rcases List.mem_or_eq_of_mem_set hx with hx | hx
    · exact ih.2 x hx
    · omega
theorem list4 {l : List Nat} (h : l.length = 4) : l = [l.getD 0 0, l.getD 1 0, l.getD 2 0, l.getD 3 0] := by
  match l, h with
  | [a, b, c, d], _ => rfl
theorem getD_set0 (l : List Nat) (i j : Nat) (h : i < l.length) : (l.set i 0).getD j 0 = if i = j then 0 else l.getD j 0 := by
  simp only [List.getD_eq_getElem?_getD, List.getElem?_set]
  split
  · rename_i e; subst e; simp [h]
  · rfl
theorem zap_get {l : List Nat} (h : N4 l) (last : Nat) : ∀ k, k ≤ 4 → ∀ i, i < 4 → (zap l (last % 4) k).getD i 0 = kp last (last + k) i (l.getD i 0)
  | 0, _, i, hi => by rw [zap, kp, if_pos (by omega)]
  | k + 1, hk, i, hi => by
    have ih := zap_get h last k (by omega) i hi
    rw [zap, getD_set0 _ _ _ (by rw [(zap_n4 h _ k).1]; omega), ih]
    unfold kp
    by_cases e : (last % 4 + 1 + k) % 4 = i
    · rw [if_pos e, if_neg (by omega)]
    · rw [if_neg e]
      by_cases g : last + k ≤ last + (last + k + 4 - i) % 4
      · rw [if_pos g, if_pos (by omega)]
      · rw [if_neg g, if_neg (by omega)]
theorem kp_far (last n i c : Nat) (h : last + 4 ≤ n) : kp last n i c = 0 := by rw [kp, if_neg (by omega)]
theorem zap_to {r : RRing} (h : r.Ok) {n : Nat} (h1 : r.last < n) (h2 : n - r.last - 1 < 4) : (⟨r.last, zap r.counts (r.last % 4) (n - r.last - 1)⟩ : RRing) = ringTo r (n - 1) := by
  have e := list4 (zap_n4 h.counts (r.last % 4) (n - r.last - 1)).1
  have g := fun i hi => zap_get h.counts r.last (n - r.last - 1) (by omega) i hi
  rw [g 0 (by decide), g 1 (by decide), g 2 (by decide), g 3 (by decide), show r.last + (n - r.last - 1) = n - 1 by omega] at e
  rw [e]; rfl
theorem to_far (r : RRing) {n : Nat} (h : r.last + 4 ≤ n) : (⟨r.last, [0, 0, 0, 0]⟩ : RRing) = ringTo r n := by
  rw [ringTo, kp_far _ _ _ _ h, kp_far _ _ _ _ h, kp_far _ _ _ _ h, kp_far _ _ _ _ h]
/-- One more at a place. -/
theorem set_inc {l : List Nat} (h : l.length = 4) {p : Nat} (hp : p < 4) : l.set p (l.getD p 0 + 1) = [l.getD 0 0 + (if p = 0 then 1 else 0), l.getD 1 0 + (if p = 1 then 1 else 0), l.getD 2 0 + (if p = 2 then 1 else 0), l.getD 3 0 + (if p = 3 then 1 else 0)] := by
  match l, h, p, hp with
  | [a, b, c, d], _, 0, _ => rfl
  | [a, b, c, d], _, 1, _ => rfl
  | [a, b, c, d], _, 2, _ => rfl
  | [a, b, c, d], _, 3, _ => rfl
theorem kp_same (last i c : Nat) : kp last last i c = c := by rw [kp, if_pos (by omega)]
theorem put_same {r : RRing} (h : r.Ok) : (⟨r.last, r.counts.set (r.last % 4) (r.counts.getD (r.last % 4) 0 + 1)⟩ : RRing) = ringAdd r r.last := by
  rw [set_inc h.counts.1 (Nat.mod_lt _ (by decide)), ringAdd]
  simp only [kq, kp_same]; rfl
theorem put_later {r : RRing} {n : Nat} (h : r.last < n) : (⟨n, ((ringTo r (n - 1)).counts.set (n % 4) 0).set (n % 4) (((ringTo r (n - 1)).counts.set (n % 4) 0).getD (n % 4) 0 + 1)⟩ : RRing) = ringAdd r n := by
  have hl : ((ringTo r (n - 1)).counts.set (n % 4) 0).length = 4 := by rw [List.length_set]; rfl
  rw [set_inc hl (Nat.mod_lt _ (by decide)), ringAdd]
  have key : ∀ i, i < 4 → (((ringTo r (n - 1)).counts.set (n % 4) 0).getD i 0 + (if n % 4 = i then 1 else 0)) = kq r n i := by
    intro i hi
    rw [getD_set0 _ _ _ (by show n % 4 < 4; omega)]
    have hc : (ringTo r (n - 1)).counts.getD i 0 = kp r.last (n - 1) i (r.cn i) := by
      match i, hi with
      | 0, _ => rfl
      | 1, _ => rfl
      | 2, _ => rfl
      | 3, _ => rfl
    unfold kq
    by_cases e : n % 4 = i
    · rw [if_pos e, if_pos e, kp, if_neg (by omega)]
    · rw [if_neg e, if_neg e, hc]
      unfold kp
      by_cases g : n ≤ r.last + (n + 4 - i) % 4
      · rw [if_pos g, if_pos (by omega)]
      · rw [if_neg g, if_neg (by omega)]
  rw [key 0 (by decide), key 1 (by decide), key 2 (by decide), key 3 (by decide)]
/-! ### the reference's steps -/
/-- The last sub-window up to `n` that place `i` counts. -/
def ofZ (n i : Nat) : Int := (n : Int) - (((n + 4 - i) % 4 : Nat) : Int)
def atR (r : RRing) (g : Int) : Nat := if ofZ r.last 0 = g then r.cn 0 else if ofZ r.last 1 = g then r.cn 1 else if ofZ r.last 2 = g then r.cn 2 else if ofZ r.last 3 = g then r.cn 3 else 0
theorem ofZ_eq {last n i j : Nat} (hi : i < 4) (hj : j < 4) (h : last ≤ n) : ofZ last i = ofZ n j ↔ i = j ∧ n ≤ last + (n + 4 - j) % 4 := by unfold ofZ; omega
theorem at_of (r : RRing) {n j : Nat} (hj : j < 4) (h : r.last ≤ n) : atR r (ofZ n j) = kp r.last n j (r.cn j) := by
  unfold atR kp
  simp only [ofZ_eq (i := 0) (by decide) hj h, ofZ_eq (i := 1) (by decide) hj h, ofZ_eq (i := 2) (by decide) hj h, ofZ_eq (i := 3) (by decide) hj h]
  by_cases g : n ≤ r.last + (n + 4 - j) % 4
  · match j, hj, g with
    | 0, _, g => simp [g]
    | 1, _, g => simp [g]
    | 2, _, g => simp [g]
    | 3, _, g => simp [g]
  · simp [g]
theorem at_le {r : RRing} (h : r.Right) (g : Int) : atR r g ≤ 3 := by
  have h0 := h.le 0 (by decide); have h1 := h.le 1 (by decide); have h2 := h.le 2 (by decide); have h3 := h.le 3 (by decide)
  unfold atR
  repeat' split
  all_goals omega
theorem at_back (r : RRing) {n : Nat} (h : r.last < n) (i : Nat) (h1 : 1 ≤ i) (h4 : i ≤ 4) : atR r ((n : Int) - (i : Int)) = kp r.last (n - 1) ((n + 4 - i) % 4) (r.cn ((n + 4 - i) % 4)) := by
  rw [← at_of r (Nat.mod_lt _ (by decide)) (by omega)]
  congr 1
  unfold ofZ; omega
theorem bef_sum {r : RRing} {n : Nat} (h : r.last < n) : atR r ((n : Int) - (1 : Int)) + atR r ((n : Int) - (2 : Int)) + atR r ((n : Int) - (3 : Int)) + atR r ((n : Int) - (4 : Int)) = ringBef r n := by
  have e1 := at_back r h 1 (by decide) (by decide); have e2 := at_back r h 2 (by decide) (by decide); have e3 := at_back r h 3 (by decide) (by decide); have e4 := at_back r h 4 (by decide) (by decide)
  rw [show ((1 : Nat) : Int) = (1 : Int) from rfl] at e1
  rw [show ((2 : Nat) : Int) = (2 : Int) from rfl] at e2
  rw [show ((3 : Nat) : Int) = (3 : Int) from rfl] at e3
  rw [show ((4 : Nat) : Int) = (4 : Int) from rfl] at e4
  rw [e1, e2, e3, e4, ringBef, if_neg (by omega)]
  show _ = kp r.last (n - 1) 0 (r.cn 0) + kp r.last (n - 1) 1 (r.cn 1) + kp r.last (n - 1) 2 (r.cn 2) + kp r.last (n - 1) 3 (r.cn 3)
  have hm : n % 4 < 4 := Nat.mod_lt _ (by decide)
  generalize hq : n % 4 = q at hm
  match q, hm, hq with
  | 0, _, hq => rw [show (n + 4 - 1) % 4 = 3 by omega, show (n + 4 - 2) % 4 = 2 by omega, show (n + 4 - 3) % 4 = 1 by omega, show (n + 4 - 4) % 4 = 0 by omega]; omega
  | 1, _, hq => rw [show (n + 4 - 1) % 4 = 0 by omega, show (n + 4 - 2) % 4 = 3 by omega, show (n + 4 - 3) % 4 = 2 by omega, show (n + 4 - 4) % 4 = 1 by omega]; omega
  | 2, _, hq => rw [show (n + 4 - 1) % 4 = 1 by omega, show (n + 4 - 2) % 4 = 0 by omega, show (n + 4 - 3) % 4 = 3 by omega, show (n + 4 - 4) % 4 = 2 by omega]; omega
  | 3, _, hq => rw [show (n + 4 - 1) % 4 = 2 by omega, show (n + 4 - 2) % 4 = 1 by omega, show (n + 4 - 3) % 4 = 0 by omega, show (n + 4 - 4) % 4 = 3 by omega]; omega
theorem rput_eq {r : RRing} {n : Nat} (h : r.last ≤ n) : (⟨n, [atR r (ofZ n 0), atR r (ofZ n 1), atR r (ofZ n 2), atR r (ofZ n 3)].set (n % 4) ([atR r (ofZ n 0), atR r (ofZ n 1), atR r (ofZ n 2), atR r (ofZ n 3)].getD (n % 4) 0 + 1)⟩ : RRing) = ringAdd r n := by
  rw [set_inc rfl (Nat.mod_lt _ (by decide)), at_of r (by decide) h, at_of r (by decide) h, at_of r (by decide) h, at_of r (by decide) h]
  rfl
/-- What Go's remainder by four is told of. -/
def tm (x : Int) : Int := x.tmod 4
theorem tm_spec (x : Int) : (tm x - x) % 4 = 0 ∧ -4 < tm x ∧ tm x < 4 ∧ (0 ≤ x → 0 ≤ tm x) := by
  have h1 := Int.mul_tdiv_add_tmod x 4
  have h2 := Int.tmod_lt_of_pos x (b := 4) (by decide)
  have h3 : -4 < x.tmod 4 := by
    have := Int.lt_tmod_of_pos x (b := 4) (by decide)
    omega
  unfold tm
  exact ⟨by omega, h3, h2, fun h => Int.tmod_nonneg 4 h⟩
/-! ### what the code does, step by step -/
theorem n4_set {l : List Nat} (h : N4 l) (p v : Nat) (hv : v < 4294967296) : N4 (l.set p v) := ⟨by rw [List.length_set]; exact h.1, fun x hx => by
  rcases List.mem_or_eq_of_mem_set hx with hx | hx
  · exact h.2 x hx
  · omega⟩
def zp (r : RRing) (g k : Nat) : List Nat := if 4 ≤ g then [0, 0, 0, 0] else zap r.counts (r.last % 4) k
theorem zp_step (r : RRing) (g k : Nat) : (zp r g k).set ((r.last % 4 + 1 + k) % 4) 0 = zp r g (k + 1) := by
  unfold zp
  split
  · have : (r.last % 4 + 1 + k) % 4 < 4 := Nat.mod_lt _ (by decide)
    generalize (r.last % 4 + 1 + k) % 4 = p at this
    match p, this with
    | 0, _ => rfl
    | 1, _ => rfl
    | 2, _ => rfl
    | 3, _ => rfl
  · rfl
theorem zp_far (r : RRing) {g : Nat} (k : Nat) (h : 4 ≤ g) : zp r g k = [0, 0, 0, 0] := if_pos h
theorem zp_near (r : RRing) {g : Nat} (h : ¬ 4 ≤ g) : zp r g 0 = r.counts := if_neg h
theorem zp_n4 {r : RRing} (h : r.Ok) (g k : Nat) : N4 (zp r g k) := by
  unfold zp; split
  · exact n4_mk (by decide) (by decide) (by decide) (by decide)
  · exact zap_n4 h.counts _ k
theorem zp_end {r : RRing} (h : r.Ok) {n k : Nat} (hl : r.last < n) (hk : k = min (n - r.last - 1) 4) : (⟨r.last, zp r (n - r.last - 1) k⟩ : RRing) = ringTo r (n - 1) := by
  unfold zp
  split
  · exact to_far r (by omega)
  · rw [hk, Nat.min_eq_left (by omega)]; exact zap_to h hl (by omega)
theorem putP_6 {r : RRing} {n : Nat} (h : n < r.last) : ringPut r n = ring0 ∧ ringPE r n = 6 := by
  have e : ringPE r n = 6 := if_pos h
  exact ⟨by rw [ringPut, e]; rfl, e⟩
theorem putP_11 {r : RRing} {n : Nat} (h : n = r.last) (k : 3 ≤ r.cn (n % 4)) : ringPut r n = ring0 ∧ ringPE r n = 11 := by
  have e : ringPE r n = 11 := by rw [ringPE, if_neg (by omega), if_pos ⟨h, k⟩]
  exact ⟨by rw [ringPut, e]; rfl, e⟩
theorem putP_same {r : RRing} (hr : r.Ok) {n : Nat} (h : n = r.last) (k : ¬ 3 ≤ r.cn (n % 4)) : ringPut r n = (⟨r.last, r.counts.set (n % 4) (r.counts.getD (n % 4) 0 + 1)⟩ : RRing) ∧ ringPE r n = 0 := by
  subst h
  have e : ringPE r r.last = 0 := by rw [ringPE, if_neg (by omega), if_neg (fun q => k q.2)]
  exact ⟨by rw [ringPut, e, put_same hr]; rfl, e⟩
theorem putP_later {r : RRing} {n : Nat} (h : r.last < n) : ringPut r n = (⟨n, ((ringTo r (n - 1)).counts.set (n % 4) 0).set (n % 4) (((ringTo r (n - 1)).counts.set (n % 4) 0).getD (n % 4) 0 + 1)⟩ : RRing) ∧ ringPE r n = 0 := by
  have e : ringPE r n = 0 := by rw [ringPE, if_neg (by omega), if_neg (by omega)]
  exact ⟨by rw [ringPut, e, put_later h]; rfl, e⟩
theorem putP_ok {r : RRing} {n : Nat} (h : r.last ≤ n) (k : n = r.last → ¬ 3 ≤ r.cn (n % 4)) : ringPut r n = ringAdd r n ∧ ringPE r n = 0 := by
  have e : ringPE r n = 0 := by rw [ringPE, if_neg (by omega), if_neg (fun q => k q.1 q.2)]
  exact ⟨by rw [ringPut, e]; rfl, e⟩
theorem inc_zero {l : List Nat} (h : l.length = 4) {p : Nat} (hp : p < 4) : (l.set p 0).getD p 0 = 0 := by rw [getD_set0 _ _ _ (by omega), if_pos rfl]
theorem rel_min {x : RWin} {s : Nat} (h : s < 12 ∨ ¬ ringBE x.ring (s / 3) = 0) : winRel x s = x.min := by
  unfold winRel
  rw [if_pos]
  rcases h with h | h
  · exact .inl h
  · right
    unfold ringBE at h
    split at h
    · assumption
    · exact absurd rfl h
theorem rel_least {x : RWin} {s : Nat} (h : ¬ s < 12) (k : ringBE x.ring (s / 3) = 0) : winRel x s = min x.min (ringBef x.ring (s / 3)) := by
  unfold winRel
  rw [if_neg]
  rintro (q | q)
  · exact h q
  · unfold ringBE at k
    rw [if_pos q] at k
    exact absurd k (by decide)
theorem winPut_yes {x : RWin} {s : Nat} (h : ringPE x.ring (s / 3) = 0) : winPut x s = ⟨winRel x s, ringPut x.ring (s / 3)⟩ := by rw [winPut, if_pos h, ringPut, if_pos h]
theorem winPut_no {x : RWin} {s : Nat} (h : ¬ ringPE x.ring (s / 3) = 0) : winPut x s = win0 := if_neg h
theorem ringBE_no {r : RRing} {n : Nat} (h : r.last < n) : ringBE r n = 0 := if_neg (by omega)
theorem bef_few {r : RRing} (h : r.Right) : r.counts.getD 0 0 + r.counts.getD 1 0 + r.counts.getD 2 0 + r.counts.getD 3 0 < 4294967295 := h.few
theorem at_last {r : RRing} {n : Nat} (h : n = r.last) : atR r ((n : Nat) : Int) = r.cn (n % 4) := by
  have := at_of r (n := n) (j := n % 4) (Nat.mod_lt _ (by decide)) (by omega)
  rw [kp, if_pos (by omega)] at this
  rw [← this]
  congr 1
  unfold ofZ
  omega
theorem rrel_eq {x : RWin} {s : Nat} (h : ¬ s < 12) (k : ¬ s / 3 ≤ x.ring.last) (q : ringBef x.ring (s / 3) < x.min) : winRel x s = ringBef x.ring (s / 3) := by
  unfold winRel
  rw [if_neg (by omega)]; omega
theorem rrel_min {x : RWin} {s : Nat} (h : s < 12 ∨ s / 3 ≤ x.ring.last ∨ ¬ ringBef x.ring (s / 3) < x.min) : winRel x s = x.min := by
  unfold winRel
  split
  · rfl
  · omega
theorem getD4_le {a b c d m : Nat} (ha : a ≤ m) (hb : b ≤ m) (hc : c ≤ m) (hd : d ≤ m) (p : Nat) : [a, b, c, d].getD p 0 ≤ m := by
  match p with
  | 0 => exact ha
  | 1 => exact hb
  | 2 => exact hc
  | 3 => exact hd
  | n + 4 => exact Nat.zero_le _
end Go.Alm
