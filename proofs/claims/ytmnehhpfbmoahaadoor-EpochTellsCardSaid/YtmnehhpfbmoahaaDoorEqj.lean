/- What is compared: structs and arrays, by what they are told of. -/
import Derived.Test.YtmnehhpfbmoahaaDoorJar
import Derived.Test.YtmnehhpfbmoahaaDoorDeq
import Derived.Test.YtmnehhpfbmoahaaDoorMany
namespace Go.Alm
open Go Go.RowKit
theorem hv_size (l : List Nat) : (hv l).size = 32 := by simp [hv]
theorem hv_iff {a b : List Nat} (ha : a.length = 32) (hb : b.length = 32) : hv a = hv b ↔ a = b := by
  constructor
  · intro h
    have h := congrArg Array.toList h
    rw [hv_B ha, hv_B hb] at h
    exact map_inj' (fun x y e => by injection e with _ e; omega) h
  · rintro rfl; rfl
theorem aj_inj {a b c d : Array Value} (h : a.size = b.size) (e : aj a c = aj b d) : a = b ∧ c = d := by
  have e := congrArg Array.toList e
  simp only [Array.toList_append] at e
  obtain ⟨h1, h2⟩ := List.append_inj e (by simpa using h)
  exact ⟨Array.toList_inj.1 h1, Array.toList_inj.1 h2⟩
theorem lit1_inj {k : IntKind} {m n : Nat} (e : #[Value.int k (m : Int)] = #[Value.int k (n : Int)]) : m = n := by
  have e := congrArg Array.toList e
  simp at e; omega
section
variable {P : Program} {Q : Exit → Act → World → Prop} {L : List Iv} {s : St} {RO FZ OW : List Rc}
def eqT (s : St) : Nat := match eqlOf (cur s).op with | some (_, t, _, _) => t | none => 0
def eqX (s : St) : Operand := match eqlOf (cur s).op with | some (_, _, x, _) => x | none => .tmp 0
def eqY (s : St) : Operand := match eqlOf (cur s).op with | some (_, _, _, y) => y | none => .tmp 0
def eqOk (P : Program) (s : St) (b : Bool) (n : Nat) : Bool := (match eqlOf (cur s).op with | some (b', _, _, _) => b == b' | none => false) && P.keyTypeAt 8 (eqT s) && !P.eqGuardType P.depth (eqT s) && isAggT P (eqT s) && Nat.beq n (P.cellsOf (eqT s)) && onW s
theorem eqOk_spec {b : Bool} {n : Nat} (h : eqOk P s b n = true) : eqlOf (cur s).op = some (b, eqT s, eqX s, eqY s) ∧ P.keyTypeAt 8 (eqT s) = true ∧ P.eqGuardType P.depth (eqT s) = false ∧ isAggT P (eqT s) = true ∧ n = P.cellsOf (eqT s) ∧ onW s = true := by
  unfold eqOk at h
  simp only [Bool.and_eq_true, Bool.not_eq_true'] at h
  obtain ⟨⟨⟨⟨⟨h1, h2⟩, h3⟩, h4⟩, h5⟩, h6⟩ := h
  refine ⟨?_, h2, h3, h4, Nat.eq_of_beq_eq_true h5, h6⟩
  unfold eqT eqX eqY
  cases hl : eqlOf (cur s).op with
  | none => rw [hl] at h1; cases h1
  | some x =>
    obtain ⟨b', t, x, y⟩ := x
    rw [hl] at h1
    simp only [beq_iff_eq] at h1
    subst h1; rfl
/-- Two are compared: two ways. -/
theorem m_eqs (n : Nat) (b : Bool) (cs ds : Array Value) (p : Prop) (hp : cs = ds ↔ p) (w1 : WfA cs) (w2 : WfA ds) (k1 : p → J P Q L (nx (go P n s) (.bool b)) RO FZ OW) (k2 : ¬ p → J P Q L (nx (go P n s) (.bool (!b))) RO FZ OW)
    (hc : eqOk P (go P n s) b cs.size = true := by kernel_rfl) (hz : Nat.beq cs.size ds.size = true := by kernel_rfl) (hx : (go P n s).a.eval (eqX (go P n s)) = .agg cs := by kernel_rfl) (hy : (go P n s).a.eval (eqY (go P n s)) = .agg ds := by kernel_rfl)
    (l1 : (leaves P 8 (eqT (go P n s))).map (·.map some) = some (cs.toList.map kindV) := by kernel_rfl) (l2 : (leaves P 8 (eqT (go P n s))).map (·.map some) = some (ds.toList.map kindV) := by kernel_rfl) : J P Q L s RO FZ OW := by
  obtain ⟨ho, hk, hg, hs, hn, hon⟩ := eqOk_spec hc
  have hm : ds.size = P.cellsOf (eqT (go P n s)) := by rw [← hn]; exact (Nat.eq_of_beq_eq_true hz).symm
  by_cases h : p
  · have e : cs = ds := hp.2 h
    subst e
    exact m_p n _ (fun w => run_eqd_self b 9992 8 _ _ _ cs rfl ho hk hg hs hx hy hn l1 w1) (k1 h) hon
  · exact m_p n _ (fun w => run_eqd_ne b 9992 8 _ _ _ cs ds rfl ho hk hg hs hx hy hn hm l1 l2 w1 w2 fun e => h (hp.1 e)) (k2 h) hon
theorem m_eqT (n : Nat) (b : Bool) (cs : Array Value) (w1 : WfA cs) (k : J P Q L (nx (go P n s) (.bool b)) RO FZ OW)
    (hc : eqOk P (go P n s) b cs.size = true := by kernel_rfl) (hx : (go P n s).a.eval (eqX (go P n s)) = .agg cs := by kernel_rfl) (hy : (go P n s).a.eval (eqY (go P n s)) = .agg cs := by kernel_rfl)
    (l1 : (leaves P 8 (eqT (go P n s))).map (·.map some) = some (cs.toList.map kindV) := by kernel_rfl) : J P Q L s RO FZ OW := by
  obtain ⟨ho, hk, hg, hs, hn, hon⟩ := eqOk_spec hc
  exact m_p n _ (fun w => run_eqd_self b 9992 8 _ _ _ cs rfl ho hk hg hs hx hy hn l1 w1) k hon
end
def hlit (n : Nat) : List Nat := n :: List.replicate 31 0
theorem hlit_ok {n : Nat} (h : n < 256) : H32 (hlit n) := ⟨rfl, fun x hx => by
  rcases List.mem_cons.1 hx with rfl | hx
  · exact h
  · have := List.eq_of_mem_replicate hx; omega⟩
theorem hlit_len (n : Nat) : (hlit n).length = 32 := rfl
end Go.Alm
