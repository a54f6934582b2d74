/- Records out of a row's reading: a struct's parts, one behind the other. -/
import Derived.Test.YtmnehhpfbmoahaaDoorReadT
import Derived.Test.YtmnehhpfbmoahaaDoorEpj
import Derived.Test.YtmnehhpfbmoahaaDoorEpoH
import Derived.Test.YtmnehhpfbmoahaaDoorJar
namespace Go.Alm
open Go Go.RowKit Go.ChangeShapes Go.WideShapes Go.ChangeAt
def consec (P : Program) : Nat → List (Nat × Nat) → Bool
  | _, [] => true
  | o, (t, off) :: l => Nat.beq off o && consec P (o + P.cellsOf t) l
def tot (P : Program) : Nat → List (Nat × Nat) → Nat
  | o, [] => o
  | o, (t, _) :: l => tot P (o + P.cellsOf t) l
section
variable {H : Type} {enc : TypeId × Value → H} {P : Program} {w : World} {base : Nat} {sp : Nat → Bool} {held : Bool} {fuel t e : Nat} {cs : List Value} {x : DataW H × List MemPlace}
inductive PartsT (enc : TypeId × Value → H) (P : Program) (w : World) (base : Nat) (sp : Nat → Bool) (held : Bool) : List (Nat × Nat) → List Value → Prop
  | nil : PartsT enc P w base sp held [] []
  | cons {n t o : Nat} {c : List Value} {z : DataW H × List MemPlace} {l : List (Nat × Nat)} {cs : List Value} (h : DataW.trod enc P w base sp held n t c = some z) (r : PartsT enc P w base sp held l cs) : PartsT enc P w base sp held ((t, o) :: l) (c ++ cs)
theorem PartsT.inv {t o : Nat} {l : List (Nat × Nat)} (h : PartsT enc P w base sp held ((t, o) :: l) cs) : ∃ n c z cs', DataW.trod enc P w base sp held n t c = some z ∧ PartsT enc P w base sp held l cs' ∧ cs = c ++ cs' := by
  cases h with
  | cons h r => exact ⟨_, _, _, _, h, r, rfl⟩
theorem PartsT.end (h : PartsT enc P w base sp held [] cs) : cs = [] := by cases h; rfl
theorem parts_of_trod {fs : Array Field} {L : List (Nat × Nat)} (he : P.underlying e = some (.struct fs)) (hfs : fs.toList.map (fun f => (f.type, f.offset)) = L) (hL : consec P 0 L = true) (hz : Nat.beq (P.cellsOf e) (tot P 0 L) = true)
    (h : DataW.trod enc P w base sp held fuel e cs = some x) : PartsT enc P w base sp held L cs := by
  obtain ⟨xs, n, _, _, hlen, hxl, hget⟩ := DataW.trod_struct he h
  rw [Nat.eq_of_beq_eq_true hz] at hlen
  have hsz : fs.size = L.length := by have := congrArg List.length hfs; simpa using this
  have get : ∀ (i a b : Nat), L[i]? = some (a, b) → ∃ z, DataW.trod enc P w base sp held n a ((cs.drop b).take (P.cellsOf a)) = some z := fun i a b hi => by
    obtain ⟨f, hf, rfl, rfl⟩ := field_of hfs i hi
    have h1 := hget i f hf
    have hs : i < xs.length := by
      have := (List.getElem?_eq_some_iff.1 hi).1
      omega
    exact ⟨xs[i], by rw [h1]; simp [hs]⟩
  have key : ∀ (M : List (Nat × Nat)) (o k : Nat), L.drop k = M → consec P o M = true → cs.length = tot P o M → PartsT enc P w base sp held M (cs.drop o) := by
    intro M
    induction M with
    | nil => intro o k _ _ hl; rw [List.drop_of_length_le (by rw [hl]; exact Nat.le_refl _)]; exact .nil
    | cons y M ih =>
      obtain ⟨a, b⟩ := y
      intro o k hk hc hl
      simp only [consec, Bool.and_eq_true] at hc
      have hb := Nat.eq_of_beq_eq_true hc.1
      subst hb
      have hi : L[k]? = some (a, b) := by
        have : (L.drop k)[0]? = some (a, b) := by rw [hk]; rfl
        simpa using this
      obtain ⟨z, hz⟩ := get k a b hi
      have := ih (b + P.cellsOf a) (k + 1) (by rw [← List.drop_drop, hk]; rfl) hc.2 hl
      have e : cs.drop b = (cs.drop b).take (P.cellsOf a) ++ cs.drop (b + P.cellsOf a) := by
        rw [← List.drop_drop, List.take_append_drop]
      rw [e]
      exact .cons hz this
  simpa using key L 0 0 rfl hL hlen
structure IsI (P : Program) (k : IntKind) (t : Nat) : Prop where
  u : P.underlying t = some (.int k)
structure IsH (P : Program) (t e : Nat) : Prop where
  u : P.underlying t = some (.array 32 e)
  u8 : P.underlying e = some (.int .u8)
  z : P.cellsOf e = 1
  s : P.cellsOf t = 32
theorem hash_of (h : IsH P t e) (ht : DataW.trod enc P w base sp held fuel t cs = some x) : ∃ l, H32 l ∧ cs = (hv l).toList := by
  obtain ⟨l, hl, rfl, hB⟩ := ints_of_trod h.u h.u8 h.z h.s ht
  exact ⟨l, ⟨hl, hB⟩, (hv_B hl).symm⟩
theorem u32_of (h : IsI P .u32 t) (ht : DataW.trod enc P w base sp held fuel t cs = some x) : ∃ n : Nat, n < 4294967296 ∧ cs = [.int .u32 (n : Int)] := by
  obtain ⟨m, rfl, _, hw⟩ := DataW.trod_int h.u ht
  simp only [Lit.wf, Bool.and_eq_true, decide_eq_true_eq] at hw
  have c1 : IntKind.u32.min = 0 := by decide
  have c2 : IntKind.u32.max = 4294967295 := by decide
  exact ⟨m.toNat, by omega, by rw [show ((m.toNat : Nat) : Int) = m from Int.toNat_of_nonneg (by omega)]⟩
theorem u64_of (h : IsI P .u64 t) (ht : DataW.trod enc P w base sp held fuel t cs = some x) : ∃ n : Nat, n < 18446744073709551616 ∧ cs = [.int .u64 (n : Int)] := by
  obtain ⟨m, rfl, _, hw⟩ := DataW.trod_int h.u ht
  simp only [Lit.wf, Bool.and_eq_true, decide_eq_true_eq] at hw
  have c1 : IntKind.u64.min = 0 := by decide
  have c2 : IntKind.u64.max = 18446744073709551615 := by decide
  exact ⟨m.toNat, by omega, by rw [show ((m.toNat : Nat) : Int) = m from Int.toNat_of_nonneg (by omega)]⟩
theorem i64_of (h : IsI P .i64 t) (ht : DataW.trod enc P w base sp held fuel t cs = some x) : ∃ n : Int, (-9223372036854775808 ≤ n ∧ n ≤ 9223372036854775807) ∧ cs = [.int .i64 n] := by
  obtain ⟨m, rfl, _, hw⟩ := DataW.trod_int h.u ht
  simp only [Lit.wf, Bool.and_eq_true, decide_eq_true_eq] at hw
  have c1 : IntKind.i64.min = -9223372036854775808 := by decide
  have c2 : IntKind.i64.max = 9223372036854775807 := by decide
  exact ⟨m, by omega, rfl⟩
/-- A struct whose fields are these. -/
structure IsS (P : Program) (t : Nat) (L : List (Nat × Nat)) : Prop where
  u : P.underlying t = some (.struct (P.fieldsOf t))
  f : (P.fieldsOf t).toList.map (fun f => (f.type, f.offset)) = L
  c : consec P 0 L = true
  z : Nat.beq (P.cellsOf t) (tot P 0 L) = true
theorem parts_of {L : List (Nat × Nat)} (h : IsS P t L) (ht : DataW.trod enc P w base sp held fuel t cs = some x) : PartsT enc P w base sp held L cs := by
  obtain ⟨h1, h2, h3, h4⟩ := h
  exact parts_of_trod h1 h2 h3 h4 ht
theorem aj_toList (a b : Array Value) : (aj a b).toList = a.toList ++ b.toList := Array.toList_append
/-! ### layer 8 -/
structure IsData (P : Program) (t th e tn : Nat) : Prop where
  s : IsS P t [(th, 0), (th, 32), (th, 64), (th, 96), (tn, 128)]
  h : IsH P th e
  n : IsI P .u32 tn
theorem data_of {th tn : Nat} (k : IsData P t th e tn) (ht : DataW.trod enc P w base sp held fuel t cs = some x) : ∃ y : EData, y.Ok ∧ cs = y.cells.toList := by
  obtain ⟨_, _, _, _, h1, r1, rfl⟩ := (parts_of k.s ht).inv
  obtain ⟨_, _, _, _, h2, r2, rfl⟩ := r1.inv
  obtain ⟨_, _, _, _, h3, r3, rfl⟩ := r2.inv
  obtain ⟨_, _, _, _, h4, r4, rfl⟩ := r3.inv
  obtain ⟨_, _, _, _, h5, r5, rfl⟩ := r4.inv
  obtain rfl := r5.end
  obtain ⟨a, ha, rfl⟩ := hash_of k.h h1
  obtain ⟨b, hb, rfl⟩ := hash_of k.h h2
  obtain ⟨c, hc, rfl⟩ := hash_of k.h h3
  obtain ⟨d, hd, rfl⟩ := hash_of k.h h4
  obtain ⟨n, hn, rfl⟩ := u32_of k.n h5
  exact ⟨⟨a, b, c, d, n⟩, ⟨ha, hb, hc, hd, hn⟩, by unfold EData.cells; simp only [aj_toList, List.append_assoc, List.append_nil]⟩
structure IsPair (P : Program) (t td th e tn : Nat) : Prop where
  s : IsS P t [(td, 0), (td, 129)]
  d : IsData P td th e tn
theorem pair_of {td th tn : Nat} (k : IsPair P t td th e tn) (ht : DataW.trod enc P w base sp held fuel t cs = some x) : ∃ y : EPair, y.Ok ∧ cs = y.cells.toList := by
  obtain ⟨_, _, _, _, h1, r1, rfl⟩ := (parts_of k.s ht).inv
  obtain ⟨_, _, _, _, h2, r2, rfl⟩ := r1.inv
  obtain rfl := r2.end
  obtain ⟨a, ha, ea⟩ := data_of k.d h1
  obtain ⟨b, hb, eb⟩ := data_of k.d h2
  exact ⟨⟨a, b⟩, ⟨ha, hb⟩, by rw [ea, eb, List.append_nil]; exact (aj_toList _ _).symm⟩
structure IsBlk (P : Program) (t th e tn : Nat) : Prop where
  s : IsS P t [(tn, 0), (tn, 1), (th, 2), (th, 34), (th, 66)]
  h : IsH P th e
  n : IsI P .u32 tn
theorem blk_of {th tn : Nat} (k : IsBlk P t th e tn) (ht : DataW.trod enc P w base sp held fuel t cs = some x) : ∃ y : EBlk, y.Ok ∧ cs = y.cells.toList := by
  obtain ⟨_, _, _, _, h1, r1, rfl⟩ := (parts_of k.s ht).inv
  obtain ⟨_, _, _, _, h2, r2, rfl⟩ := r1.inv
  obtain ⟨_, _, _, _, h3, r3, rfl⟩ := r2.inv
  obtain ⟨_, _, _, _, h4, r4, rfl⟩ := r3.inv
  obtain ⟨_, _, _, _, h5, r5, rfl⟩ := r4.inv
  obtain rfl := r5.end
  obtain ⟨a, ha, rfl⟩ := u32_of k.n h1
  obtain ⟨b, hb, rfl⟩ := u32_of k.n h2
  obtain ⟨c, hc, rfl⟩ := hash_of k.h h3
  obtain ⟨d, hd, rfl⟩ := hash_of k.h h4
  obtain ⟨n, hn, rfl⟩ := hash_of k.h h5
  exact ⟨⟨a, b, c, d, n⟩, ⟨ha, hb, hc, hd, hn⟩, by unfold EBlk.cells; simp only [aj_toList, List.append_assoc, List.append_nil]; rfl⟩
end
theorem okWide_array {P : Program} {w : World} {r : Reach} {base : Nat} {v : Value} {t n e : Nat} (ht : P.underlying t = some (.array n e)) (h : Value.okWide P w r base t v) : ∃ cs, v = .agg cs ∧ cs.size = P.cellsOf t := by
  simp only [Value.okWide, ht] at h
  obtain ⟨cs, h1, h2, _⟩ := h
  exact ⟨cs, h1, h2⟩
def sinceRe (w : World) : Re := ⟨Old w.heap.size, fun w' => Fr w w' N0, fun w' h k hk => Nat.lt_of_lt_of_le hk h.size, fun w1 w2 T h F d => ⟨F.os.trans h.os, F.tape.trans h.tape, F.output.trans h.output, Nat.le_trans h.size F.size, fun k hk _ => (F.block k (Nat.lt_of_lt_of_le hk h.size) (fun ht => d k hk ht)).trans (h.block k hk (fun h => h.elim))⟩⟩
theorem agg_eq {q c : Array Value} (h : (Value.agg q).cells.toList = c.toList) : q = c := Array.toList_inj.1 (by simpa [Value.cells] using h)
theorem bandI {a b : Bool} (h : a = true) (k : b = true) : (a && b) = true := by rw [h, k]; rfl
inductive RoA (w : World) : List Rc → Prop
  | nil : RoA w []
  | cons {r : Rc} {l : List Rc} (h : r.A w) (t : RoA w l) : RoA w (r :: l)
theorem RoA.out {w : World} {l : List Rc} (h : RoA w l) : ∀ r ∈ l, r.A w := by
  induction h with
  | nil => intro r h; cases h
  | cons h _ ih => intro r hr; rcases List.mem_cons.1 hr with rfl | hr; exact h; exact ih r hr
/-- A contract of the machine's, for a row: nothing old is touched. -/
theorem Does.row {P : Program} {f : Nat} {args : Array Value} {ro : List Rc} {v : Value} (h : Does P f args ro [] (fun v' H => v' = v ∧ H = [])) {w : World} (hA : ∀ r ∈ ro, r.A w) : Calls P f args w fun e w' => e = .returned v ∧ Fr w w' N0 := by
  have hs : Hs w (.gen (sinceRe w) :: ro) [] := ⟨fun r hr => by
    simp only [List.append_nil, List.mem_cons] at hr
    rcases hr with rfl | hr
    · exact Fr.refl _ _
    · exact hA r hr, fun _ _ o ho => (by cases ho), List.Pairwise.nil⟩
  refine (h _ w hs).mono ?_
  rintro e w' ⟨v', H, ⟨rfl, rfl⟩, rfl, hs'⟩
  exact ⟨rfl, hs'.a (.gen (sinceRe w)) (by simp)⟩
end Go.Alm
