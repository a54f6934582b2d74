/- Steps that make memory or write it; a function's beginning and end. -/
import Derived.Test.YtmnehhpfbmoahaaDoorCore
namespace Go.Alm
open Go Go.RowKit

/-- One new block, and what is yielded then. -/
def newVal {α : Type} (P : Program) (N : Nat) : Sem α → Option (Obj × α)
  | .new o k => (pureVal P (k N)).map fun x => (o, x)
  | .program k => newVal P N (k P)
  | .mark _ k => newVal P N k
  | _ => none

theorem newVal_run {α : Type} {P : Program} {o : Obj} {x : α} : ∀ {s : Sem α} (w : World), newVal P w.heap.size s = some (o, x) → s.run P w = .ok x (w.alloc o)
  | .new o' k, w, h => by
    simp only [newVal] at h
    cases hp : pureVal P (k w.heap.size) with
    | none => simp [hp] at h
    | some y =>
      simp only [hp, Option.map_some, Option.some.injEq, Prod.mk.injEq] at h
      obtain ⟨rfl, rfl⟩ := h
      simp only [Sem.run]
      exact pureVal_run hp _
  | .program k, w, h => by simp only [newVal] at h; simp only [Sem.run]; exact newVal_run w h
  | .mark m k, w, h => by simp only [newVal] at h; simp only [Sem.run]; exact newVal_run w h
  | .pure _, _, h | .load .., _, h | .store .., _, h | .shape .., _, h | .freeze .., _, h | .frozen .., _, h | .getObj .., _, h | .setObj .., _, h | .choose .., _, h | .sys .., _, h | .halt .., _, h => by simp [newVal] at h

def newStep (P : Program) (a : Act) (o : Oper) (N : Nat) : Option (Obj × Value) :=
  match newVal P N (execOp a.eval o) with
  | some (ob, .value v) => some (ob, v)
  | _ => none

/-- `c`, with `vs` from place `off` on. -/
def spl (c : Array Value) (off : Nat) (vs : Array Value) : Array Value := (c.toList.take off ++ vs.toList ++ c.toList.drop (off + vs.size)).toArray
theorem size_spl {c : Array Value} {off : Nat} {vs : Array Value} (h : off + vs.size ≤ c.size) : (spl c off vs).size = c.size := by
  simp [spl]; omega

section
variable {P : Program} {Q : Exit → Act → World → Prop} {a : Act} {w : World} {ops : Array Oper} {i : Nat} {R : Ending → World → Prop}

theorem op_new {op : Oper} {K : Act → World → Prop} (o : Obj) (v : Nat → Value) (h : ∀ N, newStep P a op N = some (o, v N))
    (k : ∀ w' b, w'.heap[b]? = some o → b = w.heap.size → Fr w w' N0 → K (a.put op.dst (v b)) w') : OpW P op a w K Q := by
  have hn := h w.heap.size
  unfold newStep at hn
  split at hn
  · rename_i ob u hs
    simp only [Option.some.injEq, Prod.mk.injEq] at hn
    obtain ⟨rfl, rfl⟩ := hn
    exact op_run _ _ (newVal_run w hs) (k _ _ (heap_alloc_new w ob) rfl (Fr.alloc1 w ob))
  · cases hn

theorem op_store {o : Oper} {K : Act → World → Prop} (t : Nat) (x y : Operand) (b off : Nat) (v : Value) (c : Array Value) (te : Nat) (c' : Array Value) (ho : storeOf o.op = some (t, x, y))
    (hx : a.eval x = .pointer (some ⟨b, off, none⟩)) (hy : a.eval y = v) (hb : w.heap[b]? = some (.cells c te (0, 0))) (hs : sizeT P t = some v.cells.size) (hle : Nat.ble (off + v.cells.size) c.size = true)
    (h1 : v.cells.toList.all (·.oneCell') = true) (hc' : spl c off v.cells = c')
    (k : ∀ w', w'.heap[b]? = some (.cells c' te (0, 0)) → w'.heap.size = w.heap.size → Fr w w' (One b) → K (a.put o.dst undef) w') : OpW P o a w K Q := by
  have hle' := Nat.le_of_ble_eq_true hle
  unfold storeOf at ho
  split at ho
  · rename_i t' x' y' hop
    simp only [Option.some.injEq, Prod.mk.injEq] at ho
    obtain ⟨rfl, rfl, rfl⟩ := ho
    have hsz : (sizeOf t').run P w = .ok v.cells.size w := run_sizeOf hs
    have hst := run_storeCells_at P b off te v.cells.toList 0 c w hb (by simpa using hle') (fun u hu => List.all_eq_true.1 h1 u hu)
    subst hc'
    refine op_run_skip (w.setRow b (spl c off v.cells)) ?_ (k _ (setRow_heap w b c _ te _ hb) (size_setRow _ _ _) ⟨rfl, rfl, rfl, by simp, fun j _ hj => setRow_other w b j _ hj⟩)
    unfold execOp
    simp only [hop, hx, hy, Instr.storeAt, Instr.sureAddr, storeVar, Sem.run_bind, Sem.run_pure, Result.andThen_ok, hsz, ne_eq, not_true_eq_false, if_false, hst, spl]
    simp
  · cases ho

/-- One cell. -/
theorem op_store1 {o : Oper} {K : Act → World → Prop} (t : Nat) (x y : Operand) (b off : Nat) (v : Value) (c : Array Value) (te : Nat) (c' : Array Value) (ho : storeOf o.op = some (t, x, y))
    (hx : a.eval x = .pointer (some ⟨b, off, none⟩)) (hy : a.eval y = v) (hv : v.cells = #[v]) (hv1 : v.oneCell' = true) (hb : w.heap[b]? = some (.cells c te (0, 0))) (hs : sizeT P t = some 1) (hle : Nat.ble (off + 1) c.size = true)
    (hc' : spl c off #[v] = c')
    (k : ∀ w', w'.heap[b]? = some (.cells c' te (0, 0)) → w'.heap.size = w.heap.size → Fr w w' (One b) → K (a.put o.dst undef) w') : OpW P o a w K Q := by
  refine op_store t x y b off v c te c' ho hx hy hb (by rw [hv]; exact hs) (by rw [hv]; exact hle) (by rw [hv]; simp [hv1]) (by rw [hv]; exact hc') k

theorem c_enter {f : Nat} {fn : Func} {args : Array Value} (a0 : Act) (hf : P.funcs[f]? = some fn) (hb : fn.body.isSome = true) (ha : Act.mk (args ++ Array.replicate (fn.ntmps - args.size) undef) [] = a0)
    (k : CW P f [] (bodyPost P fn R) a0 w) : Calls P f args w R := by
  subst ha
  cases hbo : fn.body with
  | none => simp [hbo] at hb
  | some c =>
    refine calls_of_wp hf hbo ?_
    have e : cAt P f [] = c := by simp [cAt, bodyOf, hf, hbo]
    have k := k.out
    rw [e] at k
    exact k

/-- What slot by slot is handed back. -/
theorem fin_ret {fn : Func} (v : Value) (hd : a.defers = []) (hr : pureVal P (results fn a.tmps) = some v) (k : R (.returned v) w) : bodyPost P fn R .ret a w :=
  ⟨hd, v, pureVal_run hr w, k⟩
theorem fin_end {fn : Func} (v : Value) (hd : a.defers = []) (hr : pureVal P (results fn a.tmps) = some v) (k : R (.returned v) w) : bodyPost P fn R .normal a w :=
  ⟨hd, v, pureVal_run hr w, k⟩
end
end Go.Alm
