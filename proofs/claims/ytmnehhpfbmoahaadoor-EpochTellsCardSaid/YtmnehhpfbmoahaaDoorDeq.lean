/- Structs compared: the answer is a proposition's. -/
import Derived.Test.YtmnehhpfbmoahaaDoorDeep
namespace Go.Alm
open Go Go.RowKit
section
variable {P : Program} {a : Act} {w : World} {o : Oper}
theorem run_eqd_dec (b : Bool) (e d t : Nat) (x y : Operand) (cs ds : Array Value) (p : Prop) [Decidable p] (hed : e + d = 10000) (ho : eqlOf o.op = some (b, t, x, y)) (hk : P.keyTypeAt d t = true) (hg : P.eqGuardType P.depth t = false) (hs : isAggT P t = true)
    (hx : a.eval x = .agg cs) (hy : a.eval y = .agg ds) (hn : cs.size = P.cellsOf t) (hm : ds.size = P.cellsOf t) (k1 : (leaves P d t).map (·.map some) = some (cs.toList.map kindV)) (k2 : (leaves P d t).map (·.map some) = some (ds.toList.map kindV)) (w1 : WfA cs) (w2 : WfA ds) (hp : cs = ds ↔ p) :
    (execOp a.eval o).run P w = .ok (.value (.bool (cond b (decide p) (!(decide p))))) w := by
  by_cases h : p
  · have e1 : cs = ds := hp.2 h
    subst e1
    rw [decide_eq_true h, run_eqd_self b e d t x y cs hed ho hk hg hs hx hy hn k1 w1]
    cases b <;> rfl
  · rw [decide_eq_false h, run_eqd_ne b e d t x y cs ds hed ho hk hg hs hx hy hn hm k1 k2 w1 w2 (fun e1 => h (hp.1 e1))]
    cases b <;> rfl
end
end Go.Alm
