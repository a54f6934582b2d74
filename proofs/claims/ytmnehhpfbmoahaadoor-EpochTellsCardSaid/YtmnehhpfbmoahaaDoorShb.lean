/- Digests that are known; digests that are compared. -/
import Derived.Test.YtmnehhpfbmoahaaDoorArr
import Derived.KernelRfl
namespace Go.Alm
open Go Go.RowKit
section
variable {P : Program} {a : Act} {w : World} {o : Oper}
theorem run_neq_hash_self (t : TypeId) (x y : Operand) (l : List Nat) (ho : eqlOf o.op = some (false, t, x, y)) (ht : arrInt P t = some (32, .u8)) (hk : P.keyTypeAt 2 t = true) (hg : P.eqGuardType P.depth t = false)
    (hx : a.eval x = .agg (hv l)) (hy : a.eval y = .agg (hv l)) (hl : l.length = 32) (hb : Byt l) : (execOp a.eval o).run P w = .ok (.value (.bool false)) w := by
  have h := run_eq_hash (w := w) false t x y l l ho ht hk hg hx hy hl hl hb hb
  simpa using h
end
theorem sha_e0 : (shaL []).getD 0 0 = 227 := by kernel_rfl
theorem sha_e31 : (shaL []).getD 31 0 = 85 := by kernel_rfl
theorem sha_a0 : (shaL [97, 98, 99]).getD 0 0 = 186 := by kernel_rfl
theorem sha_a1 : (shaL [97, 98, 99]).getD 1 0 = 120 := by kernel_rfl
theorem sha_a31 : (shaL [97, 98, 99]).getD 31 0 = 173 := by kernel_rfl
end Go.Alm
