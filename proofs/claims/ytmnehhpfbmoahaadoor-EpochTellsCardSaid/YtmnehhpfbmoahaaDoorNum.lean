/- Layers 1 and 5, plainly: numbers that fit; a slot's parts. -/
import Derived.Test.YtmnehhpfbmoahaaDoorMany
import Derived.Test.YtmnehhpfbmoahaaDoorDeq
namespace Go.Alm
open Go Go.RowKit
/-- A number in 32 bits, if it fits. -/
def nar (n : Nat) : Nat := if n < 4294967296 then n else 0
theorem nar_yes {n : Nat} (h : n < 4294967296) : nar n = n := if_pos h
theorem nar_no {n : Nat} (h : ¬ n < 4294967296) : nar n = 0 := if_neg h
theorem nar_lt (n : Nat) : nar n < 4294967296 := by unfold nar; split <;> omega
theorem shr32 {n : Nat} : Int.fdiv (n : Int) (2 ^ 32) = ((n / 4294967296 : Nat) : Int) := by
  have : (2 : Int) ^ 32 = ((4294967296 : Nat) : Int) := by decide
  rw [this, Int.fdiv_eq_ediv_of_nonneg _ (Int.natCast_nonneg _)]
  rfl
theorem wrap_mod32 (n : Nat) : IntKind.u32.wrap (n : Int) = ((n % 4294967296 : Nat) : Int) := by rw [wrap_u32]; omega
end Go.Alm
