/-
  Small plain lemmas: bounds of kinds, wraps, remainders.
-/
import Derived.WalkKit
import Derived.OpenShut
namespace Go.Proofs.Ytificcmcddcijaa
open Go Go.RowKit

theorem wrap64_id (n : Int) (h : -9223372036854775808 ≤ n ∧ n ≤ 9223372036854775807) : wrap64 n = n := by unfold wrap64; omega
theorem wrap64_nat (n : Nat) (h : n ≤ 9223372036854775807) : wrap64 (n : Int) = n := wrap64_id _ (by omega)
theorem tmod_nat (a b : Nat) : Int.tmod (a : Int) (b : Int) = ((a % b : Nat) : Int) := by
  rw [Int.tmod_eq_emod_of_nonneg (by omega)]; rfl
theorem tdiv_nat (a b : Nat) : Int.tdiv (a : Int) (b : Int) = ((a / b : Nat) : Int) := by
  rw [Int.tdiv_eq_ediv_of_nonneg (by omega)]; rfl
theorem nat_u8 {a : Int} (h : (Lit.int .u8 a).wf = true) : ∃ n : Nat, a = n ∧ n ≤ 255 := ⟨a.toNat, by have := bounds_u8 h; omega, by have := bounds_u8 h; omega⟩
theorem nat_u16 {a : Int} (h : (Lit.int .u16 a).wf = true) : ∃ n : Nat, a = n ∧ n ≤ 65535 := ⟨a.toNat, by have := bounds_u16 h; omega, by have := bounds_u16 h; omega⟩
end Go.Proofs.Ytificcmcddcijaa
