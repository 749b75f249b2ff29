/- Proved here: the plain statement to which the law ScramblerPeriods comes, for all arguments of their types. -/
import Derived.Test.YtificcmcddcijaaHy1
import Derived.Test.YtificcmcddcijaaPeriod
import Derived.Test.YtificcmcddcijaaPlain
namespace Go.Proofs.Ytificcmcddcijaa.Pure
open Go.RowKit Go.Proofs.Ytificcmcddcijaa.Hy Go.Proofs.YtificcmcddcijaaW.PrintWords Go.Proofs.YtificcmcddcijaaW.PrintLast

theorem awake_true : masterdisclaw05_awake.f = some true := by decide +kernel

theorem register_ok (n : Nat) (h : n ≤ 1048576) : Ext.scrambler_Register.f (n : Int) = some ((rg n : Int), 0) := by
  unfold Ext.scrambler_Register.f
  rw [if_neg (by omega), Int.toNat_natCast]

theorem ScramblerPeriods : masterdisclaw05_ScramblerPeriods.Pure := by
  intro a0 a1 a2 h0 h1 h2
  obtain ⟨n0, rfl, b0⟩ := nat_u16 h0
  obtain ⟨n1, rfl, b1⟩ := nat_u16 h1
  obtain ⟨n2, rfl, b2⟩ := nat_u8 h2
  unfold masterdisclaw05_ScramblerPeriods.f
  rw [awake_true, Option.bind_some, if_pos rfl]
  rw [wrap64_id (n0 : Int) (by omega), wrap64_id (n1 : Int) (by omega), wrap64_id (n2 : Int) (by omega)]
  rw [show (32767 : Int) = ((32767 : Nat) : Int) from rfl, show (30 : Int) = ((30 : Nat) : Int) from rfl, tmod_nat, tmod_nat, tmod_nat]
  rw [wrap64_id (((32767 : Nat) : Int) * ((n2 % 30 : Nat) : Int)) (by have : n2 % 30 < 30 := Nat.mod_lt _ (by decide); omega)]
  rw [show ((n0 % 32767 : Nat) : Int) + ((32767 : Nat) : Int) * ((n2 % 30 : Nat) : Int) = ((n0 % 32767 + 32767 * (n2 % 30) : Nat) : Int) by rw [Int.natCast_add, Int.natCast_mul]]
  have m0 : n0 % 32767 < 32767 := Nat.mod_lt _ (by decide)
  have m1 : n1 % 32767 < 32767 := Nat.mod_lt _ (by decide)
  have m2 : n2 % 30 < 30 := Nat.mod_lt _ (by decide)
  rw [wrap64_id _ (by omega), register_ok _ (by omega), register_ok _ (by omega), register_ok _ (by omega)]
  rw [Option.bind_some, Option.bind_some, Option.bind_some, if_pos rfl, if_pos rfl, if_pos rfl, rg_periods, if_pos rfl]
  by_cases h : n0 % 32767 = n1 % 32767
  · rw [h]; simp
  · have h' : ¬ rg (n0 % 32767) = rg (n1 % 32767) := fun e => h (rg_inj m0 m1 e)
    have e1 : (((rg (n0 % 32767) : Nat) : Int) == ((rg (n1 % 32767) : Nat) : Int)) = false := by rw [beq_eq_false_iff_ne]; omega
    have e2 : (((n0 % 32767 : Nat) : Int) == ((n1 % 32767 : Nat) : Int)) = false := by
      rw [beq_eq_false_iff_ne]; omega
    rw [e1, e2]; rfl
end Go.Proofs.Ytificcmcddcijaa.Pure
