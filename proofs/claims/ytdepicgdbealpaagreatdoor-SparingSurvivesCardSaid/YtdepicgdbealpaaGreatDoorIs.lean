/- udftag.Is. -/
import Derived.Test.YtdepicgdbealpaaGreatDoorFaults
namespace Go.Proofs.YtdepicgdbealpaaGreatDoor.Enc
set_option linter.unusedVariables false
set_option linter.unusedSimpArgs false
open Go.RowKit Go.Lib Go.Proofs.YtdepicgdbealpaaGreatDoorW.PrintWords Go.Proofs.YtdepicgdbealpaaGreatDoorW.PrintLast Go.Proofs.YtdepicgdbealpaaGreatDoorW.PrintMore
open Go.Proofs.YtdepicgdbealpaaGreatDoor Go.Proofs.YtdepicgdbealpaaGreatDoor.V Go.Proofs.YtdepicgdbealpaaGreatDoor.Spare

def isF (s : ByteArray) (id loc : Int) : Bool := (decide ((faultsF s loc).length = 0)) && (((rdN s 0 2 : Nat) : Int) == id)

set_option maxHeartbeats 4000000 in
set_option maxRecDepth 100000 in
theorem is_calls (s : ByteArray) (id loc : Int) (w : World) (h16 : 16 ≤ s.size) (hz : s.size ≤ 1000000) :
  Calls Tryz.prog 23 #[.string s, .int .i64 id, .int .i64 loc] w fun e w' => e = .returned (.bool (isF s id loc)) ∧ Below w.heap.size w w' := by
 have hu83 := Tryz.underlying83
 have hu37 := Tryz.underlying37
 have HF := fun W => faults_calls s loc W h16 hz
 have HV := fun W => U.udftag_values.calls s _ _ _ _ W (values_f s h16 hz)
 unfold isF
 generalize faultsF s loc = fl at HF ⊢
 generalize ((rdN s 0 2 : Nat) : Int) = n0 at HV ⊢
 by_cases hl : fl.length = 0
 ·have hle : (((fl.length : Nat) : Int) == 0) = true := by rw [hl]; rfl
  rw [decide_eq_true hl, Bool.true_and]
  generalize rdN s 6 2 = n1 at HV
  generalize rdN s 10 2 = n2 at HV
  generalize rdN s 12 4 = n3 at HV
  have hfd : ∀ w : World, (Instr.field 83 (.agg #[.int .i64 n0, .int .i64 (n1 : Int), .int .i64 (n2 : Int), .int .i64 (n3 : Int)]) 0).run Tryz.prog w = .ok (.int .i64 n0) w := fun _ => by kernel_rfl
  go_enter Tryz.func23, Tryz.ntmps23
  go_wp2_with (first | (go_at_call 40; refine (HF _).mono ?_; rintro e w1 ⟨v, rfl, hR, hb1⟩; obtain ⟨A, c, rfl⟩ := Kd.R_slice hR) | (go_at_call 41; refine (HV _).mono ?_; rintro e w2 ⟨rfl, hb2⟩))
  go_ret
  exact ⟨rfl, below_step hb1 hb2⟩
 ·have hle : (((fl.length : Nat) : Int) == 0) = false := beq_eq_false_iff_ne.2 (by omega)
  rw [decide_eq_false hl, Bool.false_and]
  go_enter Tryz.func23, Tryz.ntmps23
  go_wp2_with (first | (go_at_call 40; refine (HF _).mono ?_; rintro e w1 ⟨v, rfl, hR, hb1⟩; obtain ⟨A, c, rfl⟩ := Kd.R_slice hR))
  go_ret
  exact ⟨rfl, hb1⟩

end Go.Proofs.YtdepicgdbealpaaGreatDoor.Enc
