/- sparing.Encode's contract in the printed shape. -/
import Derived.Test.YtdepicgdbealpaaGreatDoorRefE
namespace Go.Proofs.YtdepicgdbealpaaGreatDoor.Enc
set_option linter.unusedVariables false
open Go.RowKit Go.Lib Go.Proofs.YtdepicgdbealpaaGreatDoorW.PrintWords Go.Proofs.YtdepicgdbealpaaGreatDoorW.PrintLast Go.Proofs.YtdepicgdbealpaaGreatDoorW.PrintMore
open Go.Proofs.YtdepicgdbealpaaGreatDoor Go.Proofs.YtdepicgdbealpaaGreatDoor.V Go.Proofs.YtdepicgdbealpaaGreatDoor.Spare

/-- What Encode returns. -/
def encG (s : Int) (l : List S54) (loc : Int) : ByteArray × Int := encF s l loc (blockB 0 1 loc (bodyF s l), 0)
theorem body_small (s : Int) (l : List S54) (hv : validB s l = true) : (bodyF s l).size ≤ 2032 := by
 have h8 := ((validB_iff s l).1 hv).2.1
 have h1 := entries_size l (headF s l)
 have h2 := head_size s l
 unfold bodyF
 omega
def Encode.f (a0_0 : Int) (l0_1 : List S54) (a1 : Int) : Option (ByteArray × Int) := some (encG a0_0 l0_1 a1)
theorem Encode.calls (a0_0 : Int) (A0_1 : Option Addr) (c0_1 : Nat) (l0_1 : List S54) (a1 : Int) (r1 : ByteArray) (r2 : Int) (w : World) (hr0_1 : Kd.C k54 w A0_1 l0_1.length l0_1) (hc0_1 : l0_1.length ≤ c0_1) (h : Encode.f a0_0 l0_1 a1 = some (r1, r2)) :
  Calls Tryz.prog 7 #[.agg #[.int .i64 a0_0, .slice A0_1 l0_1.length c0_1], .int .i64 a1] w fun e w' => e = .returned (.tuple #[.string r1, .int .i64 r2]) ∧ Below w.heap.size w w' := by
 have := encode_calls a0_0 A0_1 c0_1 l0_1 a1 20 (blockB 0 1 a1 (bodyF a0_0 l0_1), 0) (fun hv hw => block_prog 0 1 a1 _ ⟨by omega, by omega, (word_iff a1).1 hw⟩ (body_small _ _ hv) 20 (by omega)) w hr0_1 hc0_1
 rw [show encF a0_0 l0_1 a1 (blockB 0 1 a1 (bodyF a0_0 l0_1), 0) = (r1, r2) from Option.some.inj h] at this
 exact this
end Go.Proofs.YtdepicgdbealpaaGreatDoor.Enc
