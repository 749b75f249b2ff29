/- The contracts, as the printed texts call them. -/
import Derived.Test.YtdepicgdbealpaaSpareD
import Derived.Test.YtdepicgdbealpaaClosed
namespace Go.Proofs.Ytdepicgdbealpaa.Ext
open Go.RowKit Go.Proofs.YtdepicgdbealpaaW.PrintWords Go.Proofs.YtdepicgdbealpaaW.PrintLast Go.Proofs.YtdepicgdbealpaaW.PrintMore
open Go.Proofs.Ytdepicgdbealpaa.V (S42 z42 k42)
open Go.Proofs.Ytdepicgdbealpaa.Spare

def New.f (a0_0 a0_1 : Int) : Option (Int × List S42 × Int) := some (newF a0_0 a0_1)
theorem New.calls (a0_0 : Int) (a0_1 : Int) (r1 : Int) (r2 : List S42) (r3 : Int) (w : World) (h : New.f a0_0 a0_1 = some (r1, r2, r3)) :
    Calls Try.prog 6 #[.agg #[.int .i64 a0_0, .int .i64 a0_1]] w fun e w' => ∃ v1_ : Value, e = .returned (.tuple #[.agg #[.int .i64 r1, v1_], .int .i64 r3]) ∧ Kd.R k42 42 w' w.heap.size (fun _ => True) v1_ r2 ∧ Below w.heap.size w w' :=
  V.sparing_New.calls 20 a0_0 a0_1 r1 r2 r3 w ((new_is a0_0 a0_1).trans h)

def Replace.f (a0_0 : Int) (l0_1 : List S42) (a1 : Int) : Option (Int × List S42 × Int × Int) := some (replaceF a0_0 l0_1 a1)
theorem Replace.calls (a0_0 : Int) (A0_1 : Option Addr) (c0_1 : Nat) (l0_1 : List S42) (a1 : Int) (r1 : Int) (r2 : List S42) (r3 : Int) (r4 : Int) (w : World) (hr0_1 : Kd.C k42 w A0_1 l0_1.length l0_1) (hc0_1 : l0_1.length ≤ c0_1) (h : Replace.f a0_0 l0_1 a1 = some (r1, r2, r3, r4)) :
    Calls Try.prog 7 #[.agg #[.int .i64 a0_0, .slice A0_1 l0_1.length c0_1], .int .i64 a1] w fun e w' => ∃ v1_ : Value, e = .returned (.tuple #[.agg #[.int .i64 r1, v1_], .int .i64 r3, .int .i64 r4]) ∧ Kd.R k42 42 w' w.heap.size (fun _ => True) v1_ r2 ∧ Below w.heap.size w w' := by
  have := replace_calls a0_0 A0_1 c0_1 l0_1 a1 w hr0_1 hc0_1
  rw [show replaceF a0_0 l0_1 a1 = (r1, r2, r3, r4) from Option.some.inj h] at this
  exact this

def Valid.f (a0_0 : Int) (l0_1 : List S42) : Option Bool := some (validB a0_0 l0_1)
theorem Valid.calls (a0_0 : Int) (A0_1 : Option Addr) (c0_1 : Nat) (l0_1 : List S42) (r : Bool) (w : World) (hr0_1 : Kd.C k42 w A0_1 l0_1.length l0_1) (hc0_1 : l0_1.length ≤ c0_1) (h : Valid.f a0_0 l0_1 = some r) :
    Calls Try.prog 10 #[.agg #[.int .i64 a0_0, .slice A0_1 l0_1.length c0_1]] w fun e w' => e = .returned (.bool r) ∧ Below w.heap.size w w' := by
  rw [← Option.some.inj h]
  exact valid_calls a0_0 A0_1 c0_1 l0_1 w hr0_1 hc0_1

def Lookup.f (l0 : List S42) (a1_0 a1_1 a2 : Int) : Option (Int × Int) := some (lookF l0 a1_0 a1_1 a2)
theorem Lookup.calls (A0 : Option Addr) (c0 : Nat) (l0 : List S42) (a1_0 : Int) (a1_1 : Int) (a2 : Int) (r1 : Int) (r2 : Int) (w : World) (hr0 : Kd.C k42 w A0 l0.length l0) (hc0 : l0.length ≤ c0) (h : Lookup.f l0 a1_0 a1_1 a2 = some (r1, r2)) :
    Calls Try.prog 8 #[.slice A0 l0.length c0, .agg #[.int .i64 a1_0, .int .i64 a1_1], .int .i64 a2] w fun e w' => e = .returned (.tuple #[.int .i64 r1, .int .i64 r2]) ∧ Below w.heap.size w w' :=
  V.sparing_Lookup.calls _ A0 c0 l0 a1_0 a1_1 a2 r1 r2 w hr0 hc0 ((look_is l0 a1_0 a1_1 a2 hr0.2.1).trans h)

def Same.f (a0_0 : Int) (l0_1 : List S42) (a1_0 : Int) (l1_1 : List S42) : Option Bool := some (sameF a0_0 l0_1 a1_0 l1_1)
theorem Same.calls (a0_0 : Int) (A0_1 : Option Addr) (c0_1 : Nat) (l0_1 : List S42) (a1_0 : Int) (A1_1 : Option Addr) (c1_1 : Nat) (l1_1 : List S42) (r : Bool) (w : World) (hr0_1 : Kd.C k42 w A0_1 l0_1.length l0_1) (hc0_1 : l0_1.length ≤ c0_1) (hr1_1 : Kd.C k42 w A1_1 l1_1.length l1_1) (hc1_1 : l1_1.length ≤ c1_1) (h : Same.f a0_0 l0_1 a1_0 l1_1 = some r) :
    Calls Try.prog 12 #[.agg #[.int .i64 a0_0, .slice A0_1 l0_1.length c0_1], .agg #[.int .i64 a1_0, .slice A1_1 l1_1.length c1_1]] w fun e w' => e = .returned (.bool r) ∧ Below w.heap.size w w' :=
  V.masterdiscref39_Same.calls _ a0_0 A0_1 c0_1 l0_1 a1_0 A1_1 c1_1 l1_1 r w hr0_1 hc0_1 hr1_1 hc1_1 ((same_is a0_0 l0_1 a1_0 l1_1 hr0_1.2.1).trans h)

end Go.Proofs.Ytdepicgdbealpaa.Ext
