/-
  The scrambler's exported functions as plain functions, and that the calls answer so.
-/
import Derived.Test.YtificcmcddcijaaSeq
import Derived.Test.YtificcmcddcijaaWWords
namespace Go.Proofs.Ytificcmcddcijaa.Ext
open Go Go.RowKit Go.Shelf Go.Proofs.YtificcmcddcijaaW.PrintWords
set_option linter.unusedSimpArgs false

/-- The first n bytes of the sequence. -/
def seqI (n : Nat) : List Int := (List.range n).map fun i => (byt i : Int)
theorem rowAt_seqI (n : Nat) : rowAt n (8 * n) = nums .u8 (seqI n) := by
  simp only [rowAt, nums, seqI, List.map_map]
  apply List.map_congr_left
  intro i hi
  rw [List.mem_range] at hi
  simp [part_full n i hi]

theorem sequence_c (n : Nat) (hb : n ≤ 1000000) (w : World) :
    Calls Try.prog 21 #[.int .i64 n] w fun e w' => ∃ v, e = .returned v ∧ w'.ownsRow w.heap.size 5 1 v n (nums .u8 (seqI n)) ∧ Below w.heap.size w w' := by
  refine ((callsIn_wide (n := 6)).1 (sequence_in Fence.wide 6 trivial trivial trivial rfl (by decide) n hb w)).mono ?_
  rintro e w' ⟨g, he, hr, hB⟩
  rw [rowAt_seqI] at hr
  exact ⟨_, he, hr, hB⟩

def scrambler_Register.f (a0 : Int) : Option (Int × Int) := if a0 < 0 ∨ 1048576 < a0 then some (0, 2) else some ((rg a0.toNat : Int), 0)
theorem scrambler_Register.calls (a0 r1 r2 : Int) (w : World) (h : scrambler_Register.f a0 = some (r1, r2)) :
    Calls Try.prog 13 #[.int .i64 a0] w fun e w' => e = .returned (.tuple #[.int .i64 r1, .int .i64 r2]) ∧ Below w.heap.size w w' := by
  unfold scrambler_Register.f at h
  split at h
  · rename_i hc
    simp only [Option.some.injEq, Prod.mk.injEq] at h
    obtain ⟨rfl, rfl⟩ := h
    exact Register_no a0 hc w
  · rename_i hc
    simp only [Option.some.injEq, Prod.mk.injEq] at h
    obtain ⟨rfl, rfl⟩ := h
    have := Register_yes a0.toNat (by omega) w
    rwa [show ((a0.toNat : Nat) : Int) = a0 by omega] at this

def scrambler_Sequence.f (a0 : Int) : Option (ByteArray × Int) := if a0 < 0 ∨ 65536 < a0 then some ((⟨#[]⟩ : ByteArray), 2) else some (strOfNums (seqI a0.toNat), 0)
set_option maxHeartbeats 400000 in
theorem Sequence_no (a0 : Int) (hb : a0 < 0 ∨ 65536 < a0) (w : World) :
    Calls Try.prog 11 #[.int .i64 a0] w fun e w' => e = .returned (.tuple #[.string (⟨#[]⟩ : ByteArray), .int .i64 2]) ∧ Below w.heap.size w w' := by
  have HB := Lib.hid (Below.refl w.heap.size w)
  rcases hb with hb | hb
  · have h0 : decide (a0 < 0) = true := decide_eq_true hb
    go_enter Try.func11, Try.ntmps11
    go_wp2
    go_ret2
    exact ⟨rfl, HB.out⟩
  · have h0 : decide (a0 < 0) = false := decide_eq_false (by omega)
    go_enter Try.func11, Try.ntmps11
    go_wp2
    go_ret2
    exact ⟨rfl, HB.out⟩
set_option maxHeartbeats 400000 in
theorem Sequence_yes (n : Nat) (hb : n ≤ 65536) (w : World) :
    Calls Try.prog 11 #[.int .i64 n] w fun e w' => e = .returned (.tuple #[.string (strOfNums (seqI n)), .int .i64 0]) ∧ Below w.heap.size w w' := by
  have h0 : decide ((n : Int) < 0) = false := decide_eq_false (by omega)
  have h1 : ¬ (65536 < (n : Int)) := by omega
  go_enter Try.func11, Try.ntmps11
  go_wp2_with (go_at_call 21; refine (sequence_c n (by omega) _).mono ?_; rintro e w' ⟨v, rfl, hr, hB⟩; have kc := own_string (P := Try.prog) (src := 40) (dst := 9) Try.underlying40 Try.underlying5 Try.underlying9 hr)
  go_ret2
  exact ⟨rfl, hB⟩
theorem scrambler_Sequence.calls (a0 : Int) (r1 : ByteArray) (r2 : Int) (w : World) (h : scrambler_Sequence.f a0 = some (r1, r2)) :
    Calls Try.prog 11 #[.int .i64 a0] w fun e w' => e = .returned (.tuple #[.string r1, .int .i64 r2]) ∧ Below w.heap.size w w' := by
  unfold scrambler_Sequence.f at h
  split at h
  · rename_i hc
    simp only [Option.some.injEq, Prod.mk.injEq] at h
    obtain ⟨rfl, rfl⟩ := h
    exact Sequence_no a0 hc w
  · rename_i hc
    simp only [Option.some.injEq, Prod.mk.injEq] at h
    obtain ⟨rfl, rfl⟩ := h
    have := Sequence_yes a0.toNat (by omega) w
    rwa [show ((a0.toNat : Nat) : Int) = a0 by omega] at this
end Go.Proofs.Ytificcmcddcijaa.Ext
