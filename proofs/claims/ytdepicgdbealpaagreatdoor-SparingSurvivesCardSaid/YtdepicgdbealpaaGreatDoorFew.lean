/- few: whether a table has at most 20 entries. slices.Contains at entries, in closed form. -/
import Derived.Test.YtdepicgdbealpaaGreatDoorAwake
namespace Go.Proofs.YtdepicgdbealpaaGreatDoor.Spare
set_option linter.unusedVariables false
set_option linter.unusedSimpArgs false
open Go.RowKit Go.Lib Go.Proofs.YtdepicgdbealpaaGreatDoorW.PrintWords Go.Proofs.YtdepicgdbealpaaGreatDoorW.PrintLast Go.Proofs.YtdepicgdbealpaaGreatDoorW.PrintMore
open Go.Proofs.YtdepicgdbealpaaGreatDoor.V
open Go.Proofs.YtdepicgdbealpaaGreatDoor

theorem big_calls (s : Int) (A : Option Addr) (n c : Nat) (w : World) (hn : n ≤ maxLen) :
  Calls Tryz.prog 17 #[.agg #[.int .i64 s, .slice A n c]] w fun e w' => e = .returned (.bool (decide (n > 20))) ∧ Below w.heap.size w w' := by
 have hu29 := Tryz.underlying24
 have hu27 := Tryz.underlying22
 have hm : n ≤ 9223372036854775807 := by simp only [maxLen] at hn; omega
 go_enter Tryz.func17, Tryz.ntmps17
 go_wp2
 go_ret
 refine ⟨?_, (Below.refl _ w).alloc (Nat.le_refl _) _⟩
 have : decide ((n : Int) > 20) = decide (n > 20) := decide_eq_decide.2 (by omega)
 rw [← this]
 rfl

set_option maxHeartbeats 4000000 in
set_option maxRecDepth 100000 in
theorem index28_calls (g : Nat) (s : Int) (A : Option Addr) (n c : Nat) (w : World) (hb : w.heap[g]? = some (.cells #[.int .i64 s, .slice A n c] 24 (0, 0))) (hm : n ≤ maxLen) :
  Calls Tryz.prog 32 #[.slice (some ⟨g, 0, none⟩) 1 1, .func (.func 17) #[] #[]] w fun e w' => e = .returned (.int .i64 (if n > 20 then 0 else -1)) ∧ Below w.heap.size w w' := by
 obtain ⟨r, hr⟩ : ∃ r : Int, r = if n > 20 then 0 else -1 := ⟨_, rfl⟩
 rw [← hr]
 have HRR := Aside0.mk hr
 clear hr
 have hu29 := Tryz.underlying24
 have hu27 := Tryz.underlying22
 have hu50 := Tryz.underlying55
 have HB := Aside0.mk hb
 have HC := fun W => big_calls s A n c W hm
 clear hb
 obtain ⟨B, hB⟩ : ∃ B, decide (n > 20) = B := ⟨_, rfl⟩
 rw [hB] at HC
 have HBB := Aside0.mk hB
 clear hB hm
 go_enter Tryz.func32, Tryz.ntmps32
 go_wp2
 go_loopg [5, 8] 1 (fun gg _ s8 wr => ∃ kk : Nat, kk ≤ 1 ∧ 1 - kk ≤ gg ∧ s8 = .int .i64 kk ∧ Aside0 (Below w.heap.size w wr) ∧ Aside0 (kk = 1 → B = false))
 case atStart => exact ⟨0, Nat.zero_le _, by omega, rfl, ⟨Below.refl _ w⟩, ⟨fun h => by cases h⟩⟩
 case round =>
  obtain ⟨kk, hkk, hg, rfl, BW, HA⟩ := hrel
  by_cases hlt : kk < 1
  ·obtain rfl : kk = 0 := by omega
   have h0 : wr.cell? ⟨g, 0, none⟩ = some (.int .i64 s) := (blk_cell (blk_below HB.out BW.out) 0).trans rfl
   have h1 : wr.cell? ⟨g, 1, none⟩ = some (.slice A n c) := (blk_cell (blk_below HB.out BW.out) 1).trans rfl
   have hcall := HC wr
   cases B with
   | true =>
    go_wp2_with (go_at_call 17; refine hcall.mono ?_; rintro e w' ⟨rfl, hb'⟩)
    go_ret
    exact ⟨by rw [HRR.out, if_pos (of_decide_eq_true HBB.out)]; rfl, below_step BW.out hb'⟩
   | false =>
    go_wp2_with (go_at_call 17; refine hcall.mono ?_; rintro e w' ⟨rfl, hb'⟩)
    go_roundg 0
    case measure => omega
    case rel => exact ⟨1, by omega, by omega, by go_num, ⟨below_step BW.out hb'⟩, ⟨fun _ => by first | rfl | trivial⟩⟩
  ·obtain rfl : kk = 1 := by omega
   have hf := HA.out rfl
   subst hf
   go_wp2
   go_ret
   exact ⟨by rw [HRR.out, if_neg (of_decide_eq_false HBB.out)]; rfl, BW.out⟩

theorem any18_calls (g : Nat) (s : Int) (A : Option Addr) (n c : Nat) (w : World) (hb : w.heap[g]? = some (.cells #[.int .i64 s, .slice A n c] 24 (0, 0))) (hm : n ≤ maxLen) :
  Calls Tryz.prog 16 #[.slice (some ⟨g, 0, none⟩) 1 1, .func (.func 17) #[] #[]] w fun e w' => e = .returned (.bool (decide (n > 20))) ∧ Below w.heap.size w w' := by
 obtain ⟨r, hr⟩ : ∃ r : Bool, r = decide (n > 20) := ⟨_, rfl⟩
 rw [← hr]
 have HRR := Aside0.mk hr
 clear hr
 have HC := index28_calls g s A n c w hb hm
 have hu50 := Tryz.underlying55
 go_enter Tryz.func16, Tryz.ntmps16
 by_cases h : n > 20
 ·rw [if_pos h] at HC
  have HH := Aside0.mk h
  clear h hb hm
  go_wp2_with (go_at_call 32; refine HC.mono ?_; rintro e w' ⟨rfl, hb'⟩)
  go_ret
  exact ⟨by rw [HRR.out, decide_eq_true HH.out]; rfl, hb'⟩
 ·rw [if_neg h] at HC
  have HH := Aside0.mk h
  clear h hb hm
  go_wp2_with (go_at_call 32; refine HC.mono ?_; rintro e w' ⟨rfl, hb'⟩)
  go_ret
  exact ⟨by rw [HRR.out, decide_eq_false HH.out]; rfl, hb'⟩

theorem few_calls (g : Nat) (s : Int) (A : Option Addr) (n c : Nat) (w : World) (hb : w.heap[g]? = some (.cells #[.int .i64 s, .slice A n c] 24 (0, 0))) (hm : n ≤ maxLen) :
  Calls Tryz.prog 6 #[.slice (some ⟨g, 0, none⟩) 1 1] w fun e w' => e = .returned (.bool (decide (n ≤ 20))) ∧ Below w.heap.size w w' := by
 have hd : decide (n ≤ 20) = !decide (n > 20) := by by_cases h : n > 20 <;> simp [h] <;> omega
 rw [hd]
 have HC := any18_calls g s A n c w hb hm
 have hu50 := Tryz.underlying55
 clear hb hm hd
 generalize decide (n > 20) = B at HC ⊢
 go_enter Tryz.func6, Tryz.ntmps6
 go_wp2_with (go_at_call 16; refine HC.mono ?_; rintro e w' ⟨rfl, hb'⟩)
 go_ret
 exact ⟨rfl, hb'⟩

end Go.Proofs.YtdepicgdbealpaaGreatDoor.Spare
