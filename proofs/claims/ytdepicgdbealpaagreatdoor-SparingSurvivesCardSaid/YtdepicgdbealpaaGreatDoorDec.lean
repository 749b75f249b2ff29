/- sparing.Decode. -/
import Derived.Test.YtdepicgdbealpaaGreatDoorEnt
namespace Go.Proofs.YtdepicgdbealpaaGreatDoor.Enc
set_option linter.unusedVariables false
set_option linter.unusedSimpArgs false
open Go.RowKit Go.Lib Go.Proofs.YtdepicgdbealpaaGreatDoorW.PrintWords Go.Proofs.YtdepicgdbealpaaGreatDoorW.PrintLast Go.Proofs.YtdepicgdbealpaaGreatDoorW.PrintMore
open Go.Proofs.YtdepicgdbealpaaGreatDoor Go.Proofs.YtdepicgdbealpaaGreatDoor.V Go.Proofs.YtdepicgdbealpaaGreatDoor.Spare

set_option maxHeartbeats 4000000 in
set_option maxRecDepth 100000 in
theorem num_calls (b : ByteArray) (a size g : Nat) (w : World) (hg : w.heap[g]? = some (.cells #[.string b] 9 (0, 0))) (hs : 1 ≤ size ∧ size ≤ 7) (ha : a + size ≤ b.size) (hz : b.size ≤ 1000000) :
  Calls Tryz.prog 24 #[.int .i64 a, .int .i64 size, .pointer (some ⟨g, 0, none⟩)] w fun e w' => e = .returned (.int .i64 (rdN b a size)) ∧ Below w.heap.size w w' := by
 have HL := fun W => ReadLittle.calls b a size (rdN b a size : Nat) 0 W (by unfold ReadLittle.f; rw [if_pos ⟨by omega, by omega, by omega, by omega, by omega⟩, Int.toNat_natCast, Int.toNat_natCast])
 generalize rdN b a size = r at HL ⊢
 have h0 : w.cell? ⟨g, 0, none⟩ = some (.string b) := (blk_cell hg 0).trans rfl
 have hff := blk_frozen hg 0
 clear hg
 go_enter Tryz.func24, Tryz.ntmps24
 go_wp2_with (go_at_call 25; refine (HL _).mono ?_; rintro e w1 ⟨rfl, hb1⟩)
 go_ret
 exact ⟨rfl, hb1⟩

/-- The entries of a block. -/
def entL (b : ByteArray) (n : Nat) : List S54 := (List.range n).map fun i => ⟨((rdN b (56 + 8 * i) 4 : Nat) : Int), ((rdN b (60 + 8 * i) 4 : Nat) : Int)⟩

theorem three_new (w : World) (A B C : Obj) : (((w.alloc A).alloc B).alloc C).heap[w.heap.size]? = some A ∧ (((w.alloc A).alloc B).alloc C).heap[w.heap.size + 1]? = some B ∧ (((w.alloc A).alloc B).alloc C).heap[w.heap.size + 1 + 1]? = some C := by
 refine ⟨blk_alloc (blk_alloc (blk_new w A) B) C, ?_, ?_⟩
 ·have := blk_new (w.alloc A) B
  rw [show (w.alloc A).heap.size = w.heap.size + 1 by simp] at this
  exact blk_alloc this C
 ·have := blk_new ((w.alloc A).alloc B) C
  rw [show ((w.alloc A).alloc B).heap.size = w.heap.size + 1 + 1 by simp] at this
  exact this

set_option maxHeartbeats 4000000 in
set_option maxRecDepth 100000 in
theorem decode_bad (b : ByteArray) (loc : Int) (w : World) (hz : b.size ≤ 1000000) (h : b.size ≠ 2048 ∨ isF b 0 loc = false) :
  Calls Tryz.prog 8 #[.string b, .int .i64 loc] w fun e w' => e = .returned (.tuple #[.agg #[.int .i64 0, .slice none 0 0], .int .i64 10]) ∧ Below w.heap.size w w' := by
 have hu24 := Tryz.underlying24
 by_cases h2 : b.size = 2048
 ·have hi : isF b 0 loc = false := by
   rcases h with h | h
   ·exact absurd h2 h
   ·exact h
  have h2d : ((b.size : Int) != 2048) = false := by rw [h2]; rfl
  have HI := fun W => is_calls b 0 loc W (by omega) hz
  rw [hi] at HI
  clear h hi
  go_enter Tryz.func8, Tryz.ntmps8
  go_wp2_with fail
  obtain ⟨q0, q1, q2⟩ := three_new w (.cells #[.string b] 9) (.cells #[.int .i64 0, .slice none 0 0] 24) (.cells #[.int .i64 0, .slice none 0 0] 24)
  have hB0 : Below w.heap.size w (((w.alloc (.cells #[.string b] 9)).alloc (.cells #[.int .i64 0, .slice none 0 0] 24)).alloc (.cells #[.int .i64 0, .slice none 0 0] 24)) := below_alloc (below_alloc (below_alloc (Below.refl _ w) _) _) _
  generalize ((w.alloc (.cells #[.string b] 9)).alloc (.cells #[.int .i64 0, .slice none 0 0] 24)).alloc (.cells #[.int .i64 0, .slice none 0 0] 24) = w0 at q0 q1 q2 hB0 ⊢
  refine (HI _).mono ?_
  rintro e w1 ⟨rfl, hb1⟩
  have p1 := blk_below q1 hb1
  have p2 := blk_below q2 hb1
  have s0 : w1.cell? ⟨w.heap.size + 1 + 1, 0, none⟩ = some (.int .i64 0) := (blk_cell p2 0).trans rfl
  have s1 : w1.cell? ⟨w.heap.size + 1 + 1, 1, none⟩ = some (.slice none 0 0) := (blk_cell p2 1).trans rfl
  have t0 : w1.cell? ⟨w.heap.size + 1, 0, none⟩ = some (.int .i64 0) := (blk_cell p1 0).trans rfl
  have t1 : w1.cell? ⟨w.heap.size + 1, 1, none⟩ = some (.slice none 0 0) := (blk_cell p1 1).trans rfl
  have f0 := blk_frozen p1 0
  have f1 := blk_frozen p1 1
  have HB := Aside0.mk (below_step hB0 hb1)
  have P1 := Aside0.mk p1
  clear p1 p2 hb1 hB0 q0 q1 q2
  go_wp2
  refine bodyPost_ret (results_ct rfl _ _ (w.heap.size + 1) 24 #[.int .i64 0, .slice none 0 0] (0, 0) _ rfl (blk_put (cs := #[.int .i64 0, .slice none 0 0]) (blk_put (cs := #[.int .i64 0, .slice none 0 0]) P1.out 0 _ rfl) 1 _ rfl) Tryz.underlying24 rfl (by kernel_rfl)) rfl ?_
  exact ⟨rfl, (HB.out.setCell (Nat.le_succ _) _).setCell (Nat.le_succ _) _⟩
 ·have h2d : ((b.size : Int) != 2048) = true := bne_iff_ne.2 (by omega)
  go_enter Tryz.func8, Tryz.ntmps8
  go_upto_region 3 with fail
  obtain ⟨q0, q1, q2⟩ := three_new w (.cells #[.string b] 9) (.cells #[.int .i64 0, .slice none 0 0] 24) (.cells #[.int .i64 0, .slice none 0 0] 24)
  have hB0 : Below w.heap.size w (((w.alloc (.cells #[.string b] 9)).alloc (.cells #[.int .i64 0, .slice none 0 0] 24)).alloc (.cells #[.int .i64 0, .slice none 0 0] 24)) := below_alloc (below_alloc (below_alloc (Below.refl _ w) _) _) _
  generalize ((w.alloc (.cells #[.string b] 9)).alloc (.cells #[.int .i64 0, .slice none 0 0] 24)).alloc (.cells #[.int .i64 0, .slice none 0 0] 24) = w1 at q0 q1 q2 hB0 ⊢
  have s0 : w1.cell? ⟨w.heap.size + 1 + 1, 0, none⟩ = some (.int .i64 0) := (blk_cell q2 0).trans rfl
  have s1 : w1.cell? ⟨w.heap.size + 1 + 1, 1, none⟩ = some (.slice none 0 0) := (blk_cell q2 1).trans rfl
  have t0 : w1.cell? ⟨w.heap.size + 1, 0, none⟩ = some (.int .i64 0) := (blk_cell q1 0).trans rfl
  have t1 : w1.cell? ⟨w.heap.size + 1, 1, none⟩ = some (.slice none 0 0) := (blk_cell q1 1).trans rfl
  have f0 := blk_frozen q1 0
  have f1 := blk_frozen q1 1
  have HB := Aside0.mk hB0
  have P1 := Aside0.mk q1
  clear hB0 q0 q1 q2
  go_wp2
  refine bodyPost_ret (results_ct rfl _ _ (w.heap.size + 1) 24 #[.int .i64 0, .slice none 0 0] (0, 0) _ rfl (blk_put (cs := #[.int .i64 0, .slice none 0 0]) (blk_put (cs := #[.int .i64 0, .slice none 0 0]) P1.out 0 _ rfl) 1 _ rfl) Tryz.underlying24 rfl (by kernel_rfl)) rfl ?_
  exact ⟨rfl, (HB.out.setCell (Nat.le_succ _) _).setCell (Nat.le_succ _) _⟩

end Go.Proofs.YtdepicgdbealpaaGreatDoor.Enc
