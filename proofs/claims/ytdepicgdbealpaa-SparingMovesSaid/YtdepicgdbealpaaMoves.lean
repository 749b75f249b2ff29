/- The law SparingMoves returns true. -/
import Derived.Test.YtdepicgdbealpaaFew
import Derived.StillTailTactics
import Derived.Deep.CutBlock
namespace Go.Proofs.Ytdepicgdbealpaa.Spare
open Go.RowKit Go.Lib Go.Proofs.YtdepicgdbealpaaW.PrintWords Go.Proofs.YtdepicgdbealpaaW.PrintLast Go.Proofs.YtdepicgdbealpaaW.PrintMore
open Go.Proofs.Ytdepicgdbealpaa.V
open Go.Proofs.Ytdepicgdbealpaa

set_option maxHeartbeats 8000000 in
set_option maxRecDepth 100000 in
theorem moves_calls (s : Int) (A : Option Addr) (c : Nat) (l : List S42) (ps pc a b : Int) (w : World) (hr : Kd.C k42 w A l.length l) (hc : l.length ≤ c) (hm : l.length ≤ maxLen)
    (ha : 0 ≤ a ∧ a < 65536) (hb : 0 ≤ b ∧ b < 65536) :
    Calls Try.prog 4 #[.agg #[.int .i64 s, .slice A l.length c], .agg #[.int .i64 ps, .int .i64 pc], .int .u16 a, .int .u16 b] w fun e w' => e = .returned (.bool true) ∧ Below w.heap.size w w' := by
  have hu42 := Try.underlying42
  have hu29 := Try.underlying29
  have hu27 := Try.underlying27
  have hu23 := Try.underlying23
  have hu50 := Try.underlying50
  have hn : l.length ≤ 9223372036854775807 := hr.2.1
  have HC := Aside0.mk hr
  have HM := Aside0.mk hm
  clear hr hm
  go_enter Try.func4, Try.ntmps4
  go_wp2_with fail
  refine (awake_calls _).mono ?_
  rintro e w1 ⟨rfl, hb1⟩
  have hb0 := blk_below (blk_alloc (heap_alloc_new w (.cells #[.int .i64 s, .slice A l.length c] 29)) (.cells #[.int .i64 ps, .int .i64 pc] 23)) hb1
  have hb2 : w1.heap[w.heap.size + 1]? = some (.cells #[.int .i64 ps, .int .i64 pc] 23 (0, 0)) := by
    have := blk_below (heap_alloc_new (w.alloc (.cells #[.int .i64 s, .slice A l.length c] 29)) (.cells #[.int .i64 ps, .int .i64 pc] 23)) hb1
    simpa using this
  have HB : Aside0 (Below w.heap.size w w1) := ⟨below_step (below_alloc (below_alloc (Below.refl _ w) _) _) hb1⟩
  have t0 : w1.cell? ⟨w.heap.size, 0, none⟩ = some (.int .i64 s) := (blk_cell hb0 0).trans rfl
  have t1 : w1.cell? ⟨w.heap.size, 1, none⟩ = some (.slice A l.length c) := (blk_cell hb0 1).trans rfl
  have HT := Aside0.mk hb0
  have HS := Aside0.mk hb2
  clear hb1 hb0 hb2
  go_wp2_with fail
  refine (few_calls w1.heap.size s A l.length c _ (heap_alloc_new w1 _) HM.out).mono ?_
  rintro e w2 ⟨rfl, hb3⟩
  have HT2 := Aside0.mk (blk_below (blk_alloc HT.out (.cells #[.int .i64 s, .slice A l.length c] 29)) hb3)
  have HS2 := Aside0.mk (blk_below (blk_alloc HS.out (.cells #[.int .i64 s, .slice A l.length c] 29)) hb3)
  have HB2 : Aside0 (Below w.heap.size w w2) := ⟨below_step (below_alloc HB.out _) hb3⟩
  clear hb3 t0 t1 HT HS HB
  have t0 : w2.cell? ⟨w.heap.size, 0, none⟩ = some (.int .i64 s) := (blk_cell HT2.out 0).trans rfl
  have t1 : w2.cell? ⟨w.heap.size, 1, none⟩ = some (.slice A l.length c) := (blk_cell HT2.out 1).trans rfl
  have s0 : w2.cell? ⟨w.heap.size + 1, 0, none⟩ = some (.int .i64 ps) := (blk_cell HS2.out 0).trans rfl
  have s1 : w2.cell? ⟨w.heap.size + 1, 1, none⟩ = some (.int .i64 pc) := (blk_cell HS2.out 1).trans rfl
  have hca : wrap64 a = a := Spare.w64 _ (by omega)
  have hcb : wrap64 b = b := Spare.w64 _ (by omega)
  have hca' : IntKind.i64.wrap a = a := by rw [IntWalk.i64_left, hca]
  have hcb' : IntKind.i64.wrap b = b := by rw [IntWalk.i64_left, hcb]
  have HA := Aside0.mk ha
  have HBB := Aside0.mk hb
  clear ha hb
  by_cases g1 : l.length ≤ 20
  rotate_left 1
  · have g1d : decide (l.length ≤ 20) = false := decide_eq_false g1
    go_wp2
    go_ret
    exact ⟨rfl, HB2.out⟩
  have g1d : decide (l.length ≤ 20) = true := decide_eq_true g1
  by_cases g2 : ps < 0
  · have g2d : decide (ps < 0) = true := decide_eq_true g2
    go_wp2
    go_ret
    exact ⟨rfl, HB2.out⟩
  have g2d : decide (ps < 0) = false := decide_eq_false g2
  by_cases g3 : ps > 1099511627776
  · have g3d : decide (ps > 1099511627776) = true := decide_eq_true g3
    go_wp2
    go_ret
    exact ⟨rfl, HB2.out⟩
  have g3d : decide (ps > 1099511627776) = false := decide_eq_false g3
  by_cases g4 : a ≥ pc
  · have g4d : decide (a ≥ pc) = true := decide_eq_true g4
    go_wp2
    go_ret
    exact ⟨rfl, HB2.out⟩
  have g4d : decide (a ≥ pc) = false := decide_eq_false g4
  by_cases g5 : b ≥ pc
  · have g5d : decide (b ≥ pc) = true := decide_eq_true g5
    go_wp2
    go_ret
    exact ⟨rfl, HB2.out⟩
  have g5d : decide (b ≥ pc) = false := decide_eq_false g5
  have HG := Aside0.mk (And.intro g1 (And.intro g2 (And.intro g3 (And.intro g4 g5))))
  clear g1 g2 g3 g4 g5
  go_wp2_with fail
  obtain ⟨r1, r2, r3, r4, hrep⟩ : ∃ r1 r2 r3 r4, replaceF s l a = (r1, r2, r3, r4) := ⟨_, _, _, _, rfl⟩
  have HR := Aside0.mk hrep
  clear hrep
  refine (Ext.Replace.calls s A c l a r1 r2 r3 r4 _ (Kd.C_below HC.out HB2.out) hc (congrArg some HR.out)).mono ?_
  rintro e w3 ⟨v1, rfl, hR1, hb3⟩
  obtain ⟨a1, c1, rfl, hc1, hC1⟩ := Kd.R_reads hR1
  have HO := Aside0.mk (Kd.C_alloc hC1 (.cells #[.int .i64 r1, .slice a1 r2.length c1] 29))
  have HU := Aside0.mk (heap_alloc_new w3 (.cells #[.int .i64 r1, .slice a1 r2.length c1] 29))
  have HT3 := Aside0.mk (blk_alloc (blk_below HT2.out hb3) (.cells #[.int .i64 r1, .slice a1 r2.length c1] 29))
  have HS3 := Aside0.mk (blk_alloc (blk_below HS2.out hb3) (.cells #[.int .i64 r1, .slice a1 r2.length c1] 29))
  have HB3 : Aside0 (Below w.heap.size w (w3.alloc (.cells #[.int .i64 r1, .slice a1 r2.length c1] 29))) := ⟨below_alloc (below_step HB2.out hb3) _⟩
  clear hR1 hb3 hC1 t0 t1 s0 s1 HT2 HS2 HB2
  have t0 : (w3.alloc (.cells #[.int .i64 r1, .slice a1 r2.length c1] 29)).cell? ⟨w.heap.size, 0, none⟩ = some (.int .i64 s) := (blk_cell HT3.out 0).trans rfl
  have t1 : (w3.alloc (.cells #[.int .i64 r1, .slice a1 r2.length c1] 29)).cell? ⟨w.heap.size, 1, none⟩ = some (.slice A l.length c) := (blk_cell HT3.out 1).trans rfl
  have s0 : (w3.alloc (.cells #[.int .i64 r1, .slice a1 r2.length c1] 29)).cell? ⟨w.heap.size + 1, 0, none⟩ = some (.int .i64 ps) := (blk_cell HS3.out 0).trans rfl
  have s1 : (w3.alloc (.cells #[.int .i64 r1, .slice a1 r2.length c1] 29)).cell? ⟨w.heap.size + 1, 1, none⟩ = some (.int .i64 pc) := (blk_cell HS3.out 1).trans rfl
  by_cases h4 : r4 = 0
  rotate_left 1
  · obtain ⟨h5, h6⟩ := replace_fails s l a (by rw [HR.out]; exact h4)
    rw [HR.out] at h5 h6
    simp only at h5 h6
    subst h5
    subst h6
    have h4b : (r4 != 0) = true := by simpa using h4
    clear h4
    go_wp2
    go_ret
    exact ⟨rfl, HB3.out⟩
  subst h4
  obtain ⟨m1, m2, m3, m4, m5, x, y, ex, ey, k1, k2⟩ := moves_plain s l ps pc a b r1 r2 r3 HR.out HA.out HBB.out (by have := HG.out; omega)
  have M := Aside0.mk (And.intro m2 (And.intro m3 m4))
  have EV := Aside0.mk m1
  have EH := Aside0.mk m5
  have EX := Aside0.mk ex
  have EY := Aside0.mk ey
  have K := Aside0.mk (And.intro k1 k2)
  clear m1 m2 m3 m4 m5 ex ey k1 k2
  go_wp2_with fail
  refine (Ext.Valid.calls r1 a1 c1 r2 true _ HO.out hc1 (congrArg some EV.out)).mono ?_
  rintro e w4 ⟨rfl, hb4⟩
  have HO4 := Aside0.mk (Kd.C_below HO.out hb4)
  have HU4 := Aside0.mk (blk_below HU.out hb4)
  have HT4 := Aside0.mk (blk_below HT3.out hb4)
  have HS4 := Aside0.mk (blk_below HS3.out hb4)
  have HB4 := Aside0.mk (below_step HB3.out hb4)
  clear hb4 t0 t1 s0 s1 HO HU HT3 HS3 HB3
  generalize w3.heap.size = gu at HU4 ⊢
  have t0 : w4.cell? ⟨w.heap.size, 0, none⟩ = some (.int .i64 s) := (blk_cell HT4.out 0).trans rfl
  have t1 : w4.cell? ⟨w.heap.size, 1, none⟩ = some (.slice A l.length c) := (blk_cell HT4.out 1).trans rfl
  have u0 : w4.cell? ⟨gu, 0, none⟩ = some (.int .i64 r1) := (blk_cell HU4.out 0).trans rfl
  have u1 : w4.cell? ⟨gu, 1, none⟩ = some (.slice a1 r2.length c1) := (blk_cell HU4.out 1).trans rfl
  have hq : wrap64 (s + 1) = r1 := by rw [M.out.2.1]; exact Spare.w64 _ (by have := M.out; omega)
  have hd : r2.length ≤ l.length := M.out.1
  go_wp2_with fail
  refine (has_calls A c l 4294967295 r3 _ (Kd.C_below HC.out HB4.out) hc).mono ?_
  rintro e w5 ⟨rfl, hb5⟩
  rw [EH.out]
  have HO5 := Aside0.mk (Kd.C_below HO4.out hb5)
  have HU5 := Aside0.mk (blk_below HU4.out hb5)
  have HT5 := Aside0.mk (blk_below HT4.out hb5)
  have HS5 := Aside0.mk (blk_below HS4.out hb5)
  have HB5 := Aside0.mk (below_step HB4.out hb5)
  clear hb5 t0 t1 u0 u1 HO4 HU4 HT4 HS4 HB4
  have t1 : w5.cell? ⟨w.heap.size, 1, none⟩ = some (.slice A l.length c) := (blk_cell HT5.out 1).trans rfl
  have u1 : w5.cell? ⟨gu, 1, none⟩ = some (.slice a1 r2.length c1) := (blk_cell HU5.out 1).trans rfl
  have s0 : w5.cell? ⟨w.heap.size + 1, 0, none⟩ = some (.int .i64 ps) := (blk_cell HS5.out 0).trans rfl
  have s1 : w5.cell? ⟨w.heap.size + 1, 1, none⟩ = some (.int .i64 pc) := (blk_cell HS5.out 1).trans rfl
  go_wp2_with fail
  refine (Ext.Lookup.calls A c l ps pc b x 0 _ (Kd.C_below HC.out HB5.out) hc (congrArg some EX.out)).mono ?_
  rintro e w6 ⟨rfl, hb6⟩
  have HO6 := Aside0.mk (Kd.C_below HO5.out hb6)
  have HB6 := Aside0.mk (below_step HB5.out hb6)
  have u1 : w6.cell? ⟨gu, 1, none⟩ = some (.slice a1 r2.length c1) := (blk_cell (blk_below HU5.out hb6) 1).trans rfl
  have s0 : w6.cell? ⟨w.heap.size + 1, 0, none⟩ = some (.int .i64 ps) := (blk_cell (blk_below HS5.out hb6) 0).trans rfl
  have s1 : w6.cell? ⟨w.heap.size + 1, 1, none⟩ = some (.int .i64 pc) := (blk_cell (blk_below HS5.out hb6) 1).trans rfl
  clear hb6
  go_wp2_with fail
  refine (Ext.Lookup.calls a1 c1 r2 ps pc b y 0 _ HO6.out hc1 (congrArg some EY.out)).mono ?_
  rintro e w7 ⟨rfl, hb7⟩
  have HB7 := Aside0.mk (below_step HB6.out hb7)
  clear hb7
  have ta : Int.tdiv a 8 = a / 8 := Int.tdiv_eq_ediv_of_nonneg HA.out.1
  have tb : Int.tdiv b 8 = b / 8 := Int.tdiv_eq_ediv_of_nonneg HBB.out.1
  have tm : Int.tmod b 8 = b % 8 := Int.tmod_eq_emod_of_nonneg HBB.out.1
  have ra : wrap64 (a / 8) = a / 8 := Spare.w64 _ (by have := HA.out; omega)
  have rb : wrap64 (b / 8) = b / 8 := Spare.w64 _ (by have := HBB.out; omega)
  by_cases hg : a / 8 = b / 8
  · have hy := K.out.1 hg
    have hgb : (a / 8 == b / 8) = true := by simpa using hg
    have hyb : (y == wrap64 (r3 + b % 8)) = true := by simpa using hy
    clear hg hy
    go_wp2
    go_ret
    exact ⟨rfl, HB7.out⟩
  · have hy := K.out.2 hg
    have hgb : (a / 8 == b / 8) = false := by simpa using hg
    have hyb : (x == y) = true := by simpa using hy
    clear hg hy
    go_wp2
    go_ret
    exact ⟨rfl, HB7.out⟩

end Go.Proofs.Ytdepicgdbealpaa.Spare
