/- Plain functions, contracts and rows, written by a program of this session out of the translation (hprint.sh, over the kit's print). Lean checks them. -/
import Derived.Test.YtdepicgdbealpaaGreatV0
namespace Go.Proofs.YtdepicgdbealpaaGreat.V
open Go.RowKit Go.Proofs.YtdepicgdbealpaaGreatW.PrintWords Go.Proofs.YtdepicgdbealpaaGreatW.PrintLast Go.Proofs.YtdepicgdbealpaaGreatW.PrintMore
attribute [local go_sem] max2_int min2_int max_two min_two max_three min_three max_four min_four   -- for this text's walks alone
set_option linter.unusedVariables false
set_option linter.unusedSimpArgs false

/-! ### sparing_Lookup: function 14 -/
mutual
def sparing_Lookup.j0 : Nat → List (S48) → Int → Bool → Int → Int → Option (Int × Int)
  | 0, _, _, _, _, _ => none
  | k + 1, x0, x2, x17, x120000, x120001 => if x17 = true then (some (0, 2)) else (sparing_Lookup.l0 k x2 x0 (x0.length : Int) 0 x120000 x120001)
def sparing_Lookup.l0 : Nat → Int → List (S48) → Int → Int → Int → Int → Option (Int × Int)
  | 0, _, _, _, _, _, _ => none
  | k + 1, x2, x18, x19, x20, x120000, x120001 => if x20 < x19 then (if 0 ≤ x20 then (if x20 < (x18.length : Int) then (if ((rd_T48 x18 x20).f0) = (wrap64 (x2 - (Int.tmod x2 8))) then (some (wrap64 (((rd_T48 x18 x20).f1) + (Int.tmod x2 8)), 0)) else (sparing_Lookup.l0 k x2 x18 x19 (wrap64 (x20 + 1)) x120000 x120001)) else (none)) else (none)) else (some (wrap64 (x120000 + x2), 0))
end
def sparing_Lookup.f (k : Nat) (l0 : List (S48)) (a1_0 : Int) (a1_1 : Int) (a2 : Int) : Option (Int × Int) := if a2 < 0 then (sparing_Lookup.j0 k l0 a2 true a1_0 a1_1) else (sparing_Lookup.j0 k l0 a2 (decide (a2 ≥ a1_1)) a1_0 a1_1)
set_option maxHeartbeats 8000000 in
set_option maxRecDepth 100000 in
theorem sparing_Lookup.calls (k : Nat) (A0 : Option Addr) (c0 : Nat) (l0 : List (S48)) (a1_0 : Int) (a1_1 : Int) (a2 : Int) (r1 : Int) (r2 : Int) (w : World) (hr0 : Kd.C k48 w A0 l0.length l0) (hc0 : l0.length ≤ c0) (h : sparing_Lookup.f k l0 a1_0 a1_1 a2 = some (r1, r2)) :
    Calls Tryz.prog 14 #[.slice A0 l0.length c0, .agg #[.int .i64 a1_0, .int .i64 a1_1], .int .i64 a2] w fun e w' => e = .returned (.tuple #[.int .i64 r1, .int .i64 r2]) ∧ Below w.heap.size w w' := by
  have hu23 := Tryz.underlying23
  have hu48 := Tryz.underlying48
  have HR0 := Aside0.mk hr0
  have HC0 := Aside0.mk hc0
  clear hr0 hc0
  have HB := Aside0.mk (Below.refl w.heap.size w)
  have H : (if a2 < 0 then (sparing_Lookup.j0 k l0 a2 true a1_0 a1_1) else (sparing_Lookup.j0 k l0 a2 (decide (a2 ≥ a1_1)) a1_0 a1_1)) = some (r1, r2) := h
  clear h
  have HC4 := Aside0.mk H
  clear H
  go_enter Tryz.func14, Tryz.ntmps14
  go_upto_region 1 with (first | ((with_reducible refine gate_dst (N := 4) rfl ?_); refine box_event ?hg (N := 4) ?hd (cs := #[.int .i64 a1_0, .int .i64 a1_1]) (t := 23) ?hr ?_; (case hd => rfl); (case hg => rfl); (case hr => first | (go_simp; done) | (go_simp; rfl)); intro gb119 hg w5 hbox hb; have n0_ := Aside0.mk (below_step (by repeat (first | (with_reducible first | exact HB.out | apply below_alloc | apply pw_below_drewN | apply below_drew1) | exact HB.out)) hb); have n1_ := Aside0.mk (hbox); have n2_ := Aside0.mk ((by rw [hg]; exact (below_size (by repeat (first | (with_reducible first | exact HB.out | apply below_alloc | apply pw_below_drewN | apply below_drew1) | exact HB.out))) : w.heap.size ≤ gb119)); have n3_ := Aside0.mk ((by rw [hg]; exact (below_size (by repeat (first | (with_reducible first | exact HB.out | apply below_alloc | apply pw_below_drewN | apply below_drew1) | exact HB.out))) : w.heap.size ≤ gb119)); clear HB; have HB := n0_; have BK119 := n1_; have GW119 := n2_; have GE119 := n3_; clear n0_ n1_ n2_ n3_; clear hb hbox hg))
  (try simp only [Act.put, List.setIfInBounds_toArray, List.set_cons_zero, List.set_cons_succ])
  go_cut [17] (fun v17 wc => ∃ (kq : Nat) (x17_3 : Bool), v17 = .bool x17_3 ∧ Aside0 (sparing_Lookup.j0 kq l0 a2 x17_3 a1_0 a1_1 = some (r1, r2)) ∧ Aside0 (kq ≤ k) ∧ Aside0 (wc.heap[gb119]? = some (.cells #[.int .i64 a1_0, .int .i64 a1_1] 23 (0, 0))) ∧ Aside0 (Below w.heap.size w wc))
  case first =>
    have H := HC4.out
    clear HC4
    by_cases c6 : a2 < 0
    · rw [if_pos c6] at H
      have c6b0 : decide (a2 < 0) = true := decide_eq_true c6
      clear c6
      (first | rw [c6b0] | (simp only [i64_w, i32_w]; rw [c6b0]) | skip)
      have H' := Aside0.mk H
      clear H
      go_wp2
      go_meet
      case rel => exact ⟨_, (true), (by first | rfl | (simp; done) | (simp [*]; done)), H', ⟨by first | omega | exact Nat.le_refl _⟩, ⟨by (with_reducible repeat (first | refine blk_drewN ?_ _ | refine blk_drew ?_ | refine blk_alloc ?_ _)); exact BK119.out⟩, ⟨by repeat (first | (with_reducible first | exact HB.out | apply below_alloc | apply pw_below_drewN | apply below_drew1 | refine below_set ?_ GE119.out) | exact HB.out)⟩⟩
    · rw [if_neg c6] at H
      have c6b0 : decide (a2 < 0) = false := decide_eq_false c6
      clear c6
      (first | rw [c6b0] | (simp only [i64_w, i32_w]; rw [c6b0]) | skip)
      have H' := Aside0.mk H
      clear H
      have hcz7_0 : w5.cell? ⟨gb119, 0, none⟩ = some (.int .i64 a1_0) := (blk_cell BK119.out 0).trans rfl
      have hcz7_1 : w5.cell? ⟨gb119, 1, none⟩ = some (.int .i64 a1_1) := (blk_cell BK119.out 1).trans rfl
      have hfz7_0 := blk_frozen BK119.out 0
      have hfz7_1 := blk_frozen BK119.out 1
      go_wp2
      go_meet
      case rel => exact ⟨_, (decide (a2 ≥ a1_1)), (by first | rfl | (simp; done) | (simp [*]; done)), H', ⟨by first | omega | exact Nat.le_refl _⟩, ⟨by (with_reducible repeat (first | refine blk_drewN ?_ _ | refine blk_drew ?_ | refine blk_alloc ?_ _)); exact BK119.out⟩, ⟨by repeat (first | (with_reducible first | exact HB.out | apply below_alloc | apply pw_below_drewN | apply below_drew1 | refine below_set ?_ GE119.out) | exact HB.out)⟩⟩
  case rest =>
    clear HC4
    try clear c1
    try clear p2
    try clear c6
    try clear c6b0
    try clear hcz7_0
    try clear hcz7_1
    try clear hfz7_0
    try clear hfz7_1
    obtain ⟨kq, x17_3, rfl, HA, HJ3, BK119, HB⟩ := hcut
    cases kq with
    | zero => exact absurd HA.out (by simp [sparing_Lookup.j0])
    | succ kj3 =>
      have H := HA.out
      clear HA
      simp only [sparing_Lookup.j0] at H
      by_cases c8 : x17_3 = true
      · subst c8
        have H1 : (some (0, 2)) = some (r1, r2) := by rw [if_pos rfl] at H; exact H
        clear H
        have H := H1
        clear H1
        simp only [Option.some.injEq, Prod.mk.injEq] at H
        obtain ⟨rfl, rfl⟩ := H
        go_wp2
        go_ret2
        exact ⟨by first | rfl | (simp [errW_none, errW_some] <;> rfl) | (simp [*, errW_none, errW_some] <;> rfl), by repeat (first | (with_reducible first | exact HB.out | apply below_alloc | apply pw_below_drewN | apply below_drew1 | refine below_set ?_ GE119.out) | exact HB.out)⟩
      · replace c8 := Bool.eq_false_iff.mpr c8
        subst c8
        have H1 : (sparing_Lookup.l0 kj3 a2 l0 (l0.length : Int) 0 a1_0 a1_1) = some (r1, r2) := by rw [if_neg (show ¬ (false = true) by decide)] at H; exact H
        clear H
        have H := H1
        clear H1
        have H' := Aside0.mk H
        clear H
        go_wp2
        go_loopg [20] kj3 (fun kq v20 w' => ∃ (x20_2 : Int), v20 = .int .i64 x20_2 ∧ Aside0 (sparing_Lookup.l0 kq a2 l0 (l0.length : Int) x20_2 a1_0 a1_1 = some (r1, r2)) ∧ Aside0 (kq ≤ kj3) ∧ Aside0 (w'.heap[gb119]? = some (.cells #[.int .i64 a1_0, .int .i64 a1_1] 23 (0, 0))) ∧ Aside0 (Below w.heap.size w w'))
        case atStart => exact ⟨(0), (by first | rfl | (simp; done) | (simp [*]; done)), H', ⟨Nat.le_refl _⟩, ⟨by (with_reducible repeat (first | refine blk_drewN ?_ _ | refine blk_drew ?_ | refine blk_alloc ?_ _)); exact BK119.out⟩, ⟨by repeat (first | (with_reducible first | exact HB.out | apply below_alloc | apply pw_below_drewN | apply below_drew1 | refine below_set ?_ GE119.out) | exact HB.out)⟩⟩
        case round =>
          clear H'
          try clear c1
          try clear p2
          try clear c6
          try clear c6b0
          try clear c8
          try clear hcz7_0
          try clear hcz7_1
          try clear hfz7_0
          try clear hfz7_1
          try clear p2
          obtain ⟨x20_2, rfl, HA, HK2, BK119, HB⟩ := hrel
          cases gk with
          | zero => exact absurd HA.out (by simp [sparing_Lookup.l0])
          | succ k2 =>
            have H := HA.out
            clear HA
            simp only [sparing_Lookup.l0] at H
            by_cases c9 : x20_2 < (l0.length : Int)
            · rw [if_pos c9] at H
              have c9b0 : decide (x20_2 < (l0.length : Int)) = true := decide_eq_true c9
              clear c9
              by_cases c10 : 0 ≤ x20_2
              · rw [if_pos c10] at H
                have c10b0 : decide (0 ≤ x20_2) = true := decide_eq_true c10
                clear c10
                by_cases c11 : x20_2 < (l0.length : Int)
                · rw [if_pos c11] at H
                  have c11b0 : decide (x20_2 < (l0.length : Int)) = true := decide_eq_true c11
                  clear c11
                  by_cases c12 : ((rd_T48 l0 x20_2).f0) = (wrap64 (a2 - (Int.tmod a2 8)))
                  · rw [if_pos c12] at H
                    have c12b0 : (((rd_T48 l0 x20_2).f0) == (wrap64 (a2 - (Int.tmod a2 8)))) = true := beq_iff_eq.mpr c12
                    have c12b1 : (((rd_T48 l0 x20_2).f0) != (wrap64 (a2 - (Int.tmod a2 8)))) = false := bne_eq_false_iff_eq.mpr c12
                    clear c12
                    simp only [Option.some.injEq, Prod.mk.injEq] at H
                    obtain ⟨rfl, rfl⟩ := H
                    have p120 : 0 ≤ (x20_2 : Int) := of_decide_eq_true (by first | (with_reducible assumption) | assumption)
                    have q120 : x20_2 < (l0.length : Int) := of_decide_eq_true (by first | (with_reducible assumption) | assumption)
                    obtain ⟨ad120, e120, hx120_0, hx120_1⟩ := at_T48 HR0.out x20_2 p120 q120
                    cases e120
                    replace hx120_0 := (HB.out.cell (World.block_lt_of_cell? w _ hx120_0)).trans hx120_0
                    replace hx120_1 := (HB.out.cell (World.block_lt_of_cell? w _ hx120_1)).trans hx120_1
                    replace p120 := eq_true p120
                    replace q120 := eq_true q120
                    go_wp2_with (first | ((with_reducible refine gate_dst (N := 9) rfl ?_); refine box_event ?hg (N := 9) ?hd (cs := #[.int .i64 0, .int .i64 0]) (t := 48) ?hr ?_; (case hd => rfl); (case hg => rfl); (case hr => first | (go_simp; done) | (go_simp; rfl)); intro gb121 hg w13 hbox hb; have n0_ := Aside0.mk (blk_below (g := gb119) (o := .cells #[.int .i64 a1_0, .int .i64 a1_1] 23 (0, 0)) (by (with_reducible repeat (first | refine blk_drewN ?_ _ | refine blk_drew ?_ | refine blk_alloc ?_ _)); exact BK119.out) hb); have n1_ := Aside0.mk (below_step (by repeat (first | (with_reducible first | exact HB.out | apply below_alloc | apply pw_below_drewN | apply below_drew1 | refine below_set ?_ GE119.out) | exact HB.out)) hb); have n2_ := Aside0.mk (hbox); have n3_ := Aside0.mk ((by rw [hg]; exact (below_size (by repeat (first | (with_reducible first | exact HB.out | apply below_alloc | apply pw_below_drewN | apply below_drew1 | refine below_set ?_ GE119.out) | exact HB.out))) : w.heap.size ≤ gb121)); have n4_ := Aside0.mk ((by rw [hg]; exact (below_size (by repeat (first | (with_reducible first | exact HB.out | apply below_alloc | apply pw_below_drewN | apply below_drew1 | refine below_set ?_ GE119.out) | exact HB.out))) : w.heap.size ≤ gb121)); have n5_ := Aside0.mk ((by rw [hg]; exact Nat.ne_of_lt (blk_lt (g := gb119) (o := .cells #[.int .i64 a1_0, .int .i64 a1_1] 23 (0, 0)) (by (with_reducible repeat (first | refine blk_drewN ?_ _ | refine blk_drew ?_ | refine blk_alloc ?_ _)); exact BK119.out)) : gb119 ≠ gb121)); have n6_ := Aside0.mk ((by rw [hg]; exact Nat.ne_of_gt (blk_lt (g := gb119) (o := .cells #[.int .i64 a1_0, .int .i64 a1_1] 23 (0, 0)) (by (with_reducible repeat (first | refine blk_drewN ?_ _ | refine blk_drew ?_ | refine blk_alloc ?_ _)); exact BK119.out)) : gb121 ≠ gb119)); clear BK119; clear HB; have BK119 := n0_; have HB := n1_; have BK121 := n2_; have GW121 := n3_; have GE121 := n4_; have NB119_121 := n5_; have NB121_119 := n6_; clear n0_ n1_ n2_ n3_ n4_ n5_ n6_; clear hb hbox hg; have hnb14 := NB121_119.out; have hnc14 := NB119_121.out; have hcz15_0 : w13.cell? ⟨gb121, 0, none⟩ = some (.int .i64 0) := (blk_cell BK121.out 0).trans rfl; have hcz15_1 : w13.cell? ⟨gb121, 1, none⟩ = some (.int .i64 0) := (blk_cell BK121.out 1).trans rfl; have hfz15_0 := blk_frozen BK121.out 0; have hfz15_1 := blk_frozen BK121.out 1))
                    go_ret2
                    exact ⟨by first | rfl | (simp [errW_none, errW_some] <;> rfl) | (simp [*, errW_none, errW_some] <;> rfl), by repeat (first | (with_reducible first | exact HB.out | apply below_alloc | apply pw_below_drewN | apply below_drew1 | refine below_set ?_ GE119.out | refine below_set ?_ GE121.out) | exact HB.out)⟩
                  · rw [if_neg c12] at H
                    have c12b0 : (((rd_T48 l0 x20_2).f0) == (wrap64 (a2 - (Int.tmod a2 8)))) = false := beq_eq_false_iff_ne.mpr c12
                    have c12b1 : (((rd_T48 l0 x20_2).f0) != (wrap64 (a2 - (Int.tmod a2 8)))) = true := bne_iff_ne.mpr c12
                    have H' := Aside0.mk H
                    clear H
                    have p120 : 0 ≤ (x20_2 : Int) := of_decide_eq_true (by first | (with_reducible assumption) | assumption)
                    have q120 : x20_2 < (l0.length : Int) := of_decide_eq_true (by first | (with_reducible assumption) | assumption)
                    obtain ⟨ad120, e120, hx120_0, hx120_1⟩ := at_T48 HR0.out x20_2 p120 q120
                    cases e120
                    replace hx120_0 := (HB.out.cell (World.block_lt_of_cell? w _ hx120_0)).trans hx120_0
                    replace hx120_1 := (HB.out.cell (World.block_lt_of_cell? w _ hx120_1)).trans hx120_1
                    replace p120 := eq_true p120
                    replace q120 := eq_true q120
                    go_wp2_with (first | ((with_reducible refine gate_dst (N := 9) rfl ?_); refine box_event ?hg (N := 9) ?hd (cs := #[.int .i64 0, .int .i64 0]) (t := 48) ?hr ?_; (case hd => rfl); (case hg => rfl); (case hr => first | (go_simp; done) | (go_simp; rfl)); intro gb121 hg w16 hbox hb; have n0_ := Aside0.mk (blk_below (g := gb119) (o := .cells #[.int .i64 a1_0, .int .i64 a1_1] 23 (0, 0)) (by (with_reducible repeat (first | refine blk_drewN ?_ _ | refine blk_drew ?_ | refine blk_alloc ?_ _)); exact BK119.out) hb); have n1_ := Aside0.mk (below_step (by repeat (first | (with_reducible first | exact HB.out | apply below_alloc | apply pw_below_drewN | apply below_drew1 | refine below_set ?_ GE119.out) | exact HB.out)) hb); have n2_ := Aside0.mk (hbox); have n3_ := Aside0.mk ((by rw [hg]; exact (below_size (by repeat (first | (with_reducible first | exact HB.out | apply below_alloc | apply pw_below_drewN | apply below_drew1 | refine below_set ?_ GE119.out) | exact HB.out))) : w.heap.size ≤ gb121)); have n4_ := Aside0.mk ((by rw [hg]; exact (below_size (by repeat (first | (with_reducible first | exact HB.out | apply below_alloc | apply pw_below_drewN | apply below_drew1 | refine below_set ?_ GE119.out) | exact HB.out))) : w.heap.size ≤ gb121)); have n5_ := Aside0.mk ((by rw [hg]; exact Nat.ne_of_lt (blk_lt (g := gb119) (o := .cells #[.int .i64 a1_0, .int .i64 a1_1] 23 (0, 0)) (by (with_reducible repeat (first | refine blk_drewN ?_ _ | refine blk_drew ?_ | refine blk_alloc ?_ _)); exact BK119.out)) : gb119 ≠ gb121)); have n6_ := Aside0.mk ((by rw [hg]; exact Nat.ne_of_gt (blk_lt (g := gb119) (o := .cells #[.int .i64 a1_0, .int .i64 a1_1] 23 (0, 0)) (by (with_reducible repeat (first | refine blk_drewN ?_ _ | refine blk_drew ?_ | refine blk_alloc ?_ _)); exact BK119.out)) : gb121 ≠ gb119)); clear BK119; clear HB; have BK119 := n0_; have HB := n1_; have BK121 := n2_; have GW121 := n3_; have GE121 := n4_; have NB119_121 := n5_; have NB121_119 := n6_; clear n0_ n1_ n2_ n3_ n4_ n5_ n6_; clear hb hbox hg; have hnb17 := NB121_119.out; have hnc17 := NB119_121.out; have hcz18_0 : w16.cell? ⟨gb121, 0, none⟩ = some (.int .i64 0) := (blk_cell BK121.out 0).trans rfl; have hcz18_1 : w16.cell? ⟨gb121, 1, none⟩ = some (.int .i64 0) := (blk_cell BK121.out 1).trans rfl; have hfz18_0 := blk_frozen BK121.out 0; have hfz18_1 := blk_frozen BK121.out 1))
                    go_roundg k2
                    case measure => have := HJ3.out; have := HK2.out; omega
                    case rel => exact ⟨(wrap64 (x20_2 + 1)), (by first | rfl | (simp; done) | (simp [*]; done)), H', ⟨by have := HJ3.out; have := HK2.out; omega⟩, ⟨by (with_reducible repeat (first | refine blk_drewN ?_ _ | refine blk_drew ?_ | refine blk_alloc ?_ _)); refine blk_far ?_ NB119_121.out _; (with_reducible repeat (first | refine blk_drewN ?_ _ | refine blk_drew ?_ | refine blk_alloc ?_ _)); refine blk_far ?_ NB119_121.out _; (with_reducible repeat (first | refine blk_drewN ?_ _ | refine blk_drew ?_ | refine blk_alloc ?_ _)); exact BK119.out⟩, ⟨by repeat (first | (with_reducible first | exact HB.out | apply below_alloc | apply pw_below_drewN | apply below_drew1 | refine below_set ?_ GE119.out | refine below_set ?_ GE121.out) | exact HB.out)⟩⟩
                · rw [if_neg c11] at H
                  exact absurd H (by simp)
              · rw [if_neg c10] at H
                exact absurd H (by simp)
            · rw [if_neg c9] at H
              have c9b0 : decide (x20_2 < (l0.length : Int)) = false := decide_eq_false c9
              clear c9
              simp only [Option.some.injEq, Prod.mk.injEq] at H
              obtain ⟨rfl, rfl⟩ := H
              have hcz19_0 : wr.cell? ⟨gb119, 0, none⟩ = some (.int .i64 a1_0) := (blk_cell BK119.out 0).trans rfl
              have hcz19_1 : wr.cell? ⟨gb119, 1, none⟩ = some (.int .i64 a1_1) := (blk_cell BK119.out 1).trans rfl
              have hfz19_0 := blk_frozen BK119.out 0
              have hfz19_1 := blk_frozen BK119.out 1
              go_wp2
              go_ret2
              exact ⟨by first | rfl | (simp [errW_none, errW_some] <;> rfl) | (simp [*, errW_none, errW_some] <;> rfl), by repeat (first | (with_reducible first | exact HB.out | apply below_alloc | apply pw_below_drewN | apply below_drew1 | refine below_set ?_ GE119.out) | exact HB.out)⟩

/-! ### masterdiscref39_New: function 8 -/
/-! ### masterdiscref39_word: function 28 -/
def masterdiscref39_word.f (a0 : Int) : Option (Bool) := if a0 ≥ 0 then (some (decide (a0 < 4294967296))) else (some false)
set_option maxHeartbeats 8000000 in
set_option maxRecDepth 100000 in
theorem masterdiscref39_word.calls (a0 : Int) (r : Bool) (w : World) (h : masterdiscref39_word.f a0 = some r) :
    Calls Tryz.prog 28 #[.int .i64 a0] w fun e w' => e = .returned (.bool r) ∧ Drawn0 w w' := by
  have H : (if a0 ≥ 0 then (some (decide (a0 < 4294967296))) else (some false)) = some r := h
  clear h
  by_cases c2 : a0 ≥ 0
  · rw [if_pos c2] at H
    have c2b0 : decide (0 ≤ a0) = true := decide_eq_true c2
    clear c2
    obtain rfl := Option.some.inj H
    go_enter Tryz.func28, Tryz.ntmps28
    go_wp2
    go_ret
    exact ⟨by first | rfl | (simp; done) | (simp [*]; done), by repeat (first | exact Drawn0.refl _ | apply Drawn0.step)⟩
  · rw [if_neg c2] at H
    have c2b0 : decide (0 ≤ a0) = false := decide_eq_false c2
    clear c2
    obtain rfl := Option.some.inj H
    go_enter Tryz.func28, Tryz.ntmps28
    go_wp2
    go_ret
    exact ⟨by first | rfl | (simp; done) | (simp [*]; done), by repeat (first | exact Drawn0.refl _ | apply Drawn0.step)⟩

end Go.Proofs.YtdepicgdbealpaaGreat.V
