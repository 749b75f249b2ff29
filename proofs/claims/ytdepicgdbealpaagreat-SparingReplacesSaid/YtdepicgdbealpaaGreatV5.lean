/- Plain functions, contracts and rows, written by a program of this session out of the translation (hprint.sh, over the kit's print). Lean checks them. -/
import Derived.Test.YtdepicgdbealpaaGreatV0
import Derived.Test.YtdepicgdbealpaaGreatV4
namespace Go.Proofs.YtdepicgdbealpaaGreat.V
open Go.RowKit Go.Proofs.YtdepicgdbealpaaGreatW.PrintWords Go.Proofs.YtdepicgdbealpaaGreatW.PrintLast Go.Proofs.YtdepicgdbealpaaGreatW.PrintMore
attribute [local go_sem] max2_int min2_int max_two min_two max_three min_three max_four min_four   -- for this text's walks alone
set_option linter.unusedVariables false
set_option linter.unusedSimpArgs false

/-! ### masterdiscref39_Valid: function 13 -/
mutual
def masterdiscref39_Valid.j0 : Nat → Bool → Int → List (S48) → Option (Bool)
 | 0, _, _, _ => none
 | k + 1, x16, x129000, x129001 => if x16 = true then (some false) else (masterdiscref39_Valid.l0 k 0 x129000 x129001)
def masterdiscref39_Valid.l0 : Nat → Int → Int → List (S48) → Option (Bool)
 | 0, _, _, _ => none
 | k + 1, x3, x129000, x129001 => if x3 < (x129001.length : Int) then (if 0 ≤ x3 then ((masterdiscref39_word.f ((rd_T48 x129001 x3).f1)).bind fun t132 => (if t132 = true then ((masterdiscref39_word.f ((rd_T48 x129001 x3).f0)).bind fun t133 => (if t133 = true then (if ((rd_T48 x129001 x3).f0) = 4294967295 then (masterdiscref39_Valid.j2 k x3 false x129000 x129001 ((rd_T48 x129001 x3).f0) ((rd_T48 x129001 x3).f1)) else (masterdiscref39_Valid.j2 k x3 ((Int.tmod ((rd_T48 x129001 x3).f0) 8) != 0) x129000 x129001 ((rd_T48 x129001 x3).f0) ((rd_T48 x129001 x3).f1))) else (masterdiscref39_Valid.j2 k x3 true x129000 x129001 ((rd_T48 x129001 x3).f0) ((rd_T48 x129001 x3).f1)))) else (masterdiscref39_Valid.j2 k x3 true x129000 x129001 ((rd_T48 x129001 x3).f0) ((rd_T48 x129001 x3).f1)))) else (none)) else (some true)
def masterdiscref39_Valid.j2 : Nat → Int → Bool → Int → List (S48) → Int → Int → Option (Bool)
 | 0, _, _, _, _, _, _ => none
 | k + 1, x3, x49, x129000, x129001, x132000, x132001 => if x49 = true then (some false) else (masterdiscref39_Valid.l1 k x3 0 x129000 x129001 x132000 x132001)
def masterdiscref39_Valid.l1 : Nat → Int → Int → Int → List (S48) → Int → Int → Option (Bool)
 | 0, _, _, _, _, _, _ => none
 | k + 1, x3, x5, x129000, x129001, x132000, x132001 => if x5 < x3 then (if 0 ≤ x5 then (if x5 < (x129001.length : Int) then (if ((rd_T48 x129001 x5).f0) > x132000 then (some false) else (if ((rd_T48 x129001 x5).f0) = x132000 then (if x132000 = 4294967295 then (if (wrap64 ((mx x132001 ((rd_T48 x129001 x5).f1)) - (mn x132001 ((rd_T48 x129001 x5).f1)))) < 8 then (some false) else (masterdiscref39_Valid.l1 k x3 (wrap64 (x5 + 1)) x129000 x129001 x132000 x132001)) else (some false)) else (if (wrap64 ((mx x132001 ((rd_T48 x129001 x5).f1)) - (mn x132001 ((rd_T48 x129001 x5).f1)))) < 8 then (some false) else (masterdiscref39_Valid.l1 k x3 (wrap64 (x5 + 1)) x129000 x129001 x132000 x132001)))) else (none)) else (none)) else (masterdiscref39_Valid.l0 k (wrap64 (x3 + 1)) x129000 x129001)
end
def masterdiscref39_Valid.f (k : Nat) (a0_0 : Int) (l0_1 : List (S48)) : Option (Bool) := (masterdiscref39_word.f a0_0).bind fun t129 => (if t129 = true then (masterdiscref39_Valid.j0 k (decide ((l0_1.length : Int) > 8)) a0_0 l0_1) else (masterdiscref39_Valid.j0 k true a0_0 l0_1))
set_option maxHeartbeats 8000000 in
set_option maxRecDepth 100000 in
theorem masterdiscref39_Valid.calls (k : Nat) (a0_0 : Int) (A0_1 : Option Addr) (c0_1 : Nat) (l0_1 : List (S48)) (r : Bool) (w : World) (hr0_1 : Kd.C k48 w A0_1 l0_1.length l0_1) (hc0_1 : l0_1.length ≤ c0_1) (h : masterdiscref39_Valid.f k a0_0 l0_1 = some r) :
  Calls Tryz.prog 13 #[.agg #[.int .i64 a0_0, .slice A0_1 l0_1.length c0_1]] w fun e w' => e = .returned (.bool r) ∧ Below w.heap.size w w' := by
 have hu26 := Tryz.underlying26
 have hu48 := Tryz.underlying48
 have HR0_1 := Aside0.mk hr0_1
 have HC0_1 := Aside0.mk hc0_1
 clear hr0_1 hc0_1
 have HB := Aside0.mk (Below.refl w.heap.size w)
 have H : ((masterdiscref39_word.f a0_0).bind fun t129 => (if t129 = true then (masterdiscref39_Valid.j0 k (decide ((l0_1.length : Int) > 8)) a0_0 l0_1) else (masterdiscref39_Valid.j0 k true a0_0 l0_1))) = some r := h
 clear h
 have HC2 := Aside0.mk H
 clear H
 go_enter Tryz.func13, Tryz.ntmps13
 go_upto_region 1 with (first | ((with_reducible refine gate_dst (N := 1) rfl ?_); (try (refine gate_guard (by rfl) ?_; dsimp only)); refine box_event ?hg (N := 1) ?hd (cs := #[.int .i64 a0_0, .slice A0_1 l0_1.length c0_1]) (t := 26) ?hr ?_; (case hd => rfl); (case hg => rfl); (case hr => first | (go_simp; done) | (go_simp; rfl)); intro gb128 hg w3 hbox hb; have n0_ := Aside0.mk (below_step (by repeat (first | (with_reducible first | exact HB.out | apply below_alloc | apply pw_below_drewN | apply below_drew1) | exact HB.out)) hb); have n1_ := Aside0.mk (hbox); have n2_ := Aside0.mk ((by rw [hg]; exact (below_size (by repeat (first | (with_reducible first | exact HB.out | apply below_alloc | apply pw_below_drewN | apply below_drew1) | exact HB.out))) : w.heap.size ≤ gb128)); have n3_ := Aside0.mk ((by rw [hg]; exact (below_size (by repeat (first | (with_reducible first | exact HB.out | apply below_alloc | apply pw_below_drewN | apply below_drew1) | exact HB.out))) : w.heap.size ≤ gb128)); clear HB; have HB := n0_; have BK128 := n1_; have GW128 := n2_; have GE128 := n3_; clear n0_ n1_ n2_ n3_; clear hb hbox hg))
 (try simp only [Act.put, List.setIfInBounds_toArray, List.set_cons_zero, List.set_cons_succ])
 go_cut [16] (fun v16 wc => ∃ (kq : Nat) (x16_1 : Bool), v16 = .bool x16_1 ∧ Aside0 (masterdiscref39_Valid.j0 kq x16_1 a0_0 l0_1 = some r) ∧ Aside0 (kq ≤ k) ∧ Aside0 (wc.heap[gb128]? = some (.cells #[.int .i64 a0_0, (.slice A0_1 l0_1.length c0_1)] 26 (0, 0))) ∧ Aside0 (Below w.heap.size w wc))
 case first =>
  have H := HC2.out
  clear HC2
  replace H := Option.bind_eq_some_iff.mp H
  obtain ⟨t129, A40, H⟩ := H
  replace H : (if t129 = true then (masterdiscref39_Valid.j0 k (decide ((l0_1.length : Int) > 8)) a0_0 l0_1) else (masterdiscref39_Valid.j0 k true a0_0 l0_1)) = some r := H
  have A4 := Aside0.mk A40
  clear A40
  by_cases c5 : t129 = true
  ·subst c5
   have H1 : (masterdiscref39_Valid.j0 k (decide ((l0_1.length : Int) > 8)) a0_0 l0_1) = some r := by rw [if_pos rfl] at H; exact H
   clear H
   have H := H1
   clear H1
   have H' := Aside0.mk H
   clear H
   have hcz6_0 : w3.cell? ⟨gb128, 0, none⟩ = some (.int .i64 a0_0) := (blk_cell BK128.out 0).trans rfl
   have hcz6_1 : w3.cell? ⟨gb128, 1, none⟩ = some (.slice A0_1 l0_1.length c0_1) := (blk_cell BK128.out 1).trans rfl
   have hfz6_0 := blk_frozen BK128.out 0
   have hfz6_1 := blk_frozen BK128.out 1
   go_wp2_with (first | ((with_reducible refine gate_callee (f := 28) rfl ?_); refine goesL_ (some 9) rfl rfl Tryz.func28 (by kernel_rfl) rfl #[.int .i64 a0_0] rfl (by (try simp only [List.map_toArray, List.map_cons, List.map_nil]); first | done | rfl | (simp only [List.length_drop, List.length_take]; rfl)) ?_; (with_reducible refine (masterdiscref39_word.calls a0_0 true _ A4.out).mono ?_); rintro e w' ⟨rfl, ⟨nd, rfl⟩⟩; refine ⟨_, rfl, ?_⟩))
   go_meet
   case rel => exact ⟨_, (decide ((l0_1.length : Int) > 8)), (by first | rfl | (simp; done) | (simp [*]; done)), H', ⟨by first | omega | exact Nat.le_refl _⟩, ⟨by (with_reducible repeat (first | refine blk_drewN ?_ _ | refine blk_drew ?_ | refine blk_alloc ?_ _)); exact BK128.out⟩, ⟨by repeat (first | (with_reducible first | exact HB.out | apply below_alloc | apply pw_below_drewN | apply below_drew1 | refine below_set ?_ GE128.out) | exact HB.out)⟩⟩
  ·replace c5 := Bool.eq_false_iff.mpr c5
   subst c5
   have H1 : (masterdiscref39_Valid.j0 k true a0_0 l0_1) = some r := by rw [if_neg (show ¬ (false = true) by decide)] at H; exact H
   clear H
   have H := H1
   clear H1
   have H' := Aside0.mk H
   clear H
   have hcz7_0 : w3.cell? ⟨gb128, 0, none⟩ = some (.int .i64 a0_0) := (blk_cell BK128.out 0).trans rfl
   have hcz7_1 : w3.cell? ⟨gb128, 1, none⟩ = some (.slice A0_1 l0_1.length c0_1) := (blk_cell BK128.out 1).trans rfl
   have hfz7_0 := blk_frozen BK128.out 0
   have hfz7_1 := blk_frozen BK128.out 1
   go_wp2_with (first | ((with_reducible refine gate_callee (f := 28) rfl ?_); refine goesL_ (some 9) rfl rfl Tryz.func28 (by kernel_rfl) rfl #[.int .i64 a0_0] rfl (by (try simp only [List.map_toArray, List.map_cons, List.map_nil]); first | done | rfl | (simp only [List.length_drop, List.length_take]; rfl)) ?_; (with_reducible refine (masterdiscref39_word.calls a0_0 false _ A4.out).mono ?_); rintro e w' ⟨rfl, ⟨nd, rfl⟩⟩; refine ⟨_, rfl, ?_⟩))
   go_meet
   case rel => exact ⟨_, (true), (by first | rfl | (simp; done) | (simp [*]; done)), H', ⟨by first | omega | exact Nat.le_refl _⟩, ⟨by (with_reducible repeat (first | refine blk_drewN ?_ _ | refine blk_drew ?_ | refine blk_alloc ?_ _)); exact BK128.out⟩, ⟨by repeat (first | (with_reducible first | exact HB.out | apply below_alloc | apply pw_below_drewN | apply below_drew1 | refine below_set ?_ GE128.out) | exact HB.out)⟩⟩
 case rest =>
  clear HC2
  try clear c1
  try clear c2
  try clear p2
  try clear c5
  try clear hcz6_0
  try clear hcz6_1
  try clear hcz7_0
  try clear hcz7_1
  try clear hfz6_0
  try clear hfz6_1
  try clear hfz7_0
  try clear hfz7_1
  obtain ⟨kq, x16_1, rfl, HA, HJ1, BK128, HB⟩ := hcut
  cases kq with
  | zero => exact absurd HA.out (by simp [masterdiscref39_Valid.j0])
  | succ kj1 =>
   have H := HA.out
   clear HA
   simp only [masterdiscref39_Valid.j0] at H
   by_cases c8 : x16_1 = true
   ·subst c8
    have H1 : (some false) = some r := by rw [if_pos rfl] at H; exact H
    clear H
    have H := H1
    clear H1
    obtain rfl := Option.some.inj H
    go_wp2
    go_ret
    exact ⟨by first | rfl | (simp [errW_none, errW_some] <;> rfl) | (simp [*, errW_none, errW_some] <;> rfl), by repeat (first | (with_reducible first | exact HB.out | apply below_alloc | apply pw_below_drewN | apply below_drew1 | refine below_set ?_ GE128.out) | exact HB.out)⟩
   ·replace c8 := Bool.eq_false_iff.mpr c8
    subst c8
    have H1 : (masterdiscref39_Valid.l0 kj1 0 a0_0 l0_1) = some r := by rw [if_neg (show ¬ (false = true) by decide)] at H; exact H
    clear H
    have H := H1
    clear H1
    have H' := Aside0.mk H
    clear H
    go_wp2
    go_loopg [3] kj1 (fun kq v3 w' => ∃ (x3_2 : Int), v3 = .int .i64 x3_2 ∧ Aside0 (masterdiscref39_Valid.l0 kq x3_2 a0_0 l0_1 = some r) ∧ Aside0 (kq ≤ kj1) ∧ Aside0 (w'.heap[gb128]? = some (.cells #[.int .i64 a0_0, (.slice A0_1 l0_1.length c0_1)] 26 (0, 0))) ∧ Aside0 (Below w.heap.size w w'))
    case atStart => exact ⟨(0), (by first | rfl | (simp; done) | (simp [*]; done)), H', ⟨Nat.le_refl _⟩, ⟨by (with_reducible repeat (first | refine blk_drewN ?_ _ | refine blk_drew ?_ | refine blk_alloc ?_ _)); exact BK128.out⟩, ⟨by repeat (first | (with_reducible first | exact HB.out | apply below_alloc | apply pw_below_drewN | apply below_drew1 | refine below_set ?_ GE128.out) | exact HB.out)⟩⟩
    case round =>
     clear H'
     try clear c1
     try clear c2
     try clear p2
     try clear c5
     try clear c8
     try clear hcz6_0
     try clear hcz6_1
     try clear hcz7_0
     try clear hcz7_1
     try clear hfz6_0
     try clear hfz6_1
     try clear hfz7_0
     try clear hfz7_1
     try clear p2
     obtain ⟨x3_2, rfl, HA, HK2, BK128, HB⟩ := hrel
     cases gk with
     | zero => exact absurd HA.out (by simp [masterdiscref39_Valid.l0])
     | succ k2 =>
      have H := HA.out
      clear HA
      simp only [masterdiscref39_Valid.l0] at H
      by_cases c9 : x3_2 < (l0_1.length : Int)
      ·rw [if_pos c9] at H
       have c9b0 : decide (x3_2 < (l0_1.length : Int)) = true := decide_eq_true c9
       clear c9
       by_cases c10 : 0 ≤ x3_2
       ·rw [if_pos c10] at H
        have c10b0 : decide (0 ≤ x3_2) = true := decide_eq_true c10
        clear c10
        have HC11 := Aside0.mk H
        clear H
        have hcz12_0 : wr.cell? ⟨gb128, 0, none⟩ = some (.int .i64 a0_0) := (blk_cell BK128.out 0).trans rfl
        have hcz12_1 : wr.cell? ⟨gb128, 1, none⟩ = some (.slice A0_1 l0_1.length c0_1) := (blk_cell BK128.out 1).trans rfl
        have hfz12_0 := blk_frozen BK128.out 0
        have hfz12_1 := blk_frozen BK128.out 1
        have p130 : 0 ≤ (x3_2 : Int) := of_decide_eq_true (by first | (with_reducible assumption) | assumption)
        have q130 : x3_2 < (l0_1.length : Int) := of_decide_eq_true (by first | (with_reducible assumption) | assumption)
        obtain ⟨ad130, e130, hx130_0, hx130_1⟩ := at_T48 HR0_1.out x3_2 p130 q130
        cases e130
        replace hx130_0 := (HB.out.cell (World.block_lt_of_cell? w _ hx130_0)).trans hx130_0
        replace hx130_1 := (HB.out.cell (World.block_lt_of_cell? w _ hx130_1)).trans hx130_1
        replace p130 := eq_true p130
        replace q130 := eq_true q130
        go_upto_region 7 with (first | ((with_reducible refine gate_dst (N := 4) rfl ?_); (try (refine gate_guard (by rfl) ?_; dsimp only)); refine box_event ?hg (N := 4) ?hd (cs := #[.int .i64 0, .int .i64 0]) (t := 48) ?hr ?_; (case hd => rfl); (case hg => rfl); (case hr => first | (go_simp; done) | (go_simp; rfl)); intro gb131 hg w13 hbox hb; have n0_ := Aside0.mk (blk_below (g := gb128) (o := .cells #[.int .i64 a0_0, .slice (some ad130) l0_1.length c0_1] 26 (0, 0)) (by (with_reducible repeat (first | refine blk_drewN ?_ _ | refine blk_drew ?_ | refine blk_alloc ?_ _)); exact BK128.out) hb); have n1_ := Aside0.mk (below_step (by repeat (first | (with_reducible first | exact HB.out | apply below_alloc | apply pw_below_drewN | apply below_drew1 | refine below_set ?_ GE128.out) | exact HB.out)) hb); have n2_ := Aside0.mk (hbox); have n3_ := Aside0.mk ((by rw [hg]; exact (below_size (by repeat (first | (with_reducible first | exact HB.out | apply below_alloc | apply pw_below_drewN | apply below_drew1 | refine below_set ?_ GE128.out) | exact HB.out))) : w.heap.size ≤ gb131)); have n4_ := Aside0.mk ((by rw [hg]; exact (below_size (by repeat (first | (with_reducible first | exact HB.out | apply below_alloc | apply pw_below_drewN | apply below_drew1 | refine below_set ?_ GE128.out) | exact HB.out))) : w.heap.size ≤ gb131)); have n5_ := Aside0.mk ((by rw [hg]; exact Nat.ne_of_lt (blk_lt (g := gb128) (o := .cells #[.int .i64 a0_0, .slice (some ad130) l0_1.length c0_1] 26 (0, 0)) (by (with_reducible repeat (first | refine blk_drewN ?_ _ | refine blk_drew ?_ | refine blk_alloc ?_ _)); exact BK128.out)) : gb128 ≠ gb131)); have n6_ := Aside0.mk ((by rw [hg]; exact Nat.ne_of_gt (blk_lt (g := gb128) (o := .cells #[.int .i64 a0_0, .slice (some ad130) l0_1.length c0_1] 26 (0, 0)) (by (with_reducible repeat (first | refine blk_drewN ?_ _ | refine blk_drew ?_ | refine blk_alloc ?_ _)); exact BK128.out)) : gb131 ≠ gb128)); clear BK128; clear HB; have BK128 := n0_; have HB := n1_; have BK131 := n2_; have GW131 := n3_; have GE131 := n4_; have NB128_131 := n5_; have NB131_128 := n6_; clear n0_ n1_ n2_ n3_ n4_ n5_ n6_; clear hb hbox hg; have hnb14 := NB131_128.out; have hnc14 := NB128_131.out; have hcz15_0 : w13.cell? ⟨gb131, 0, none⟩ = some (.int .i64 0) := (blk_cell BK131.out 0).trans rfl; have hcz15_1 : w13.cell? ⟨gb131, 1, none⟩ = some (.int .i64 0) := (blk_cell BK131.out 1).trans rfl; have hfz15_0 := blk_frozen BK131.out 0; have hfz15_1 := blk_frozen BK131.out 1))
        (try simp only [Act.put, List.setIfInBounds_toArray, List.set_cons_zero, List.set_cons_succ])
        go_cut [49] (fun v49 wc => ∃ (kq : Nat) (x49_10 : Bool), v49 = .bool x49_10 ∧ Aside0 (masterdiscref39_Valid.j2 kq x3_2 x49_10 a0_0 l0_1 ((rd_T48 l0_1 x3_2).f0) ((rd_T48 l0_1 x3_2).f1) = some r) ∧ Aside0 (kq ≤ k2) ∧ Aside0 (wc.heap[gb128]? = some (.cells #[.int .i64 a0_0, (.slice (some ad130) l0_1.length c0_1)] 26 (0, 0))) ∧ Aside0 (wc.heap[gb131]? = some (.cells #[.int .i64 ((rd_T48 l0_1 x3_2).f0), .int .i64 ((rd_T48 l0_1 x3_2).f1)] 48 (0, 0))) ∧ Aside0 (Below w.heap.size w wc))
        case first =>
         have H := HC11.out
         clear HC11
         replace H := Option.bind_eq_some_iff.mp H
         obtain ⟨t132, A160, H⟩ := H
         replace H : (if t132 = true then ((masterdiscref39_word.f ((rd_T48 l0_1 x3_2).f0)).bind fun t133 => (if t133 = true then (if ((rd_T48 l0_1 x3_2).f0) = 4294967295 then (masterdiscref39_Valid.j2 k2 x3_2 false a0_0 l0_1 ((rd_T48 l0_1 x3_2).f0) ((rd_T48 l0_1 x3_2).f1)) else (masterdiscref39_Valid.j2 k2 x3_2 ((Int.tmod ((rd_T48 l0_1 x3_2).f0) 8) != 0) a0_0 l0_1 ((rd_T48 l0_1 x3_2).f0) ((rd_T48 l0_1 x3_2).f1))) else (masterdiscref39_Valid.j2 k2 x3_2 true a0_0 l0_1 ((rd_T48 l0_1 x3_2).f0) ((rd_T48 l0_1 x3_2).f1)))) else (masterdiscref39_Valid.j2 k2 x3_2 true a0_0 l0_1 ((rd_T48 l0_1 x3_2).f0) ((rd_T48 l0_1 x3_2).f1))) = some r := H
         have A16 := Aside0.mk A160
         clear A160
         by_cases c17 : t132 = true
         ·subst c17
          have H1 : ((masterdiscref39_word.f ((rd_T48 l0_1 x3_2).f0)).bind fun t133 => (if t133 = true then (if ((rd_T48 l0_1 x3_2).f0) = 4294967295 then (masterdiscref39_Valid.j2 k2 x3_2 false a0_0 l0_1 ((rd_T48 l0_1 x3_2).f0) ((rd_T48 l0_1 x3_2).f1)) else (masterdiscref39_Valid.j2 k2 x3_2 ((Int.tmod ((rd_T48 l0_1 x3_2).f0) 8) != 0) a0_0 l0_1 ((rd_T48 l0_1 x3_2).f0) ((rd_T48 l0_1 x3_2).f1))) else (masterdiscref39_Valid.j2 k2 x3_2 true a0_0 l0_1 ((rd_T48 l0_1 x3_2).f0) ((rd_T48 l0_1 x3_2).f1)))) = some r := by rw [if_pos rfl] at H; exact H
          clear H
          have H := H1
          clear H1
          replace H := Option.bind_eq_some_iff.mp H
          obtain ⟨t133, A180, H⟩ := H
          replace H : (if t133 = true then (if ((rd_T48 l0_1 x3_2).f0) = 4294967295 then (masterdiscref39_Valid.j2 k2 x3_2 false a0_0 l0_1 ((rd_T48 l0_1 x3_2).f0) ((rd_T48 l0_1 x3_2).f1)) else (masterdiscref39_Valid.j2 k2 x3_2 ((Int.tmod ((rd_T48 l0_1 x3_2).f0) 8) != 0) a0_0 l0_1 ((rd_T48 l0_1 x3_2).f0) ((rd_T48 l0_1 x3_2).f1))) else (masterdiscref39_Valid.j2 k2 x3_2 true a0_0 l0_1 ((rd_T48 l0_1 x3_2).f0) ((rd_T48 l0_1 x3_2).f1))) = some r := H
          have A18 := Aside0.mk A180
          clear A180
          by_cases c19 : t133 = true
          ·subst c19
           have H1 : (if ((rd_T48 l0_1 x3_2).f0) = 4294967295 then (masterdiscref39_Valid.j2 k2 x3_2 false a0_0 l0_1 ((rd_T48 l0_1 x3_2).f0) ((rd_T48 l0_1 x3_2).f1)) else (masterdiscref39_Valid.j2 k2 x3_2 ((Int.tmod ((rd_T48 l0_1 x3_2).f0) 8) != 0) a0_0 l0_1 ((rd_T48 l0_1 x3_2).f0) ((rd_T48 l0_1 x3_2).f1))) = some r := by rw [if_pos rfl] at H; exact H
           clear H
           have H := H1
           clear H1
           by_cases c20 : ((rd_T48 l0_1 x3_2).f0) = 4294967295
           ·rw [if_pos c20] at H
            have c20b0 : (((rd_T48 l0_1 x3_2).f0) == 4294967295) = true := beq_iff_eq.mpr c20
            have c20b1 : (((rd_T48 l0_1 x3_2).f0) != 4294967295) = false := bne_eq_false_iff_eq.mpr c20
            clear c20
            (first | rw [c20b0] | (simp only [i64_w, i32_w]; rw [c20b0]) | skip)
            have H' := Aside0.mk H
            clear H
            have hnb21 := NB131_128.out
            have hnc21 := NB128_131.out
            have hcz22_0 : w13.cell? ⟨gb131, 0, none⟩ = some (.int .i64 0) := (blk_cell BK131.out 0).trans rfl
            have hcz22_1 : w13.cell? ⟨gb131, 1, none⟩ = some (.int .i64 0) := (blk_cell BK131.out 1).trans rfl
            have hfz22_0 := blk_frozen BK131.out 0
            have hfz22_1 := blk_frozen BK131.out 1
            go_wp2_with (first | ((with_reducible refine gate_callee (f := 28) rfl ?_); refine goesL_ (some 31) rfl rfl Tryz.func28 (by kernel_rfl) rfl #[.int .i64 ((rd_T48 l0_1 x3_2).f1)] rfl (by (try simp only [List.map_toArray, List.map_cons, List.map_nil]); first | done | rfl | (simp only [List.length_drop, List.length_take]; rfl)) ?_; (with_reducible refine (masterdiscref39_word.calls ((rd_T48 l0_1 x3_2).f1) true _ A16.out).mono ?_); rintro e w' ⟨rfl, ⟨nd, rfl⟩⟩; refine ⟨_, rfl, ?_⟩) | (go_at_call 28; (with_reducible refine (masterdiscref39_word.calls ((rd_T48 l0_1 x3_2).f0) true _ A18.out).mono ?_); rintro e w' ⟨rfl, ⟨nd, rfl⟩⟩))
            go_meet
            case rel => exact ⟨_, (false), (by first | rfl | (simp; done) | (simp [*]; done)), H', ⟨by have := HJ1.out; have := HK2.out; first | omega | exact Nat.le_refl _⟩, ⟨by (with_reducible repeat (first | refine blk_drewN ?_ _ | refine blk_drew ?_ | refine blk_alloc ?_ _)); refine blk_far ?_ NB128_131.out _; (with_reducible repeat (first | refine blk_drewN ?_ _ | refine blk_drew ?_ | refine blk_alloc ?_ _)); refine blk_far ?_ NB128_131.out _; (with_reducible repeat (first | refine blk_drewN ?_ _ | refine blk_drew ?_ | refine blk_alloc ?_ _)); exact BK128.out⟩, ⟨by (with_reducible repeat (first | refine blk_drewN ?_ _ | refine blk_drew ?_ | refine blk_alloc ?_ _)); refine blk_put (cs := #[.int .i64 ((rd_T48 l0_1 x3_2).f0), .int .i64 0]) ?_ 1 _ rfl; (with_reducible repeat (first | refine blk_drewN ?_ _ | refine blk_drew ?_ | refine blk_alloc ?_ _)); refine blk_put (cs := #[.int .i64 0, .int .i64 0]) ?_ 0 _ rfl; (with_reducible repeat (first | refine blk_drewN ?_ _ | refine blk_drew ?_ | refine blk_alloc ?_ _)); exact BK131.out⟩, ⟨by repeat (first | (with_reducible first | exact HB.out | apply below_alloc | apply pw_below_drewN | apply below_drew1 | refine below_set ?_ GE128.out | refine below_set ?_ GE131.out) | exact HB.out)⟩⟩
           ·rw [if_neg c20] at H
            have c20b0 : (((rd_T48 l0_1 x3_2).f0) == 4294967295) = false := beq_eq_false_iff_ne.mpr c20
            have c20b1 : (((rd_T48 l0_1 x3_2).f0) != 4294967295) = true := bne_iff_ne.mpr c20
            (first | rw [c20b0] | (simp only [i64_w, i32_w]; rw [c20b0]) | skip)
            have H' := Aside0.mk H
            clear H
            have hnb23 := NB131_128.out
            have hnc23 := NB128_131.out
            have hcz24_0 : w13.cell? ⟨gb131, 0, none⟩ = some (.int .i64 0) := (blk_cell BK131.out 0).trans rfl
            have hcz24_1 : w13.cell? ⟨gb131, 1, none⟩ = some (.int .i64 0) := (blk_cell BK131.out 1).trans rfl
            have hfz24_0 := blk_frozen BK131.out 0
            have hfz24_1 := blk_frozen BK131.out 1
            go_wp2_with (first | ((with_reducible refine gate_callee (f := 28) rfl ?_); refine goesL_ (some 31) rfl rfl Tryz.func28 (by kernel_rfl) rfl #[.int .i64 ((rd_T48 l0_1 x3_2).f1)] rfl (by (try simp only [List.map_toArray, List.map_cons, List.map_nil]); first | done | rfl | (simp only [List.length_drop, List.length_take]; rfl)) ?_; (with_reducible refine (masterdiscref39_word.calls ((rd_T48 l0_1 x3_2).f1) true _ A16.out).mono ?_); rintro e w' ⟨rfl, ⟨nd, rfl⟩⟩; refine ⟨_, rfl, ?_⟩) | (go_at_call 28; (with_reducible refine (masterdiscref39_word.calls ((rd_T48 l0_1 x3_2).f0) true _ A18.out).mono ?_); rintro e w' ⟨rfl, ⟨nd, rfl⟩⟩))
            go_meet
            case rel => exact ⟨_, (((Int.tmod ((rd_T48 l0_1 x3_2).f0) 8) != 0)), (by first | rfl | (simp; done) | (simp [*]; done)), H', ⟨by have := HJ1.out; have := HK2.out; first | omega | exact Nat.le_refl _⟩, ⟨by (with_reducible repeat (first | refine blk_drewN ?_ _ | refine blk_drew ?_ | refine blk_alloc ?_ _)); refine blk_far ?_ NB128_131.out _; (with_reducible repeat (first | refine blk_drewN ?_ _ | refine blk_drew ?_ | refine blk_alloc ?_ _)); refine blk_far ?_ NB128_131.out _; (with_reducible repeat (first | refine blk_drewN ?_ _ | refine blk_drew ?_ | refine blk_alloc ?_ _)); exact BK128.out⟩, ⟨by (with_reducible repeat (first | refine blk_drewN ?_ _ | refine blk_drew ?_ | refine blk_alloc ?_ _)); refine blk_put (cs := #[.int .i64 ((rd_T48 l0_1 x3_2).f0), .int .i64 0]) ?_ 1 _ rfl; (with_reducible repeat (first | refine blk_drewN ?_ _ | refine blk_drew ?_ | refine blk_alloc ?_ _)); refine blk_put (cs := #[.int .i64 0, .int .i64 0]) ?_ 0 _ rfl; (with_reducible repeat (first | refine blk_drewN ?_ _ | refine blk_drew ?_ | refine blk_alloc ?_ _)); exact BK131.out⟩, ⟨by repeat (first | (with_reducible first | exact HB.out | apply below_alloc | apply pw_below_drewN | apply below_drew1 | refine below_set ?_ GE128.out | refine below_set ?_ GE131.out) | exact HB.out)⟩⟩
          ·replace c19 := Bool.eq_false_iff.mpr c19
           subst c19
           have H1 : (masterdiscref39_Valid.j2 k2 x3_2 true a0_0 l0_1 ((rd_T48 l0_1 x3_2).f0) ((rd_T48 l0_1 x3_2).f1)) = some r := by rw [if_neg (show ¬ (false = true) by decide)] at H; exact H
           clear H
           have H := H1
           clear H1
           have H' := Aside0.mk H
           clear H
           have hnb25 := NB131_128.out
           have hnc25 := NB128_131.out
           have hcz26_0 : w13.cell? ⟨gb131, 0, none⟩ = some (.int .i64 0) := (blk_cell BK131.out 0).trans rfl
           have hcz26_1 : w13.cell? ⟨gb131, 1, none⟩ = some (.int .i64 0) := (blk_cell BK131.out 1).trans rfl
           have hfz26_0 := blk_frozen BK131.out 0
           have hfz26_1 := blk_frozen BK131.out 1
           go_wp2_with (first | ((with_reducible refine gate_callee (f := 28) rfl ?_); refine goesL_ (some 31) rfl rfl Tryz.func28 (by kernel_rfl) rfl #[.int .i64 ((rd_T48 l0_1 x3_2).f1)] rfl (by (try simp only [List.map_toArray, List.map_cons, List.map_nil]); first | done | rfl | (simp only [List.length_drop, List.length_take]; rfl)) ?_; (with_reducible refine (masterdiscref39_word.calls ((rd_T48 l0_1 x3_2).f1) true _ A16.out).mono ?_); rintro e w' ⟨rfl, ⟨nd, rfl⟩⟩; refine ⟨_, rfl, ?_⟩) | (go_at_call 28; (with_reducible refine (masterdiscref39_word.calls ((rd_T48 l0_1 x3_2).f0) false _ A18.out).mono ?_); rintro e w' ⟨rfl, ⟨nd, rfl⟩⟩))
           go_meet
           case rel => exact ⟨_, (true), (by first | rfl | (simp; done) | (simp [*]; done)), H', ⟨by have := HJ1.out; have := HK2.out; first | omega | exact Nat.le_refl _⟩, ⟨by (with_reducible repeat (first | refine blk_drewN ?_ _ | refine blk_drew ?_ | refine blk_alloc ?_ _)); refine blk_far ?_ NB128_131.out _; (with_reducible repeat (first | refine blk_drewN ?_ _ | refine blk_drew ?_ | refine blk_alloc ?_ _)); refine blk_far ?_ NB128_131.out _; (with_reducible repeat (first | refine blk_drewN ?_ _ | refine blk_drew ?_ | refine blk_alloc ?_ _)); exact BK128.out⟩, ⟨by (with_reducible repeat (first | refine blk_drewN ?_ _ | refine blk_drew ?_ | refine blk_alloc ?_ _)); refine blk_put (cs := #[.int .i64 ((rd_T48 l0_1 x3_2).f0), .int .i64 0]) ?_ 1 _ rfl; (with_reducible repeat (first | refine blk_drewN ?_ _ | refine blk_drew ?_ | refine blk_alloc ?_ _)); refine blk_put (cs := #[.int .i64 0, .int .i64 0]) ?_ 0 _ rfl; (with_reducible repeat (first | refine blk_drewN ?_ _ | refine blk_drew ?_ | refine blk_alloc ?_ _)); exact BK131.out⟩, ⟨by repeat (first | (with_reducible first | exact HB.out | apply below_alloc | apply pw_below_drewN | apply below_drew1 | refine below_set ?_ GE128.out | refine below_set ?_ GE131.out) | exact HB.out)⟩⟩
         ·replace c17 := Bool.eq_false_iff.mpr c17
          subst c17
          have H1 : (masterdiscref39_Valid.j2 k2 x3_2 true a0_0 l0_1 ((rd_T48 l0_1 x3_2).f0) ((rd_T48 l0_1 x3_2).f1)) = some r := by rw [if_neg (show ¬ (false = true) by decide)] at H; exact H
          clear H
          have H := H1
          clear H1
          have H' := Aside0.mk H
          clear H
          have hnb27 := NB131_128.out
          have hnc27 := NB128_131.out
          have hcz28_0 : w13.cell? ⟨gb131, 0, none⟩ = some (.int .i64 0) := (blk_cell BK131.out 0).trans rfl
          have hcz28_1 : w13.cell? ⟨gb131, 1, none⟩ = some (.int .i64 0) := (blk_cell BK131.out 1).trans rfl
          have hfz28_0 := blk_frozen BK131.out 0
          have hfz28_1 := blk_frozen BK131.out 1
          go_wp2_with (first | ((with_reducible refine gate_callee (f := 28) rfl ?_); refine goesL_ (some 31) rfl rfl Tryz.func28 (by kernel_rfl) rfl #[.int .i64 ((rd_T48 l0_1 x3_2).f1)] rfl (by (try simp only [List.map_toArray, List.map_cons, List.map_nil]); first | done | rfl | (simp only [List.length_drop, List.length_take]; rfl)) ?_; (with_reducible refine (masterdiscref39_word.calls ((rd_T48 l0_1 x3_2).f1) false _ A16.out).mono ?_); rintro e w' ⟨rfl, ⟨nd, rfl⟩⟩; refine ⟨_, rfl, ?_⟩))
          go_meet
          case rel => exact ⟨_, (true), (by first | rfl | (simp; done) | (simp [*]; done)), H', ⟨by have := HJ1.out; have := HK2.out; first | omega | exact Nat.le_refl _⟩, ⟨by (with_reducible repeat (first | refine blk_drewN ?_ _ | refine blk_drew ?_ | refine blk_alloc ?_ _)); refine blk_far ?_ NB128_131.out _; (with_reducible repeat (first | refine blk_drewN ?_ _ | refine blk_drew ?_ | refine blk_alloc ?_ _)); refine blk_far ?_ NB128_131.out _; (with_reducible repeat (first | refine blk_drewN ?_ _ | refine blk_drew ?_ | refine blk_alloc ?_ _)); exact BK128.out⟩, ⟨by (with_reducible repeat (first | refine blk_drewN ?_ _ | refine blk_drew ?_ | refine blk_alloc ?_ _)); refine blk_put (cs := #[.int .i64 ((rd_T48 l0_1 x3_2).f0), .int .i64 0]) ?_ 1 _ rfl; (with_reducible repeat (first | refine blk_drewN ?_ _ | refine blk_drew ?_ | refine blk_alloc ?_ _)); refine blk_put (cs := #[.int .i64 0, .int .i64 0]) ?_ 0 _ rfl; (with_reducible repeat (first | refine blk_drewN ?_ _ | refine blk_drew ?_ | refine blk_alloc ?_ _)); exact BK131.out⟩, ⟨by repeat (first | (with_reducible first | exact HB.out | apply below_alloc | apply pw_below_drewN | apply below_drew1 | refine below_set ?_ GE128.out | refine below_set ?_ GE131.out) | exact HB.out)⟩⟩
        case rest =>
         clear HC11
         try clear c1
         try clear p1
         try clear q1
         try clear hx1
         try clear c2
         try clear p2
         try clear c5
         try clear c8
         try clear c9
         try clear c9b0
         try clear c10
         try clear c10b0
         try clear c13
         try clear p13
         try clear q13
         try clear hx13
         try clear c14
         try clear c17
         try clear c19
         try clear c20
         try clear c20b0
         try clear c20b1
         try clear c21
         try clear c23
         try clear c25
         try clear c27
         try clear c28
         try clear hcz12_0
         try clear hcz12_1
         try clear hcz15_0
         try clear hcz15_1
         try clear hcz22_0
         try clear hcz22_1
         try clear hcz24_0
         try clear hcz24_1
         try clear hcz26_0
         try clear hcz26_1
         try clear hcz28_0
         try clear hcz28_1
         try clear hcz6_0
         try clear hcz6_1
         try clear hcz7_0
         try clear hcz7_1
         try clear hfz12_0
         try clear hfz12_1
         try clear hfz15_0
         try clear hfz15_1
         try clear hfz22_0
         try clear hfz22_1
         try clear hfz24_0
         try clear hfz24_1
         try clear hfz26_0
         try clear hfz26_1
         try clear hfz28_0
         try clear hfz28_1
         try clear hfz6_0
         try clear hfz6_1
         try clear hfz7_0
         try clear hfz7_1
         try clear hx130_0
         try clear hx130_1
         try clear p130
         try clear p2
         try clear q130
         obtain ⟨kq, x49_10, rfl, HA, HJ10, BK128, BK131, HB⟩ := hcut
         cases kq with
         | zero => exact absurd HA.out (by simp [masterdiscref39_Valid.j2])
         | succ kj10 =>
          have H := HA.out
          clear HA
          simp only [masterdiscref39_Valid.j2] at H
          by_cases c29 : x49_10 = true
          ·subst c29
           have H1 : (some false) = some r := by rw [if_pos rfl] at H; exact H
           clear H
           have H := H1
           clear H1
           obtain rfl := Option.some.inj H
           go_wp2
           go_ret
           exact ⟨by first | rfl | (simp [errW_none, errW_some] <;> rfl) | (simp [*, errW_none, errW_some] <;> rfl), by repeat (first | (with_reducible first | exact HB.out | apply below_alloc | apply pw_below_drewN | apply below_drew1 | refine below_set ?_ GE128.out | refine below_set ?_ GE131.out) | exact HB.out)⟩
          ·replace c29 := Bool.eq_false_iff.mpr c29
           subst c29
           have H1 : (masterdiscref39_Valid.l1 kj10 x3_2 0 a0_0 l0_1 ((rd_T48 l0_1 x3_2).f0) ((rd_T48 l0_1 x3_2).f1)) = some r := by rw [if_neg (show ¬ (false = true) by decide)] at H; exact H
           clear H
           have H := H1
           clear H1
           have H' := Aside0.mk H
           clear H
           go_wp2
           go_loopg [5] kj10 (fun kq v5 w' => ∃ (x5_4 : Int), v5 = .int .i64 x5_4 ∧ Aside0 (masterdiscref39_Valid.l1 kq x3_2 x5_4 a0_0 l0_1 ((rd_T48 l0_1 x3_2).f0) ((rd_T48 l0_1 x3_2).f1) = some r) ∧ Aside0 (kq ≤ kj10) ∧ Aside0 (w'.heap[gb128]? = some (.cells #[.int .i64 a0_0, (.slice (some ad130) l0_1.length c0_1)] 26 (0, 0))) ∧ Aside0 (w'.heap[gb131]? = some (.cells #[.int .i64 ((rd_T48 l0_1 x3_2).f0), .int .i64 ((rd_T48 l0_1 x3_2).f1)] 48 (0, 0))) ∧ Aside0 (Below w.heap.size w w'))
           case atStart => exact ⟨(0), (by first | rfl | (simp; done) | (simp [*]; done)), H', ⟨Nat.le_refl _⟩, ⟨by (with_reducible repeat (first | refine blk_drewN ?_ _ | refine blk_drew ?_ | refine blk_alloc ?_ _)); exact BK128.out⟩, ⟨by (with_reducible repeat (first | refine blk_drewN ?_ _ | refine blk_drew ?_ | refine blk_alloc ?_ _)); exact BK131.out⟩, ⟨by repeat (first | (with_reducible first | exact HB.out | apply below_alloc | apply pw_below_drewN | apply below_drew1 | refine below_set ?_ GE128.out | refine below_set ?_ GE131.out) | exact HB.out)⟩⟩
           case round =>
            clear H'
            try clear c1
            try clear p1
            try clear q1
            try clear hx1
            try clear c2
            try clear p2
            try clear c5
            try clear c8
            try clear c9
            try clear c9b0
            try clear c10
            try clear c10b0
            try clear c13
            try clear p13
            try clear q13
            try clear hx13
            try clear c14
            try clear c17
            try clear c19
            try clear c20
            try clear c20b0
            try clear c20b1
            try clear c21
            try clear c23
            try clear c25
            try clear c27
            try clear c28
            try clear c29
            try clear hcz12_0
            try clear hcz12_1
            try clear hcz15_0
            try clear hcz15_1
            try clear hcz22_0
            try clear hcz22_1
            try clear hcz24_0
            try clear hcz24_1
            try clear hcz26_0
            try clear hcz26_1
            try clear hcz28_0
            try clear hcz28_1
            try clear hcz6_0
            try clear hcz6_1
            try clear hcz7_0
            try clear hcz7_1
            try clear hfz12_0
            try clear hfz12_1
            try clear hfz15_0
            try clear hfz15_1
            try clear hfz22_0
            try clear hfz22_1
            try clear hfz24_0
            try clear hfz24_1
            try clear hfz26_0
            try clear hfz26_1
            try clear hfz28_0
            try clear hfz28_1
            try clear hfz6_0
            try clear hfz6_1
            try clear hfz7_0
            try clear hfz7_1
            try clear hx130_0
            try clear hx130_1
            try clear p1
            try clear p13
            try clear p130
            try clear p2
            try clear q1
            try clear q13
            try clear q130
            obtain ⟨x5_4, rfl, HA, HK4, BK128, BK131, HB⟩ := hrel
            cases gk with
            | zero => exact absurd HA.out (by simp [masterdiscref39_Valid.l1])
            | succ k4 =>
             have H := HA.out
             clear HA
             simp only [masterdiscref39_Valid.l1] at H
             by_cases c30 : x5_4 < x3_2
             ·rw [if_pos c30] at H
              have c30b0 : decide (x5_4 < x3_2) = true := decide_eq_true c30
              clear c30
              by_cases c31 : 0 ≤ x5_4
              ·rw [if_pos c31] at H
               have c31b0 : decide (0 ≤ x5_4) = true := decide_eq_true c31
               clear c31
               by_cases c32 : x5_4 < (l0_1.length : Int)
               ·rw [if_pos c32] at H
                have c32b0 : decide (x5_4 < (l0_1.length : Int)) = true := decide_eq_true c32
                clear c32
                by_cases c33 : ((rd_T48 l0_1 x5_4).f0) > ((rd_T48 l0_1 x3_2).f0)
                ·rw [if_pos c33] at H
                 have c33b0 : decide (((rd_T48 l0_1 x3_2).f0) < ((rd_T48 l0_1 x5_4).f0)) = true := decide_eq_true c33
                 clear c33
                 obtain rfl := Option.some.inj H
                 have hnb34 := NB128_131.out
                 have hnc34 := NB131_128.out
                 have hcz35_0 : wr.cell? ⟨gb128, 0, none⟩ = some (.int .i64 a0_0) := (blk_cell BK128.out 0).trans rfl
                 have hcz35_1 : wr.cell? ⟨gb128, 1, none⟩ = some (.slice (some ad130) l0_1.length c0_1) := (blk_cell BK128.out 1).trans rfl
                 have hfz35_0 := blk_frozen BK128.out 0
                 have hfz35_1 := blk_frozen BK128.out 1
                 have p134 : 0 ≤ (x5_4 : Int) := of_decide_eq_true (by first | (with_reducible assumption) | assumption)
                 have q134 : x5_4 < (l0_1.length : Int) := of_decide_eq_true (by first | (with_reducible assumption) | assumption)
                 obtain ⟨ad134, e134, hx134_0, hx134_1⟩ := at_T48 HR0_1.out x5_4 p134 q134
                 obtain rfl : ad130 = ad134 := (by injection e134)
                 replace hx134_0 := (HB.out.cell (World.block_lt_of_cell? w _ hx134_0)).trans hx134_0
                 replace hx134_1 := (HB.out.cell (World.block_lt_of_cell? w _ hx134_1)).trans hx134_1
                 replace p134 := eq_true p134
                 replace q134 := eq_true q134
                 go_wp2_with (first | ((with_reducible refine gate_dst (N := 6) rfl ?_); (try (refine gate_guard (by rfl) ?_; dsimp only)); refine box_event ?hg (N := 6) ?hd (cs := #[.int .i64 0, .int .i64 0]) (t := 48) ?hr ?_; (case hd => rfl); (case hg => rfl); (case hr => first | (go_simp; done) | (go_simp; rfl)); intro gb135 hg w36 hbox hb; have n0_ := Aside0.mk (blk_below (g := gb128) (o := .cells #[.int .i64 a0_0, .slice (some ad130) l0_1.length c0_1] 26 (0, 0)) (by (with_reducible repeat (first | refine blk_drewN ?_ _ | refine blk_drew ?_ | refine blk_alloc ?_ _)); exact BK128.out) hb); have n1_ := Aside0.mk (blk_below (g := gb131) (o := .cells #[.int .i64 ((rd_T48 l0_1 x3_2).f0), .int .i64 ((rd_T48 l0_1 x3_2).f1)] 48 (0, 0)) (by (with_reducible repeat (first | refine blk_drewN ?_ _ | refine blk_drew ?_ | refine blk_alloc ?_ _)); exact BK131.out) hb); have n2_ := Aside0.mk (below_step (by repeat (first | (with_reducible first | exact HB.out | apply below_alloc | apply pw_below_drewN | apply below_drew1 | refine below_set ?_ GE128.out | refine below_set ?_ GE131.out) | exact HB.out)) hb); have n3_ := Aside0.mk (hbox); have n4_ := Aside0.mk ((by rw [hg]; exact (below_size (by repeat (first | (with_reducible first | exact HB.out | apply below_alloc | apply pw_below_drewN | apply below_drew1 | refine below_set ?_ GE128.out | refine below_set ?_ GE131.out) | exact HB.out))) : w.heap.size ≤ gb135)); have n5_ := Aside0.mk ((by rw [hg]; exact (below_size (by repeat (first | (with_reducible first | exact HB.out | apply below_alloc | apply pw_below_drewN | apply below_drew1 | refine below_set ?_ GE128.out | refine below_set ?_ GE131.out) | exact HB.out))) : w.heap.size ≤ gb135)); have n6_ := Aside0.mk ((by rw [hg]; exact Nat.ne_of_lt (blk_lt (g := gb128) (o := .cells #[.int .i64 a0_0, .slice (some ad130) l0_1.length c0_1] 26 (0, 0)) (by (with_reducible repeat (first | refine blk_drewN ?_ _ | refine blk_drew ?_ | refine blk_alloc ?_ _)); exact BK128.out)) : gb128 ≠ gb135)); have n7_ := Aside0.mk ((by rw [hg]; exact Nat.ne_of_gt (blk_lt (g := gb128) (o := .cells #[.int .i64 a0_0, .slice (some ad130) l0_1.length c0_1] 26 (0, 0)) (by (with_reducible repeat (first | refine blk_drewN ?_ _ | refine blk_drew ?_ | refine blk_alloc ?_ _)); exact BK128.out)) : gb135 ≠ gb128)); have n8_ := Aside0.mk ((by rw [hg]; exact Nat.ne_of_lt (blk_lt (g := gb131) (o := .cells #[.int .i64 ((rd_T48 l0_1 x3_2).f0), .int .i64 ((rd_T48 l0_1 x3_2).f1)] 48 (0, 0)) (by (with_reducible repeat (first | refine blk_drewN ?_ _ | refine blk_drew ?_ | refine blk_alloc ?_ _)); exact BK131.out)) : gb131 ≠ gb135)); have n9_ := Aside0.mk ((by rw [hg]; exact Nat.ne_of_gt (blk_lt (g := gb131) (o := .cells #[.int .i64 ((rd_T48 l0_1 x3_2).f0), .int .i64 ((rd_T48 l0_1 x3_2).f1)] 48 (0, 0)) (by (with_reducible repeat (first | refine blk_drewN ?_ _ | refine blk_drew ?_ | refine blk_alloc ?_ _)); exact BK131.out)) : gb135 ≠ gb131)); clear BK128; clear BK131; clear HB; have BK128 := n0_; have BK131 := n1_; have HB := n2_; have BK135 := n3_; have GW135 := n4_; have GE135 := n5_; have NB128_135 := n6_; have NB135_128 := n7_; have NB131_135 := n8_; have NB135_131 := n9_; clear n0_ n1_ n2_ n3_ n4_ n5_ n6_ n7_ n8_ n9_; clear hb hbox hg; have hnb37 := NB135_128.out; have hnc37 := NB128_135.out; have hnb38 := NB135_131.out; have hnc38 := NB131_135.out; have hcz39_0 : w36.cell? ⟨gb135, 0, none⟩ = some (.int .i64 0) := (blk_cell BK135.out 0).trans rfl; have hcz39_1 : w36.cell? ⟨gb135, 1, none⟩ = some (.int .i64 0) := (blk_cell BK135.out 1).trans rfl; have hfz39_0 := blk_frozen BK135.out 0; have hfz39_1 := blk_frozen BK135.out 1; have hcz40_0 : w36.cell? ⟨gb131, 0, none⟩ = some (.int .i64 ((rd_T48 l0_1 x3_2).f0)) := (blk_cell BK131.out 0).trans rfl; have hcz40_1 : w36.cell? ⟨gb131, 1, none⟩ = some (.int .i64 ((rd_T48 l0_1 x3_2).f1)) := (blk_cell BK131.out 1).trans rfl; have hfz40_0 := blk_frozen BK131.out 0; have hfz40_1 := blk_frozen BK131.out 1))
                 go_ret
                 exact ⟨by first | rfl | (simp [errW_none, errW_some] <;> rfl) | (simp [*, errW_none, errW_some] <;> rfl), by repeat (first | (with_reducible first | exact HB.out | apply below_alloc | apply pw_below_drewN | apply below_drew1 | refine below_set ?_ GE128.out | refine below_set ?_ GE131.out | refine below_set ?_ GE135.out) | exact HB.out)⟩
                ·rw [if_neg c33] at H
                 have c33b0 : decide (((rd_T48 l0_1 x3_2).f0) < ((rd_T48 l0_1 x5_4).f0)) = false := decide_eq_false c33
                 clear c33
                 by_cases c41 : ((rd_T48 l0_1 x5_4).f0) = ((rd_T48 l0_1 x3_2).f0)
                 ·rw [if_pos c41] at H
                  have c41b0 : (((rd_T48 l0_1 x5_4).f0) == ((rd_T48 l0_1 x3_2).f0)) = true := beq_iff_eq.mpr c41
                  have c41b1 : (((rd_T48 l0_1 x5_4).f0) != ((rd_T48 l0_1 x3_2).f0)) = false := bne_eq_false_iff_eq.mpr c41
                  clear c41
                  by_cases c42 : ((rd_T48 l0_1 x3_2).f0) = 4294967295
                  ·rw [if_pos c42] at H
                   have c42b0 : (((rd_T48 l0_1 x3_2).f0) == 4294967295) = true := beq_iff_eq.mpr c42
                   have c42b1 : (((rd_T48 l0_1 x3_2).f0) != 4294967295) = false := bne_eq_false_iff_eq.mpr c42
                   clear c42
                   obtain ⟨ji43, hji43⟩ : ∃ j_ : Int, (mx ((rd_T48 l0_1 x3_2).f1) ((rd_T48 l0_1 x5_4).f1)) = j_ := ⟨_, rfl⟩
                   replace H : (if (wrap64 ((ji43) - (mn ((rd_T48 l0_1 x3_2).f1) ((rd_T48 l0_1 x5_4).f1)))) < 8 then (some false) else (masterdiscref39_Valid.l1 k4 x3_2 (wrap64 (x5_4 + 1)) a0_0 l0_1 ((rd_T48 l0_1 x3_2).f0) ((rd_T48 l0_1 x3_2).f1))) = some r := by first | (rw [hji43] at H; exact H) | (simp only [hji43] at H ⊢; exact H)
                   have hji43_ : (if ((rd_T48 l0_1 x3_2).f1) < ((rd_T48 l0_1 x5_4).f1) then ((rd_T48 l0_1 x5_4).f1) else ((rd_T48 l0_1 x3_2).f1)) = ji43 := hji43
                   obtain ⟨ji44, hji44⟩ : ∃ j_ : Int, (mn ((rd_T48 l0_1 x3_2).f1) ((rd_T48 l0_1 x5_4).f1)) = j_ := ⟨_, rfl⟩
                   replace H : (if (wrap64 ((ji43) - (ji44))) < 8 then (some false) else (masterdiscref39_Valid.l1 k4 x3_2 (wrap64 (x5_4 + 1)) a0_0 l0_1 ((rd_T48 l0_1 x3_2).f0) ((rd_T48 l0_1 x3_2).f1))) = some r := by first | (rw [hji44] at H; exact H) | (simp only [hji44] at H ⊢; exact H)
                   have hji44_ : (if ((rd_T48 l0_1 x5_4).f1) < ((rd_T48 l0_1 x3_2).f1) then ((rd_T48 l0_1 x5_4).f1) else ((rd_T48 l0_1 x3_2).f1)) = ji44 := hji44
                   by_cases c45 : (wrap64 ((ji43) - (ji44))) < 8
                   ·rw [if_pos c45] at H
                    have c45b0 : decide ((wrap64 ((ji43) - (ji44))) < 8) = true := decide_eq_true c45
                    clear c45
                    obtain rfl := Option.some.inj H
                    have hnb46 := NB128_131.out
                    have hnc46 := NB131_128.out
                    have hcz47_0 : wr.cell? ⟨gb128, 0, none⟩ = some (.int .i64 a0_0) := (blk_cell BK128.out 0).trans rfl
                    have hcz47_1 : wr.cell? ⟨gb128, 1, none⟩ = some (.slice (some ad130) l0_1.length c0_1) := (blk_cell BK128.out 1).trans rfl
                    have hfz47_0 := blk_frozen BK128.out 0
                    have hfz47_1 := blk_frozen BK128.out 1
                    have p134 : 0 ≤ (x5_4 : Int) := of_decide_eq_true (by first | (with_reducible assumption) | assumption)
                    have q134 : x5_4 < (l0_1.length : Int) := of_decide_eq_true (by first | (with_reducible assumption) | assumption)
                    obtain ⟨ad134, e134, hx134_0, hx134_1⟩ := at_T48 HR0_1.out x5_4 p134 q134
                    obtain rfl : ad130 = ad134 := (by injection e134)
                    replace hx134_0 := (HB.out.cell (World.block_lt_of_cell? w _ hx134_0)).trans hx134_0
                    replace hx134_1 := (HB.out.cell (World.block_lt_of_cell? w _ hx134_1)).trans hx134_1
                    replace p134 := eq_true p134
                    replace q134 := eq_true q134
                    go_wp2_with (first | ((with_reducible refine gate_dst (N := 6) rfl ?_); (try (refine gate_guard (by rfl) ?_; dsimp only)); refine box_event ?hg (N := 6) ?hd (cs := #[.int .i64 0, .int .i64 0]) (t := 48) ?hr ?_; (case hd => rfl); (case hg => rfl); (case hr => first | (go_simp; done) | (go_simp; rfl)); intro gb135 hg w48 hbox hb; have n0_ := Aside0.mk (blk_below (g := gb128) (o := .cells #[.int .i64 a0_0, .slice (some ad130) l0_1.length c0_1] 26 (0, 0)) (by (with_reducible repeat (first | refine blk_drewN ?_ _ | refine blk_drew ?_ | refine blk_alloc ?_ _)); exact BK128.out) hb); have n1_ := Aside0.mk (blk_below (g := gb131) (o := .cells #[.int .i64 ((rd_T48 l0_1 x3_2).f0), .int .i64 ((rd_T48 l0_1 x3_2).f1)] 48 (0, 0)) (by (with_reducible repeat (first | refine blk_drewN ?_ _ | refine blk_drew ?_ | refine blk_alloc ?_ _)); exact BK131.out) hb); have n2_ := Aside0.mk (below_step (by repeat (first | (with_reducible first | exact HB.out | apply below_alloc | apply pw_below_drewN | apply below_drew1 | refine below_set ?_ GE128.out | refine below_set ?_ GE131.out) | exact HB.out)) hb); have n3_ := Aside0.mk (hbox); have n4_ := Aside0.mk ((by rw [hg]; exact (below_size (by repeat (first | (with_reducible first | exact HB.out | apply below_alloc | apply pw_below_drewN | apply below_drew1 | refine below_set ?_ GE128.out | refine below_set ?_ GE131.out) | exact HB.out))) : w.heap.size ≤ gb135)); have n5_ := Aside0.mk ((by rw [hg]; exact (below_size (by repeat (first | (with_reducible first | exact HB.out | apply below_alloc | apply pw_below_drewN | apply below_drew1 | refine below_set ?_ GE128.out | refine below_set ?_ GE131.out) | exact HB.out))) : w.heap.size ≤ gb135)); have n6_ := Aside0.mk ((by rw [hg]; exact Nat.ne_of_lt (blk_lt (g := gb128) (o := .cells #[.int .i64 a0_0, .slice (some ad130) l0_1.length c0_1] 26 (0, 0)) (by (with_reducible repeat (first | refine blk_drewN ?_ _ | refine blk_drew ?_ | refine blk_alloc ?_ _)); exact BK128.out)) : gb128 ≠ gb135)); have n7_ := Aside0.mk ((by rw [hg]; exact Nat.ne_of_gt (blk_lt (g := gb128) (o := .cells #[.int .i64 a0_0, .slice (some ad130) l0_1.length c0_1] 26 (0, 0)) (by (with_reducible repeat (first | refine blk_drewN ?_ _ | refine blk_drew ?_ | refine blk_alloc ?_ _)); exact BK128.out)) : gb135 ≠ gb128)); have n8_ := Aside0.mk ((by rw [hg]; exact Nat.ne_of_lt (blk_lt (g := gb131) (o := .cells #[.int .i64 ((rd_T48 l0_1 x3_2).f0), .int .i64 ((rd_T48 l0_1 x3_2).f1)] 48 (0, 0)) (by (with_reducible repeat (first | refine blk_drewN ?_ _ | refine blk_drew ?_ | refine blk_alloc ?_ _)); exact BK131.out)) : gb131 ≠ gb135)); have n9_ := Aside0.mk ((by rw [hg]; exact Nat.ne_of_gt (blk_lt (g := gb131) (o := .cells #[.int .i64 ((rd_T48 l0_1 x3_2).f0), .int .i64 ((rd_T48 l0_1 x3_2).f1)] 48 (0, 0)) (by (with_reducible repeat (first | refine blk_drewN ?_ _ | refine blk_drew ?_ | refine blk_alloc ?_ _)); exact BK131.out)) : gb135 ≠ gb131)); clear BK128; clear BK131; clear HB; have BK128 := n0_; have BK131 := n1_; have HB := n2_; have BK135 := n3_; have GW135 := n4_; have GE135 := n5_; have NB128_135 := n6_; have NB135_128 := n7_; have NB131_135 := n8_; have NB135_131 := n9_; clear n0_ n1_ n2_ n3_ n4_ n5_ n6_ n7_ n8_ n9_; clear hb hbox hg; have hnb49 := NB135_128.out; have hnc49 := NB128_135.out; have hnb50 := NB135_131.out; have hnc50 := NB131_135.out; have hcz51_0 : w48.cell? ⟨gb135, 0, none⟩ = some (.int .i64 0) := (blk_cell BK135.out 0).trans rfl; have hcz51_1 : w48.cell? ⟨gb135, 1, none⟩ = some (.int .i64 0) := (blk_cell BK135.out 1).trans rfl; have hfz51_0 := blk_frozen BK135.out 0; have hfz51_1 := blk_frozen BK135.out 1; have hcz52_0 : w48.cell? ⟨gb131, 0, none⟩ = some (.int .i64 ((rd_T48 l0_1 x3_2).f0)) := (blk_cell BK131.out 0).trans rfl; have hcz52_1 : w48.cell? ⟨gb131, 1, none⟩ = some (.int .i64 ((rd_T48 l0_1 x3_2).f1)) := (blk_cell BK131.out 1).trans rfl; have hfz52_0 := blk_frozen BK131.out 0; have hfz52_1 := blk_frozen BK131.out 1))
                    go_ret
                    exact ⟨by first | rfl | (simp [errW_none, errW_some] <;> rfl) | (simp only [← hji43, ← hji44]; first | rfl | (simp [errW_none, errW_some] <;> rfl)) | (simp [*, errW_none, errW_some] <;> rfl), by repeat (first | (with_reducible first | exact HB.out | apply below_alloc | apply pw_below_drewN | apply below_drew1 | refine below_set ?_ GE128.out | refine below_set ?_ GE131.out | refine below_set ?_ GE135.out) | exact HB.out)⟩
                   ·rw [if_neg c45] at H
                    have c45b0 : decide ((wrap64 ((ji43) - (ji44))) < 8) = false := decide_eq_false c45
                    clear c45
                    have H' := Aside0.mk H
                    clear H
                    have hnb53 := NB128_131.out
                    have hnc53 := NB131_128.out
                    have hcz54_0 : wr.cell? ⟨gb128, 0, none⟩ = some (.int .i64 a0_0) := (blk_cell BK128.out 0).trans rfl
                    have hcz54_1 : wr.cell? ⟨gb128, 1, none⟩ = some (.slice (some ad130) l0_1.length c0_1) := (blk_cell BK128.out 1).trans rfl
                    have hfz54_0 := blk_frozen BK128.out 0
                    have hfz54_1 := blk_frozen BK128.out 1
                    have p134 : 0 ≤ (x5_4 : Int) := of_decide_eq_true (by first | (with_reducible assumption) | assumption)
                    have q134 : x5_4 < (l0_1.length : Int) := of_decide_eq_true (by first | (with_reducible assumption) | assumption)
                    obtain ⟨ad134, e134, hx134_0, hx134_1⟩ := at_T48 HR0_1.out x5_4 p134 q134
                    obtain rfl : ad130 = ad134 := (by injection e134)
                    replace hx134_0 := (HB.out.cell (World.block_lt_of_cell? w _ hx134_0)).trans hx134_0
                    replace hx134_1 := (HB.out.cell (World.block_lt_of_cell? w _ hx134_1)).trans hx134_1
                    replace p134 := eq_true p134
                    replace q134 := eq_true q134
                    go_wp2_with (first | ((with_reducible refine gate_dst (N := 6) rfl ?_); (try (refine gate_guard (by rfl) ?_; dsimp only)); refine box_event ?hg (N := 6) ?hd (cs := #[.int .i64 0, .int .i64 0]) (t := 48) ?hr ?_; (case hd => rfl); (case hg => rfl); (case hr => first | (go_simp; done) | (go_simp; rfl)); intro gb135 hg w55 hbox hb; have n0_ := Aside0.mk (blk_below (g := gb128) (o := .cells #[.int .i64 a0_0, .slice (some ad130) l0_1.length c0_1] 26 (0, 0)) (by (with_reducible repeat (first | refine blk_drewN ?_ _ | refine blk_drew ?_ | refine blk_alloc ?_ _)); exact BK128.out) hb); have n1_ := Aside0.mk (blk_below (g := gb131) (o := .cells #[.int .i64 ((rd_T48 l0_1 x3_2).f0), .int .i64 ((rd_T48 l0_1 x3_2).f1)] 48 (0, 0)) (by (with_reducible repeat (first | refine blk_drewN ?_ _ | refine blk_drew ?_ | refine blk_alloc ?_ _)); exact BK131.out) hb); have n2_ := Aside0.mk (below_step (by repeat (first | (with_reducible first | exact HB.out | apply below_alloc | apply pw_below_drewN | apply below_drew1 | refine below_set ?_ GE128.out | refine below_set ?_ GE131.out) | exact HB.out)) hb); have n3_ := Aside0.mk (hbox); have n4_ := Aside0.mk ((by rw [hg]; exact (below_size (by repeat (first | (with_reducible first | exact HB.out | apply below_alloc | apply pw_below_drewN | apply below_drew1 | refine below_set ?_ GE128.out | refine below_set ?_ GE131.out) | exact HB.out))) : w.heap.size ≤ gb135)); have n5_ := Aside0.mk ((by rw [hg]; exact (below_size (by repeat (first | (with_reducible first | exact HB.out | apply below_alloc | apply pw_below_drewN | apply below_drew1 | refine below_set ?_ GE128.out | refine below_set ?_ GE131.out) | exact HB.out))) : w.heap.size ≤ gb135)); have n6_ := Aside0.mk ((by rw [hg]; exact Nat.ne_of_lt (blk_lt (g := gb128) (o := .cells #[.int .i64 a0_0, .slice (some ad130) l0_1.length c0_1] 26 (0, 0)) (by (with_reducible repeat (first | refine blk_drewN ?_ _ | refine blk_drew ?_ | refine blk_alloc ?_ _)); exact BK128.out)) : gb128 ≠ gb135)); have n7_ := Aside0.mk ((by rw [hg]; exact Nat.ne_of_gt (blk_lt (g := gb128) (o := .cells #[.int .i64 a0_0, .slice (some ad130) l0_1.length c0_1] 26 (0, 0)) (by (with_reducible repeat (first | refine blk_drewN ?_ _ | refine blk_drew ?_ | refine blk_alloc ?_ _)); exact BK128.out)) : gb135 ≠ gb128)); have n8_ := Aside0.mk ((by rw [hg]; exact Nat.ne_of_lt (blk_lt (g := gb131) (o := .cells #[.int .i64 ((rd_T48 l0_1 x3_2).f0), .int .i64 ((rd_T48 l0_1 x3_2).f1)] 48 (0, 0)) (by (with_reducible repeat (first | refine blk_drewN ?_ _ | refine blk_drew ?_ | refine blk_alloc ?_ _)); exact BK131.out)) : gb131 ≠ gb135)); have n9_ := Aside0.mk ((by rw [hg]; exact Nat.ne_of_gt (blk_lt (g := gb131) (o := .cells #[.int .i64 ((rd_T48 l0_1 x3_2).f0), .int .i64 ((rd_T48 l0_1 x3_2).f1)] 48 (0, 0)) (by (with_reducible repeat (first | refine blk_drewN ?_ _ | refine blk_drew ?_ | refine blk_alloc ?_ _)); exact BK131.out)) : gb135 ≠ gb131)); clear BK128; clear BK131; clear HB; have BK128 := n0_; have BK131 := n1_; have HB := n2_; have BK135 := n3_; have GW135 := n4_; have GE135 := n5_; have NB128_135 := n6_; have NB135_128 := n7_; have NB131_135 := n8_; have NB135_131 := n9_; clear n0_ n1_ n2_ n3_ n4_ n5_ n6_ n7_ n8_ n9_; clear hb hbox hg; have hnb56 := NB135_128.out; have hnc56 := NB128_135.out; have hnb57 := NB135_131.out; have hnc57 := NB131_135.out; have hcz58_0 : w55.cell? ⟨gb135, 0, none⟩ = some (.int .i64 0) := (blk_cell BK135.out 0).trans rfl; have hcz58_1 : w55.cell? ⟨gb135, 1, none⟩ = some (.int .i64 0) := (blk_cell BK135.out 1).trans rfl; have hfz58_0 := blk_frozen BK135.out 0; have hfz58_1 := blk_frozen BK135.out 1; have hcz59_0 : w55.cell? ⟨gb131, 0, none⟩ = some (.int .i64 ((rd_T48 l0_1 x3_2).f0)) := (blk_cell BK131.out 0).trans rfl; have hcz59_1 : w55.cell? ⟨gb131, 1, none⟩ = some (.int .i64 ((rd_T48 l0_1 x3_2).f1)) := (blk_cell BK131.out 1).trans rfl; have hfz59_0 := blk_frozen BK131.out 0; have hfz59_1 := blk_frozen BK131.out 1))
                    go_roundg k4
                    case measure => have := HJ1.out; have := HK2.out; have := HJ10.out; have := HK4.out; omega
                    case rel => exact ⟨(wrap64 (x5_4 + 1)), (by first | rfl | (simp; done) | (simp [*]; done)), H', ⟨by have := HJ1.out; have := HK2.out; have := HJ10.out; have := HK4.out; omega⟩, ⟨by (with_reducible repeat (first | refine blk_drewN ?_ _ | refine blk_drew ?_ | refine blk_alloc ?_ _)); refine blk_far ?_ NB128_135.out _; (with_reducible repeat (first | refine blk_drewN ?_ _ | refine blk_drew ?_ | refine blk_alloc ?_ _)); refine blk_far ?_ NB128_135.out _; (with_reducible repeat (first | refine blk_drewN ?_ _ | refine blk_drew ?_ | refine blk_alloc ?_ _)); exact BK128.out⟩, ⟨by (with_reducible repeat (first | refine blk_drewN ?_ _ | refine blk_drew ?_ | refine blk_alloc ?_ _)); refine blk_far ?_ NB131_135.out _; (with_reducible repeat (first | refine blk_drewN ?_ _ | refine blk_drew ?_ | refine blk_alloc ?_ _)); refine blk_far ?_ NB131_135.out _; (with_reducible repeat (first | refine blk_drewN ?_ _ | refine blk_drew ?_ | refine blk_alloc ?_ _)); exact BK131.out⟩, ⟨by repeat (first | (with_reducible first | exact HB.out | apply below_alloc | apply pw_below_drewN | apply below_drew1 | refine below_set ?_ GE128.out | refine below_set ?_ GE131.out | refine below_set ?_ GE135.out) | exact HB.out)⟩⟩
                  ·rw [if_neg c42] at H
                   have c42b0 : (((rd_T48 l0_1 x3_2).f0) == 4294967295) = false := beq_eq_false_iff_ne.mpr c42
                   have c42b1 : (((rd_T48 l0_1 x3_2).f0) != 4294967295) = true := bne_iff_ne.mpr c42
                   obtain rfl := Option.some.inj H
                   have hnb60 := NB128_131.out
                   have hnc60 := NB131_128.out
                   have hcz61_0 : wr.cell? ⟨gb128, 0, none⟩ = some (.int .i64 a0_0) := (blk_cell BK128.out 0).trans rfl
                   have hcz61_1 : wr.cell? ⟨gb128, 1, none⟩ = some (.slice (some ad130) l0_1.length c0_1) := (blk_cell BK128.out 1).trans rfl
                   have hfz61_0 := blk_frozen BK128.out 0
                   have hfz61_1 := blk_frozen BK128.out 1
                   have p134 : 0 ≤ (x5_4 : Int) := of_decide_eq_true (by first | (with_reducible assumption) | assumption)
                   have q134 : x5_4 < (l0_1.length : Int) := of_decide_eq_true (by first | (with_reducible assumption) | assumption)
                   obtain ⟨ad134, e134, hx134_0, hx134_1⟩ := at_T48 HR0_1.out x5_4 p134 q134
                   obtain rfl : ad130 = ad134 := (by injection e134)
                   replace hx134_0 := (HB.out.cell (World.block_lt_of_cell? w _ hx134_0)).trans hx134_0
                   replace hx134_1 := (HB.out.cell (World.block_lt_of_cell? w _ hx134_1)).trans hx134_1
                   replace p134 := eq_true p134
                   replace q134 := eq_true q134
                   go_wp2_with (first | ((with_reducible refine gate_dst (N := 6) rfl ?_); (try (refine gate_guard (by rfl) ?_; dsimp only)); refine box_event ?hg (N := 6) ?hd (cs := #[.int .i64 0, .int .i64 0]) (t := 48) ?hr ?_; (case hd => rfl); (case hg => rfl); (case hr => first | (go_simp; done) | (go_simp; rfl)); intro gb135 hg w62 hbox hb; have n0_ := Aside0.mk (blk_below (g := gb128) (o := .cells #[.int .i64 a0_0, .slice (some ad130) l0_1.length c0_1] 26 (0, 0)) (by (with_reducible repeat (first | refine blk_drewN ?_ _ | refine blk_drew ?_ | refine blk_alloc ?_ _)); exact BK128.out) hb); have n1_ := Aside0.mk (blk_below (g := gb131) (o := .cells #[.int .i64 ((rd_T48 l0_1 x3_2).f0), .int .i64 ((rd_T48 l0_1 x3_2).f1)] 48 (0, 0)) (by (with_reducible repeat (first | refine blk_drewN ?_ _ | refine blk_drew ?_ | refine blk_alloc ?_ _)); exact BK131.out) hb); have n2_ := Aside0.mk (below_step (by repeat (first | (with_reducible first | exact HB.out | apply below_alloc | apply pw_below_drewN | apply below_drew1 | refine below_set ?_ GE128.out | refine below_set ?_ GE131.out) | exact HB.out)) hb); have n3_ := Aside0.mk (hbox); have n4_ := Aside0.mk ((by rw [hg]; exact (below_size (by repeat (first | (with_reducible first | exact HB.out | apply below_alloc | apply pw_below_drewN | apply below_drew1 | refine below_set ?_ GE128.out | refine below_set ?_ GE131.out) | exact HB.out))) : w.heap.size ≤ gb135)); have n5_ := Aside0.mk ((by rw [hg]; exact (below_size (by repeat (first | (with_reducible first | exact HB.out | apply below_alloc | apply pw_below_drewN | apply below_drew1 | refine below_set ?_ GE128.out | refine below_set ?_ GE131.out) | exact HB.out))) : w.heap.size ≤ gb135)); have n6_ := Aside0.mk ((by rw [hg]; exact Nat.ne_of_lt (blk_lt (g := gb128) (o := .cells #[.int .i64 a0_0, .slice (some ad130) l0_1.length c0_1] 26 (0, 0)) (by (with_reducible repeat (first | refine blk_drewN ?_ _ | refine blk_drew ?_ | refine blk_alloc ?_ _)); exact BK128.out)) : gb128 ≠ gb135)); have n7_ := Aside0.mk ((by rw [hg]; exact Nat.ne_of_gt (blk_lt (g := gb128) (o := .cells #[.int .i64 a0_0, .slice (some ad130) l0_1.length c0_1] 26 (0, 0)) (by (with_reducible repeat (first | refine blk_drewN ?_ _ | refine blk_drew ?_ | refine blk_alloc ?_ _)); exact BK128.out)) : gb135 ≠ gb128)); have n8_ := Aside0.mk ((by rw [hg]; exact Nat.ne_of_lt (blk_lt (g := gb131) (o := .cells #[.int .i64 ((rd_T48 l0_1 x3_2).f0), .int .i64 ((rd_T48 l0_1 x3_2).f1)] 48 (0, 0)) (by (with_reducible repeat (first | refine blk_drewN ?_ _ | refine blk_drew ?_ | refine blk_alloc ?_ _)); exact BK131.out)) : gb131 ≠ gb135)); have n9_ := Aside0.mk ((by rw [hg]; exact Nat.ne_of_gt (blk_lt (g := gb131) (o := .cells #[.int .i64 ((rd_T48 l0_1 x3_2).f0), .int .i64 ((rd_T48 l0_1 x3_2).f1)] 48 (0, 0)) (by (with_reducible repeat (first | refine blk_drewN ?_ _ | refine blk_drew ?_ | refine blk_alloc ?_ _)); exact BK131.out)) : gb135 ≠ gb131)); clear BK128; clear BK131; clear HB; have BK128 := n0_; have BK131 := n1_; have HB := n2_; have BK135 := n3_; have GW135 := n4_; have GE135 := n5_; have NB128_135 := n6_; have NB135_128 := n7_; have NB131_135 := n8_; have NB135_131 := n9_; clear n0_ n1_ n2_ n3_ n4_ n5_ n6_ n7_ n8_ n9_; clear hb hbox hg; have hnb63 := NB135_128.out; have hnc63 := NB128_135.out; have hnb64 := NB135_131.out; have hnc64 := NB131_135.out; have hcz65_0 : w62.cell? ⟨gb135, 0, none⟩ = some (.int .i64 0) := (blk_cell BK135.out 0).trans rfl; have hcz65_1 : w62.cell? ⟨gb135, 1, none⟩ = some (.int .i64 0) := (blk_cell BK135.out 1).trans rfl; have hfz65_0 := blk_frozen BK135.out 0; have hfz65_1 := blk_frozen BK135.out 1; have hcz66_0 : w62.cell? ⟨gb131, 0, none⟩ = some (.int .i64 ((rd_T48 l0_1 x3_2).f0)) := (blk_cell BK131.out 0).trans rfl; have hcz66_1 : w62.cell? ⟨gb131, 1, none⟩ = some (.int .i64 ((rd_T48 l0_1 x3_2).f1)) := (blk_cell BK131.out 1).trans rfl; have hfz66_0 := blk_frozen BK131.out 0; have hfz66_1 := blk_frozen BK131.out 1))
                   go_ret
                   exact ⟨by first | rfl | (simp [errW_none, errW_some] <;> rfl) | (simp [*, errW_none, errW_some] <;> rfl), by repeat (first | (with_reducible first | exact HB.out | apply below_alloc | apply pw_below_drewN | apply below_drew1 | refine below_set ?_ GE128.out | refine below_set ?_ GE131.out | refine below_set ?_ GE135.out) | exact HB.out)⟩
                 ·rw [if_neg c41] at H
                  have c41b0 : (((rd_T48 l0_1 x5_4).f0) == ((rd_T48 l0_1 x3_2).f0)) = false := beq_eq_false_iff_ne.mpr c41
                  have c41b1 : (((rd_T48 l0_1 x5_4).f0) != ((rd_T48 l0_1 x3_2).f0)) = true := bne_iff_ne.mpr c41
                  obtain ⟨ji67, hji67⟩ : ∃ j_ : Int, (mx ((rd_T48 l0_1 x3_2).f1) ((rd_T48 l0_1 x5_4).f1)) = j_ := ⟨_, rfl⟩
                  replace H : (if (wrap64 ((ji67) - (mn ((rd_T48 l0_1 x3_2).f1) ((rd_T48 l0_1 x5_4).f1)))) < 8 then (some false) else (masterdiscref39_Valid.l1 k4 x3_2 (wrap64 (x5_4 + 1)) a0_0 l0_1 ((rd_T48 l0_1 x3_2).f0) ((rd_T48 l0_1 x3_2).f1))) = some r := by first | (rw [hji67] at H; exact H) | (simp only [hji67] at H ⊢; exact H)
                  have hji67_ : (if ((rd_T48 l0_1 x3_2).f1) < ((rd_T48 l0_1 x5_4).f1) then ((rd_T48 l0_1 x5_4).f1) else ((rd_T48 l0_1 x3_2).f1)) = ji67 := hji67
                  obtain ⟨ji68, hji68⟩ : ∃ j_ : Int, (mn ((rd_T48 l0_1 x3_2).f1) ((rd_T48 l0_1 x5_4).f1)) = j_ := ⟨_, rfl⟩
                  replace H : (if (wrap64 ((ji67) - (ji68))) < 8 then (some false) else (masterdiscref39_Valid.l1 k4 x3_2 (wrap64 (x5_4 + 1)) a0_0 l0_1 ((rd_T48 l0_1 x3_2).f0) ((rd_T48 l0_1 x3_2).f1))) = some r := by first | (rw [hji68] at H; exact H) | (simp only [hji68] at H ⊢; exact H)
                  have hji68_ : (if ((rd_T48 l0_1 x5_4).f1) < ((rd_T48 l0_1 x3_2).f1) then ((rd_T48 l0_1 x5_4).f1) else ((rd_T48 l0_1 x3_2).f1)) = ji68 := hji68
                  by_cases c69 : (wrap64 ((ji67) - (ji68))) < 8
                  ·rw [if_pos c69] at H
                   have c69b0 : decide ((wrap64 ((ji67) - (ji68))) < 8) = true := decide_eq_true c69
                   clear c69
                   obtain rfl := Option.some.inj H
                   have hnb70 := NB128_131.out
                   have hnc70 := NB131_128.out
                   have hcz71_0 : wr.cell? ⟨gb128, 0, none⟩ = some (.int .i64 a0_0) := (blk_cell BK128.out 0).trans rfl
                   have hcz71_1 : wr.cell? ⟨gb128, 1, none⟩ = some (.slice (some ad130) l0_1.length c0_1) := (blk_cell BK128.out 1).trans rfl
                   have hfz71_0 := blk_frozen BK128.out 0
                   have hfz71_1 := blk_frozen BK128.out 1
                   have p134 : 0 ≤ (x5_4 : Int) := of_decide_eq_true (by first | (with_reducible assumption) | assumption)
                   have q134 : x5_4 < (l0_1.length : Int) := of_decide_eq_true (by first | (with_reducible assumption) | assumption)
                   obtain ⟨ad134, e134, hx134_0, hx134_1⟩ := at_T48 HR0_1.out x5_4 p134 q134
                   obtain rfl : ad130 = ad134 := (by injection e134)
                   replace hx134_0 := (HB.out.cell (World.block_lt_of_cell? w _ hx134_0)).trans hx134_0
                   replace hx134_1 := (HB.out.cell (World.block_lt_of_cell? w _ hx134_1)).trans hx134_1
                   replace p134 := eq_true p134
                   replace q134 := eq_true q134
                   go_wp2_with (first | ((with_reducible refine gate_dst (N := 6) rfl ?_); (try (refine gate_guard (by rfl) ?_; dsimp only)); refine box_event ?hg (N := 6) ?hd (cs := #[.int .i64 0, .int .i64 0]) (t := 48) ?hr ?_; (case hd => rfl); (case hg => rfl); (case hr => first | (go_simp; done) | (go_simp; rfl)); intro gb135 hg w72 hbox hb; have n0_ := Aside0.mk (blk_below (g := gb128) (o := .cells #[.int .i64 a0_0, .slice (some ad130) l0_1.length c0_1] 26 (0, 0)) (by (with_reducible repeat (first | refine blk_drewN ?_ _ | refine blk_drew ?_ | refine blk_alloc ?_ _)); exact BK128.out) hb); have n1_ := Aside0.mk (blk_below (g := gb131) (o := .cells #[.int .i64 ((rd_T48 l0_1 x3_2).f0), .int .i64 ((rd_T48 l0_1 x3_2).f1)] 48 (0, 0)) (by (with_reducible repeat (first | refine blk_drewN ?_ _ | refine blk_drew ?_ | refine blk_alloc ?_ _)); exact BK131.out) hb); have n2_ := Aside0.mk (below_step (by repeat (first | (with_reducible first | exact HB.out | apply below_alloc | apply pw_below_drewN | apply below_drew1 | refine below_set ?_ GE128.out | refine below_set ?_ GE131.out) | exact HB.out)) hb); have n3_ := Aside0.mk (hbox); have n4_ := Aside0.mk ((by rw [hg]; exact (below_size (by repeat (first | (with_reducible first | exact HB.out | apply below_alloc | apply pw_below_drewN | apply below_drew1 | refine below_set ?_ GE128.out | refine below_set ?_ GE131.out) | exact HB.out))) : w.heap.size ≤ gb135)); have n5_ := Aside0.mk ((by rw [hg]; exact (below_size (by repeat (first | (with_reducible first | exact HB.out | apply below_alloc | apply pw_below_drewN | apply below_drew1 | refine below_set ?_ GE128.out | refine below_set ?_ GE131.out) | exact HB.out))) : w.heap.size ≤ gb135)); have n6_ := Aside0.mk ((by rw [hg]; exact Nat.ne_of_lt (blk_lt (g := gb128) (o := .cells #[.int .i64 a0_0, .slice (some ad130) l0_1.length c0_1] 26 (0, 0)) (by (with_reducible repeat (first | refine blk_drewN ?_ _ | refine blk_drew ?_ | refine blk_alloc ?_ _)); exact BK128.out)) : gb128 ≠ gb135)); have n7_ := Aside0.mk ((by rw [hg]; exact Nat.ne_of_gt (blk_lt (g := gb128) (o := .cells #[.int .i64 a0_0, .slice (some ad130) l0_1.length c0_1] 26 (0, 0)) (by (with_reducible repeat (first | refine blk_drewN ?_ _ | refine blk_drew ?_ | refine blk_alloc ?_ _)); exact BK128.out)) : gb135 ≠ gb128)); have n8_ := Aside0.mk ((by rw [hg]; exact Nat.ne_of_lt (blk_lt (g := gb131) (o := .cells #[.int .i64 ((rd_T48 l0_1 x3_2).f0), .int .i64 ((rd_T48 l0_1 x3_2).f1)] 48 (0, 0)) (by (with_reducible repeat (first | refine blk_drewN ?_ _ | refine blk_drew ?_ | refine blk_alloc ?_ _)); exact BK131.out)) : gb131 ≠ gb135)); have n9_ := Aside0.mk ((by rw [hg]; exact Nat.ne_of_gt (blk_lt (g := gb131) (o := .cells #[.int .i64 ((rd_T48 l0_1 x3_2).f0), .int .i64 ((rd_T48 l0_1 x3_2).f1)] 48 (0, 0)) (by (with_reducible repeat (first | refine blk_drewN ?_ _ | refine blk_drew ?_ | refine blk_alloc ?_ _)); exact BK131.out)) : gb135 ≠ gb131)); clear BK128; clear BK131; clear HB; have BK128 := n0_; have BK131 := n1_; have HB := n2_; have BK135 := n3_; have GW135 := n4_; have GE135 := n5_; have NB128_135 := n6_; have NB135_128 := n7_; have NB131_135 := n8_; have NB135_131 := n9_; clear n0_ n1_ n2_ n3_ n4_ n5_ n6_ n7_ n8_ n9_; clear hb hbox hg; have hnb73 := NB135_128.out; have hnc73 := NB128_135.out; have hnb74 := NB135_131.out; have hnc74 := NB131_135.out; have hcz75_0 : w72.cell? ⟨gb135, 0, none⟩ = some (.int .i64 0) := (blk_cell BK135.out 0).trans rfl; have hcz75_1 : w72.cell? ⟨gb135, 1, none⟩ = some (.int .i64 0) := (blk_cell BK135.out 1).trans rfl; have hfz75_0 := blk_frozen BK135.out 0; have hfz75_1 := blk_frozen BK135.out 1; have hcz76_0 : w72.cell? ⟨gb131, 0, none⟩ = some (.int .i64 ((rd_T48 l0_1 x3_2).f0)) := (blk_cell BK131.out 0).trans rfl; have hcz76_1 : w72.cell? ⟨gb131, 1, none⟩ = some (.int .i64 ((rd_T48 l0_1 x3_2).f1)) := (blk_cell BK131.out 1).trans rfl; have hfz76_0 := blk_frozen BK131.out 0; have hfz76_1 := blk_frozen BK131.out 1))
                   go_ret
                   exact ⟨by first | rfl | (simp [errW_none, errW_some] <;> rfl) | (simp only [← hji67, ← hji68]; first | rfl | (simp [errW_none, errW_some] <;> rfl)) | (simp [*, errW_none, errW_some] <;> rfl), by repeat (first | (with_reducible first | exact HB.out | apply below_alloc | apply pw_below_drewN | apply below_drew1 | refine below_set ?_ GE128.out | refine below_set ?_ GE131.out | refine below_set ?_ GE135.out) | exact HB.out)⟩
                  ·rw [if_neg c69] at H
                   have c69b0 : decide ((wrap64 ((ji67) - (ji68))) < 8) = false := decide_eq_false c69
                   clear c69
                   have H' := Aside0.mk H
                   clear H
                   have hnb77 := NB128_131.out
                   have hnc77 := NB131_128.out
                   have hcz78_0 : wr.cell? ⟨gb128, 0, none⟩ = some (.int .i64 a0_0) := (blk_cell BK128.out 0).trans rfl
                   have hcz78_1 : wr.cell? ⟨gb128, 1, none⟩ = some (.slice (some ad130) l0_1.length c0_1) := (blk_cell BK128.out 1).trans rfl
                   have hfz78_0 := blk_frozen BK128.out 0
                   have hfz78_1 := blk_frozen BK128.out 1
                   have p134 : 0 ≤ (x5_4 : Int) := of_decide_eq_true (by first | (with_reducible assumption) | assumption)
                   have q134 : x5_4 < (l0_1.length : Int) := of_decide_eq_true (by first | (with_reducible assumption) | assumption)
                   obtain ⟨ad134, e134, hx134_0, hx134_1⟩ := at_T48 HR0_1.out x5_4 p134 q134
                   obtain rfl : ad130 = ad134 := (by injection e134)
                   replace hx134_0 := (HB.out.cell (World.block_lt_of_cell? w _ hx134_0)).trans hx134_0
                   replace hx134_1 := (HB.out.cell (World.block_lt_of_cell? w _ hx134_1)).trans hx134_1
                   replace p134 := eq_true p134
                   replace q134 := eq_true q134
                   go_wp2_with (first | ((with_reducible refine gate_dst (N := 6) rfl ?_); (try (refine gate_guard (by rfl) ?_; dsimp only)); refine box_event ?hg (N := 6) ?hd (cs := #[.int .i64 0, .int .i64 0]) (t := 48) ?hr ?_; (case hd => rfl); (case hg => rfl); (case hr => first | (go_simp; done) | (go_simp; rfl)); intro gb135 hg w79 hbox hb; have n0_ := Aside0.mk (blk_below (g := gb128) (o := .cells #[.int .i64 a0_0, .slice (some ad130) l0_1.length c0_1] 26 (0, 0)) (by (with_reducible repeat (first | refine blk_drewN ?_ _ | refine blk_drew ?_ | refine blk_alloc ?_ _)); exact BK128.out) hb); have n1_ := Aside0.mk (blk_below (g := gb131) (o := .cells #[.int .i64 ((rd_T48 l0_1 x3_2).f0), .int .i64 ((rd_T48 l0_1 x3_2).f1)] 48 (0, 0)) (by (with_reducible repeat (first | refine blk_drewN ?_ _ | refine blk_drew ?_ | refine blk_alloc ?_ _)); exact BK131.out) hb); have n2_ := Aside0.mk (below_step (by repeat (first | (with_reducible first | exact HB.out | apply below_alloc | apply pw_below_drewN | apply below_drew1 | refine below_set ?_ GE128.out | refine below_set ?_ GE131.out) | exact HB.out)) hb); have n3_ := Aside0.mk (hbox); have n4_ := Aside0.mk ((by rw [hg]; exact (below_size (by repeat (first | (with_reducible first | exact HB.out | apply below_alloc | apply pw_below_drewN | apply below_drew1 | refine below_set ?_ GE128.out | refine below_set ?_ GE131.out) | exact HB.out))) : w.heap.size ≤ gb135)); have n5_ := Aside0.mk ((by rw [hg]; exact (below_size (by repeat (first | (with_reducible first | exact HB.out | apply below_alloc | apply pw_below_drewN | apply below_drew1 | refine below_set ?_ GE128.out | refine below_set ?_ GE131.out) | exact HB.out))) : w.heap.size ≤ gb135)); have n6_ := Aside0.mk ((by rw [hg]; exact Nat.ne_of_lt (blk_lt (g := gb128) (o := .cells #[.int .i64 a0_0, .slice (some ad130) l0_1.length c0_1] 26 (0, 0)) (by (with_reducible repeat (first | refine blk_drewN ?_ _ | refine blk_drew ?_ | refine blk_alloc ?_ _)); exact BK128.out)) : gb128 ≠ gb135)); have n7_ := Aside0.mk ((by rw [hg]; exact Nat.ne_of_gt (blk_lt (g := gb128) (o := .cells #[.int .i64 a0_0, .slice (some ad130) l0_1.length c0_1] 26 (0, 0)) (by (with_reducible repeat (first | refine blk_drewN ?_ _ | refine blk_drew ?_ | refine blk_alloc ?_ _)); exact BK128.out)) : gb135 ≠ gb128)); have n8_ := Aside0.mk ((by rw [hg]; exact Nat.ne_of_lt (blk_lt (g := gb131) (o := .cells #[.int .i64 ((rd_T48 l0_1 x3_2).f0), .int .i64 ((rd_T48 l0_1 x3_2).f1)] 48 (0, 0)) (by (with_reducible repeat (first | refine blk_drewN ?_ _ | refine blk_drew ?_ | refine blk_alloc ?_ _)); exact BK131.out)) : gb131 ≠ gb135)); have n9_ := Aside0.mk ((by rw [hg]; exact Nat.ne_of_gt (blk_lt (g := gb131) (o := .cells #[.int .i64 ((rd_T48 l0_1 x3_2).f0), .int .i64 ((rd_T48 l0_1 x3_2).f1)] 48 (0, 0)) (by (with_reducible repeat (first | refine blk_drewN ?_ _ | refine blk_drew ?_ | refine blk_alloc ?_ _)); exact BK131.out)) : gb135 ≠ gb131)); clear BK128; clear BK131; clear HB; have BK128 := n0_; have BK131 := n1_; have HB := n2_; have BK135 := n3_; have GW135 := n4_; have GE135 := n5_; have NB128_135 := n6_; have NB135_128 := n7_; have NB131_135 := n8_; have NB135_131 := n9_; clear n0_ n1_ n2_ n3_ n4_ n5_ n6_ n7_ n8_ n9_; clear hb hbox hg; have hnb80 := NB135_128.out; have hnc80 := NB128_135.out; have hnb81 := NB135_131.out; have hnc81 := NB131_135.out; have hcz82_0 : w79.cell? ⟨gb135, 0, none⟩ = some (.int .i64 0) := (blk_cell BK135.out 0).trans rfl; have hcz82_1 : w79.cell? ⟨gb135, 1, none⟩ = some (.int .i64 0) := (blk_cell BK135.out 1).trans rfl; have hfz82_0 := blk_frozen BK135.out 0; have hfz82_1 := blk_frozen BK135.out 1; have hcz83_0 : w79.cell? ⟨gb131, 0, none⟩ = some (.int .i64 ((rd_T48 l0_1 x3_2).f0)) := (blk_cell BK131.out 0).trans rfl; have hcz83_1 : w79.cell? ⟨gb131, 1, none⟩ = some (.int .i64 ((rd_T48 l0_1 x3_2).f1)) := (blk_cell BK131.out 1).trans rfl; have hfz83_0 := blk_frozen BK131.out 0; have hfz83_1 := blk_frozen BK131.out 1))
                   go_roundg k4
                   case measure => have := HJ1.out; have := HK2.out; have := HJ10.out; have := HK4.out; omega
                   case rel => exact ⟨(wrap64 (x5_4 + 1)), (by first | rfl | (simp; done) | (simp [*]; done)), H', ⟨by have := HJ1.out; have := HK2.out; have := HJ10.out; have := HK4.out; omega⟩, ⟨by (with_reducible repeat (first | refine blk_drewN ?_ _ | refine blk_drew ?_ | refine blk_alloc ?_ _)); refine blk_far ?_ NB128_135.out _; (with_reducible repeat (first | refine blk_drewN ?_ _ | refine blk_drew ?_ | refine blk_alloc ?_ _)); refine blk_far ?_ NB128_135.out _; (with_reducible repeat (first | refine blk_drewN ?_ _ | refine blk_drew ?_ | refine blk_alloc ?_ _)); exact BK128.out⟩, ⟨by (with_reducible repeat (first | refine blk_drewN ?_ _ | refine blk_drew ?_ | refine blk_alloc ?_ _)); refine blk_far ?_ NB131_135.out _; (with_reducible repeat (first | refine blk_drewN ?_ _ | refine blk_drew ?_ | refine blk_alloc ?_ _)); refine blk_far ?_ NB131_135.out _; (with_reducible repeat (first | refine blk_drewN ?_ _ | refine blk_drew ?_ | refine blk_alloc ?_ _)); exact BK131.out⟩, ⟨by repeat (first | (with_reducible first | exact HB.out | apply below_alloc | apply pw_below_drewN | apply below_drew1 | refine below_set ?_ GE128.out | refine below_set ?_ GE131.out | refine below_set ?_ GE135.out) | exact HB.out)⟩⟩
               ·rw [if_neg c32] at H
                exact absurd H (by simp)
              ·rw [if_neg c31] at H
               exact absurd H (by simp)
             ·rw [if_neg c30] at H
              have c30b0 : decide (x5_4 < x3_2) = false := decide_eq_false c30
              clear c30
              have H' := Aside0.mk H
              clear H
              go_wp2
              go_roundg k4
              case measure => have := HJ1.out; have := HK2.out; have := HJ10.out; have := HK4.out; omega
              case rel => exact ⟨(wrap64 (x3_2 + 1)), (by first | rfl | (simp; done) | (simp [*]; done)), H', ⟨by have := HJ1.out; have := HK2.out; have := HJ10.out; have := HK4.out; omega⟩, ⟨by (with_reducible repeat (first | refine blk_drewN ?_ _ | refine blk_drew ?_ | refine blk_alloc ?_ _)); exact BK128.out⟩, ⟨by repeat (first | (with_reducible first | exact HB.out | apply below_alloc | apply pw_below_drewN | apply below_drew1 | refine below_set ?_ GE128.out | refine below_set ?_ GE131.out) | exact HB.out)⟩⟩
       ·rw [if_neg c10] at H
        exact absurd H (by simp)
      ·rw [if_neg c9] at H
       have c9b0 : decide (x3_2 < (l0_1.length : Int)) = false := decide_eq_false c9
       clear c9
       obtain rfl := Option.some.inj H
       have hcz84_0 : wr.cell? ⟨gb128, 0, none⟩ = some (.int .i64 a0_0) := (blk_cell BK128.out 0).trans rfl
       have hcz84_1 : wr.cell? ⟨gb128, 1, none⟩ = some (.slice A0_1 l0_1.length c0_1) := (blk_cell BK128.out 1).trans rfl
       have hfz84_0 := blk_frozen BK128.out 0
       have hfz84_1 := blk_frozen BK128.out 1
       go_wp2
       go_ret
       exact ⟨by first | rfl | (simp [errW_none, errW_some] <;> rfl) | (simp [*, errW_none, errW_some] <;> rfl), by repeat (first | (with_reducible first | exact HB.out | apply below_alloc | apply pw_below_drewN | apply below_drew1 | refine below_set ?_ GE128.out) | exact HB.out)⟩

/-! ### masterdiscref32_printable: function 47 -/
def masterdiscref32_printable.l0 : Nat → ByteArray → Int → Option (Bool)
 | 0, _, _ => none
 | k + 1, x0, x3 => if x3 < (x0.size : Int) then (if 0 ≤ x3 then (if (bt x0 x3) < 32 then (some false) else (if (bt x0 x3) > 126 then (some false) else (masterdiscref32_printable.l0 k x0 (wrap64 (x3 + 1))))) else (none)) else (some true)
def masterdiscref32_printable.f (k : Nat) (a0 : ByteArray) : Option (Bool) := masterdiscref32_printable.l0 k a0 0
theorem masterdiscref32_printable.mono_l : ∀ k, (∀ y0 y1, LeO (masterdiscref32_printable.l0 k y0 y1) (masterdiscref32_printable.l0 (k + 1) y0 y1))
 | 0 => fun _ _ r h => by simp [masterdiscref32_printable.l0] at h
 | k + 1 => by
  have ih0 := masterdiscref32_printable.mono_l k
  ·intro y0 y1
   unfold masterdiscref32_printable.l0
   repeat' first
   | (with_reducible exact ih0 _ _)
   | (with_reducible exact LeO.refl _)
   | (with_reducible exact LeO.none _)
   | (with_reducible refine LeO.ite ?_ ?_)
   | (with_reducible refine LeO.bind ?_ (fun _ => ?_))
   | exact ih0 _ _
   | exact LeO.none _
   | refine LeO.ite ?_ ?_
   | refine LeO.bind ?_ (fun _ => ?_)
theorem masterdiscref32_printable.mono : ∀ a0 k, LeO (masterdiscref32_printable.f k a0) (masterdiscref32_printable.f (k + 1) a0) := by
 intro a0 k
 have ih0 := masterdiscref32_printable.mono_l k
 unfold masterdiscref32_printable.f
 repeat' first
   | (with_reducible exact ih0 _ _)
   | (with_reducible exact LeO.refl _)
   | (with_reducible exact LeO.none _)
   | (with_reducible refine LeO.ite ?_ ?_)
   | (with_reducible refine LeO.bind ?_ (fun _ => ?_))
   | exact ih0 _ _
   | exact LeO.none _
   | refine LeO.ite ?_ ?_
   | refine LeO.bind ?_ (fun _ => ?_)
set_option maxHeartbeats 8000000 in
set_option maxRecDepth 100000 in
theorem masterdiscref32_printable.calls (k : Nat) (a0 : ByteArray) (r : Bool) (w : World) (h : masterdiscref32_printable.f k a0 = some r) :
  Calls Tryz.prog 47 #[.string a0] w fun e w' => e = .returned (.bool r) ∧ Drawn0 w w' := by
 have H : (masterdiscref32_printable.l0 k a0 0) = some r := h
 clear h
 have H' := Aside0.mk H
 clear H
 go_enter Tryz.func47, Tryz.ntmps47
 go_wp2
 go_loopg [3] k (fun kq v3 w' => ∃ (x3_1 : Int), v3 = .int .i64 x3_1 ∧ Aside0 (masterdiscref32_printable.l0 kq a0 x3_1 = some r) ∧ Aside0 (kq ≤ k) ∧ Drawn0 w w')
 case atStart => exact ⟨(0), (by first | rfl | (simp; done) | (simp [*]; done)), H', ⟨Nat.le_refl _⟩, by repeat (first | exact Drawn0.refl _ | apply Drawn0.step)⟩
 case round =>
  clear H'
  obtain ⟨x3_1, rfl, HA, HK1, ⟨m1, rfl⟩⟩ := hrel
  cases gk with
  | zero => exact absurd HA.out (by simp [masterdiscref32_printable.l0])
  | succ k1 =>
   have H := HA.out
   clear HA
   simp only [masterdiscref32_printable.l0] at H
   by_cases c2 : x3_1 < (a0.size : Int)
   ·rw [if_pos c2] at H
    have c2b0 : decide (x3_1 < (a0.size : Int)) = true := decide_eq_true c2
    clear c2
    by_cases c3 : 0 ≤ x3_1
    ·rw [if_pos c3] at H
     have c3b0 : decide (0 ≤ x3_1) = true := decide_eq_true c3
     clear c3
     by_cases c5 : (bt a0 x3_1) < 32
     ·rw [if_pos c5] at H
      have c5b0 : decide ((bt a0 x3_1) < 32) = true := decide_eq_true c5
      clear c5
      obtain rfl := Option.some.inj H
      have p4 : 0 ≤ (x3_1 : Int) := of_decide_eq_true (by first | (with_reducible assumption) | assumption)
      have q4 : x3_1 < (a0.size : Int) := of_decide_eq_true (by first | (with_reducible assumption) | assumption)
      have hx4 := bt_at a0 x3_1
      replace p4 := eq_true p4
      replace q4 := eq_true q4
      go_wp2
      go_ret
      exact ⟨by first | rfl | (simp; done) | (simp [*]; done), by repeat (first | exact Drawn0.refl _ | apply Drawn0.step)⟩
     ·rw [if_neg c5] at H
      have c5b0 : decide ((bt a0 x3_1) < 32) = false := decide_eq_false c5
      clear c5
      by_cases c7 : (bt a0 x3_1) > 126
      ·rw [if_pos c7] at H
       have c7b0 : decide (126 < (bt a0 x3_1)) = true := decide_eq_true c7
       clear c7
       obtain rfl := Option.some.inj H
       have p4 : 0 ≤ (x3_1 : Int) := of_decide_eq_true (by first | (with_reducible assumption) | assumption)
       have q4 : x3_1 < (a0.size : Int) := of_decide_eq_true (by first | (with_reducible assumption) | assumption)
       have hx4 := bt_at a0 x3_1
       replace p4 := eq_true p4
       replace q4 := eq_true q4
       have p6 : 0 ≤ (x3_1 : Int) := of_decide_eq_true (by first | (with_reducible assumption) | assumption)
       have q6 : x3_1 < (a0.size : Int) := of_decide_eq_true (by first | (with_reducible assumption) | assumption)
       have hx6 := bt_at a0 x3_1
       replace p6 := eq_true p6
       replace q6 := eq_true q6
       go_wp2
       go_ret
       exact ⟨by first | rfl | (simp; done) | (simp [*]; done), by repeat (first | exact Drawn0.refl _ | apply Drawn0.step)⟩
      ·rw [if_neg c7] at H
       have c7b0 : decide (126 < (bt a0 x3_1)) = false := decide_eq_false c7
       clear c7
       have H' := Aside0.mk H
       clear H
       have p4 : 0 ≤ (x3_1 : Int) := of_decide_eq_true (by first | (with_reducible assumption) | assumption)
       have q4 : x3_1 < (a0.size : Int) := of_decide_eq_true (by first | (with_reducible assumption) | assumption)
       have hx4 := bt_at a0 x3_1
       replace p4 := eq_true p4
       replace q4 := eq_true q4
       have p6 : 0 ≤ (x3_1 : Int) := of_decide_eq_true (by first | (with_reducible assumption) | assumption)
       have q6 : x3_1 < (a0.size : Int) := of_decide_eq_true (by first | (with_reducible assumption) | assumption)
       have hx6 := bt_at a0 x3_1
       replace p6 := eq_true p6
       replace q6 := eq_true q6
       go_wp2
       go_roundg k1
       case measure => have := HK1.out; omega
       case rel => exact ⟨(wrap64 (x3_1 + 1)), (by first | rfl | (simp; done) | (simp [*]; done)), H', ⟨by have := HK1.out; omega⟩, by repeat (first | exact Drawn0.refl _ | apply Drawn0.step)⟩
    ·rw [if_neg c3] at H
     exact absurd H (by simp)
   ·rw [if_neg c2] at H
    have c2b0 : decide (x3_1 < (a0.size : Int)) = false := decide_eq_false c2
    clear c2
    obtain rfl := Option.some.inj H
    go_wp2
    go_ret
    exact ⟨by first | rfl | (simp; done) | (simp [*]; done), by repeat (first | exact Drawn0.refl _ | apply Drawn0.step)⟩

end Go.Proofs.YtdepicgdbealpaaGreat.V
