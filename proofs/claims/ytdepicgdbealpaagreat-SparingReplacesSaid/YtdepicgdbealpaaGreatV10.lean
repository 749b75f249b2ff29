/- Plain functions, contracts and rows, written by a program of this session out of the translation (hprint.sh, over the kit's print). Lean checks them. -/
import Derived.Test.YtdepicgdbealpaaGreatV0
import Derived.Test.YtdepicgdbealpaaGreatV9
namespace Go.Proofs.YtdepicgdbealpaaGreat.V
open Go.RowKit Go.Proofs.YtdepicgdbealpaaGreatW.PrintWords Go.Proofs.YtdepicgdbealpaaGreatW.PrintLast Go.Proofs.YtdepicgdbealpaaGreatW.PrintMore
attribute [local go_sem] max2_int min2_int max_two min_two max_three min_three max_four min_four   -- for this text's walks alone
set_option linter.unusedVariables false
set_option linter.unusedSimpArgs false

/-! ### masterdiscref39_insert: function 37 -/
def masterdiscref39_insert.l0 : Nat → List (S48) → List (S48) → Bool → Int → Int → Int → Option ((List (S48)))
 | 0, _, _, _, _, _, _ => none
 | k + 1, x0, x5, x6, x7, x191000, x191001 => if x7 < (x0.length : Int) then (if x6 = true then (if 0 ≤ x7 then (if x5.length < 8796093022208 then (masterdiscref39_insert.l0 k x0 (x5 ++ [(⟨(rd_T48 x0 x7).f0, (rd_T48 x0 x7).f1⟩ : S48)]) x6 (wrap64 (x7 + 1)) x191000 x191001) else (none)) else (none)) else (if 0 ≤ x7 then ((masterdiscref39_before.f x191000 x191001 ((rd_T48 x0 x7).f0) ((rd_T48 x0 x7).f1)).bind fun t199 => (if t199 = true then (if x5.length < 8796093022208 then ((some (x5 ++ [(⟨x191000, x191001⟩ : S48)] : List (S48))).bind fun y200 => (if y200.length < 8796093022208 then (masterdiscref39_insert.l0 k x0 (y200 ++ [(⟨(rd_T48 x0 x7).f0, (rd_T48 x0 x7).f1⟩ : S48)]) true (wrap64 (x7 + 1)) x191000 x191001) else (none))) else (none)) else (if x5.length < 8796093022208 then (masterdiscref39_insert.l0 k x0 (x5 ++ [(⟨(rd_T48 x0 x7).f0, (rd_T48 x0 x7).f1⟩ : S48)]) x6 (wrap64 (x7 + 1)) x191000 x191001) else (none)))) else (none))) else (if x6 = true then (some x5) else (if x5.length < 8796093022208 then (some (x5 ++ [(⟨x191000, x191001⟩ : S48)])) else (none)))
def masterdiscref39_insert.f (k : Nat) (l0 : List (S48)) (a1_0 : Int) (a1_1 : Int) : Option ((List (S48))) := masterdiscref39_insert.l0 k l0 (([] : List (S48))) false 0 a1_0 a1_1
def masterdiscref39_insert.T6 : Bool × List (List Nat × List Nat) := (true, [([], []), ([0], [0]), ([1], [1]), ([2], [2]), ([2], [2]), ([2], [2]), ([4, 5, 2], [2, 4, 5]), ([6, 2], [2, 6]), ([3, 7, 2, 2], [2, 3, 7]), ([2, 8], [2, 8])])
def masterdiscref39_insert.B6 : List Nat := [0, 1, 3, 7, 7, 7, 55, 119, 255, 511]
theorem masterdiscref39_insert.tab6 : rtab .any (opsOf Tryz.f37 6) = masterdiscref39_insert.T6 := by kernel_rfl
theorem masterdiscref39_insert.bits6 : waitsOk masterdiscref39_insert.T6.2 masterdiscref39_insert.B6 = true := by kernel_rfl
set_option maxHeartbeats 8000000 in
set_option maxRecDepth 100000 in
theorem masterdiscref39_insert.calls (k : Nat) (A0 : Option Addr) (c0 : Nat) (l0 : List (S48)) (a1_0 : Int) (a1_1 : Int) (r : List (S48)) (w : World) (hr0 : Kd.C k48 w A0 l0.length l0) (hc0 : l0.length ≤ c0) (h : masterdiscref39_insert.f k l0 a1_0 a1_1 = some r) :
  Calls Tryz.prog 37 #[.slice A0 l0.length c0, .agg #[.int .i64 a1_0, .int .i64 a1_1]] w fun e w' => ∃ v0_ : Value, e = .returned (v0_) ∧ Kd.R k48 48 w' w.heap.size (fun _ => True) v0_ r ∧ Below w.heap.size w w' := by
 have hu48 := Tryz.underlying48
 have HR0 := Aside0.mk hr0
 have HC0 := Aside0.mk hc0
 clear hr0 hc0
 have HB := Aside0.mk (Below.refl w.heap.size w)
 have H : (masterdiscref39_insert.l0 k l0 (([] : List (S48))) false 0 a1_0 a1_1) = some r := h
 clear h
 obtain ⟨y191, hy191⟩ : ∃ y_ : List (S48), y_ = (([] : List (S48))) := ⟨_, rfl⟩
 replace H : (masterdiscref39_insert.l0 k l0 y191 false 0 a1_0 a1_1) = some r := by first | (rw [hy191]; with_reducible exact H) | (have H2_ := (Option.bind_some _ _).symm.trans H; rw [hy191]; with_reducible exact H2_) | (have H2_ := (Option.bind_some _ _).symm.trans H; with_reducible exact H2_) | with_reducible exact H | (rw [hy191]; exact H) | exact H
 have Ny191 := Aside0.mk hy191
 clear hy191
 have H' := Aside0.mk H
 clear H
 go_enter Tryz.func37, Tryz.ntmps37
 go_wp2_with (first | ((with_reducible refine gate_dst (N := 3) rfl ?_); refine box_event ?hg (N := 3) ?hd (cs := #[.int .i64 a1_0, .int .i64 a1_1]) (t := 48) ?hr ?_; (case hd => rfl); (case hg => rfl); (case hr => first | (go_simp; done) | (go_simp; rfl)); intro gb190 hg w3 hbox hb; have n0_ := Aside0.mk (below_step (by repeat (first | (with_reducible first | exact HB.out | apply below_alloc | apply pw_below_drewN | apply below_drew1) | exact HB.out)) hb); have n1_ := Aside0.mk (hbox); have n2_ := Aside0.mk ((by rw [hg]; exact (below_size (by repeat (first | (with_reducible first | exact HB.out | apply below_alloc | apply pw_below_drewN | apply below_drew1) | exact HB.out))) : w.heap.size ≤ gb190)); have n3_ := Aside0.mk ((by rw [hg]; exact (below_size (by repeat (first | (with_reducible first | exact HB.out | apply below_alloc | apply pw_below_drewN | apply below_drew1) | exact HB.out))) : w.heap.size ≤ gb190)); clear HB; have HB := n0_; have BK190 := n1_; have GW190 := n2_; have GE190 := n3_; clear n0_ n1_ n2_ n3_; clear hb hbox hg) | ((with_reducible refine gate_dst (N := 8) rfl ?_); refine Kd.R_lit k48 _ 48 ?hg (N := 8) ?hd (xs := ([] : List (S48))) (inner := []) (ok := fun _ => True) (okp := fun _ => True) ?hr ?hp (fun _ hk => hk) trivial (Below.refl _ _) (Nat.le_refl _) (by simp) ?_; (case hd => rfl); (case hg => rfl); (case hr => first | (go_simp; done) | (go_simp; rfl)); (case hp => exact (Reps.none _ _)); intro v192 w4 ho5 hb hg_ hnew_; clear hg_ hnew_; (first | rw [← Ny191.out] at ho5 | (simp only [Int.reduceToNat] at ho5; rw [← Ny191.out] at ho5)); have n0_ := Aside0.mk (Kd.R_lower (Kd.R_newB ho5 (g := gb190) (o := .cells #[.int .i64 a1_0, .int .i64 a1_1] 48 (0, 0)) (by (with_reducible repeat (first | refine blk_drewN ?_ _ | refine blk_drew ?_ | refine blk_alloc ?_ _)); exact BK190.out)) (below_size (by repeat (first | (with_reducible first | exact HB.out | apply below_alloc | apply pw_below_drewN | apply below_drew1 | refine below_set ?_ GE190.out) | exact HB.out)))); have n1_ := Aside0.mk (blk_below (g := gb190) (o := .cells #[.int .i64 a1_0, .int .i64 a1_1] 48 (0, 0)) (by (with_reducible repeat (first | refine blk_drewN ?_ _ | refine blk_drew ?_ | refine blk_alloc ?_ _)); exact BK190.out) hb); have n2_ := Aside0.mk (below_step (by repeat (first | (with_reducible first | exact HB.out | apply below_alloc | apply pw_below_drewN | apply below_drew1 | refine below_set ?_ GE190.out) | exact HB.out)) hb); clear BK190; clear HB; have HO193 := n0_; have BK190 := n1_; have HB := n2_; clear n0_ n1_ n2_; clear hb ho5))
 go_loopg [5, 6, 7] k (fun kq v5 v6 v7 w' => ∃ (x5_1 : List (S48)) (x6_1 : Bool) (x7_1 : Int), v6 = .bool x6_1 ∧ v7 = .int .i64 x7_1 ∧ Aside0 (masterdiscref39_insert.l0 kq l0 x5_1 x6_1 x7_1 a1_0 a1_1 = some r) ∧ Aside0 (kq ≤ k) ∧ Aside0 (Kd.R k48 48 w' w.heap.size (fun k_ => k_ ≠ gb190) v5 x5_1) ∧ Aside0 (w'.heap[gb190]? = some (.cells #[.int .i64 a1_0, .int .i64 a1_1] 48 (0, 0))) ∧ Aside0 (Below w.heap.size w w'))
 case atStart => exact ⟨(y191), (false), (0), (by first | rfl | (simp; done) | (simp [*]; done)), (by first | rfl | (simp; done) | (simp [*]; done)), H', ⟨Nat.le_refl _⟩, ⟨by (with_reducible repeat (first | apply Kd.R_alloc | apply Kd.R_drewN | apply Kd.R_drew)); exact Kd.R_mono HO193.out (fun _ hk => hk.2)⟩, ⟨by (with_reducible repeat (first | refine blk_drewN ?_ _ | refine blk_drew ?_ | refine blk_alloc ?_ _)); exact BK190.out⟩, ⟨by repeat (first | (with_reducible first | exact HB.out | apply below_alloc | apply pw_below_drewN | apply below_drew1 | refine below_set ?_ GE190.out) | exact HB.out)⟩⟩
 case round =>
  clear H'
  try clear p2
  try clear c3
  obtain ⟨x5_1, x6_1, x7_1, rfl, rfl, HA, HK1, HO_5, BK190, HB⟩ := hrel
  cases gk with
  | zero => exact absurd HA.out (by simp [masterdiscref39_insert.l0])
  | succ k1 =>
   have H := HA.out
   clear HA
   simp only [masterdiscref39_insert.l0] at H
   by_cases c6 : x7_1 < (l0.length : Int)
   ·rw [if_pos c6] at H
    have c6b0 : decide (x7_1 < (l0.length : Int)) = true := decide_eq_true c6
    clear c6
    by_cases c7 : x6_1 = true
    ·subst c7
     have H1 : (if 0 ≤ x7_1 then (if x5_1.length < 8796093022208 then (masterdiscref39_insert.l0 k1 l0 (x5_1 ++ [(⟨(rd_T48 l0 x7_1).f0, (rd_T48 l0 x7_1).f1⟩ : S48)]) true (wrap64 (x7_1 + 1)) a1_0 a1_1) else (none)) else (none)) = some r := by rw [if_pos rfl] at H; exact H
     clear H
     have H := H1
     clear H1
     by_cases c8 : 0 ≤ x7_1
     ·rw [if_pos c8] at H
      have c8b0 : decide (0 ≤ x7_1) = true := decide_eq_true c8
      clear c8
      by_cases c9 : x5_1.length < 8796093022208
      ·rw [if_pos c9] at H
       have LMc9 := Aside0.mk c9
       clear c9
       obtain ⟨y195, hy195⟩ : ∃ y_ : List (S48), y_ = (x5_1 ++ [(⟨(rd_T48 l0 x7_1).f0, (rd_T48 l0 x7_1).f1⟩ : S48)]) := ⟨_, rfl⟩
       replace H : (masterdiscref39_insert.l0 k1 l0 y195 true (wrap64 (x7_1 + 1)) a1_0 a1_1) = some r := by first | (rw [hy195]; with_reducible exact H) | (have H2_ := (Option.bind_some _ _).symm.trans H; rw [hy195]; with_reducible exact H2_) | (have H2_ := (Option.bind_some _ _).symm.trans H; with_reducible exact H2_) | with_reducible exact H | (rw [hy195]; exact H) | exact H
       have Ny195 := Aside0.mk hy195
       clear hy195
       have H' := Aside0.mk H
       clear H
       try go_wp2
       have n0_ := Aside0.mk (Kd.R_drew HO_5.out)
       have n1_ := Aside0.mk (blk_drew BK190.out)
       have n2_ := Aside0.mk (below_drew1 HB.out)
       clear HO_5
       clear BK190
       clear HB
       have HO_5 := n0_
       have BK190 := n1_
       have HB := n2_
       clear n0_ n1_ n2_
       refine start_ (n := 10) (S := fun w' => True) (ds := []) #[false, false, false, false, false, false, false, false, false, false] (by kernel_rfl) rfl rfl trivial (fun hHeld => ?_); refine with_tabW masterdiscref39_insert.tab6 masterdiscref39_insert.bits6 (fun HT_ HW_ => ?_)
       generalize wr.drew = w10 at HO_5 BK190 HB hHeld ⊢
       refine pure_ (i := 0) (N := some 15) (v := ?_) (a' := ?_) #[true, false, false, false, false, false, false, false, false, false] rfl rfl (any_of HT_.out (by kernel_rfl)) (fun _ _ _ h => h) (Or.inl ⟨by rfl, ?_⟩) ?_ ?_
       rotate_left
       ·intro w'
        go_simp
        with_reducible rfl
       rotate_left
       ·simp only [Act.put, List.setIfInBounds_toArray, List.set_cons_zero, List.set_cons_succ, i64_w, i32_w]
        rfl
       refine pure_ (i := 1) (N := some 16) (v := ?_) (a' := ?_) #[true, true, false, false, false, false, false, false, false, false] rfl rfl (any_of HT_.out (by kernel_rfl)) (fun _ _ _ h => h) (Or.inl ⟨by rfl, ?_⟩) ?_ ?_
       rotate_left
       ·intro w'
        go_simp
        with_reducible rfl
       rotate_left
       ·simp only [Act.put, List.setIfInBounds_toArray, List.set_cons_zero, List.set_cons_succ, i64_w, i32_w]
        rfl
       refine pure_ (i := 2) (N := some 17) (v := ?_) (a' := ?_) #[true, true, true, false, false, false, false, false, false, false] rfl rfl (any_of HT_.out (by kernel_rfl)) (fun _ _ _ h => h) (Or.inl ⟨by rfl, ?_⟩) ?_ ?_
       rotate_left
       ·intro w'
        go_simp
        with_reducible rfl
       rotate_left
       ·simp only [Act.put, List.setIfInBounds_toArray, List.set_cons_zero, List.set_cons_succ, i64_w, i32_w]
        rfl
       refine pure_ (i := 3) (N := some 18) (v := undef) (a' := ?_) #[true, true, true, true, false, false, false, false, false, false] rfl rfl (any_of HT_.out (by kernel_rfl)) (fun _ _ _ h => h) (Or.inr ⟨by rfl, rfl⟩) ?_ ?_
       rotate_left
       ·simp only [Act.put, List.setIfInBounds_toArray, List.set_cons_zero, List.set_cons_succ, i64_w, i32_w]
        rfl
       refine pure_ (i := 4) (N := some 19) (v := undef) (a' := ?_) #[true, true, true, true, true, false, false, false, false, false] rfl rfl (any_of HT_.out (by kernel_rfl)) (fun _ _ _ h => h) (Or.inr ⟨by rfl, rfl⟩) ?_ ?_
       rotate_left
       ·simp only [Act.put, List.setIfInBounds_toArray, List.set_cons_zero, List.set_cons_succ, i64_w, i32_w]
        rfl
       refine pure_ (i := 5) (N := some 20) (v := undef) (a' := ?_) #[true, true, true, true, true, true, false, false, false, false] rfl rfl (any_of HT_.out (by kernel_rfl)) (fun _ _ _ h => h) (Or.inr ⟨by rfl, rfl⟩) ?_ ?_
       rotate_left
       ·simp only [Act.put, List.setIfInBounds_toArray, List.set_cons_zero, List.set_cons_succ, i64_w, i32_w]
        rfl
       refine pure_ (i := 6) (N := some 21) (v := undef) (a' := ?_) #[true, true, true, true, true, true, true, false, false, false] rfl rfl (any_of HT_.out (by kernel_rfl)) (fun _ _ _ h => h) (Or.inr ⟨by rfl, rfl⟩) ?_ ?_
       rotate_left
       ·simp only [Act.put, List.setIfInBounds_toArray, List.set_cons_zero, List.set_cons_succ, i64_w, i32_w]
        rfl
       refine pure_ (i := 7) (N := some 22) (v := undef) (a' := ?_) #[true, true, true, true, true, true, true, true, false, false] rfl rfl (any_of HT_.out (by kernel_rfl)) (fun _ _ _ h => h) (Or.inr ⟨by rfl, rfl⟩) ?_ ?_
       rotate_left
       ·simp only [Act.put, List.setIfInBounds_toArray, List.set_cons_zero, List.set_cons_succ, i64_w, i32_w]
        rfl
       refine pure_ (i := 8) (N := some 23) (v := undef) (a' := ?_) #[true, true, true, true, true, true, true, true, true, false] rfl rfl (any_of HT_.out (by kernel_rfl)) (fun _ _ _ h => h) (Or.inr ⟨by rfl, rfl⟩) ?_ ?_
       rotate_left
       ·simp only [Act.put, List.setIfInBounds_toArray, List.set_cons_zero, List.set_cons_succ, i64_w, i32_w]
        rfl
       refine pure_ (i := 9) (N := some 24) (v := ?_) (a' := ?_) #[true, true, true, true, true, true, true, true, true, true] rfl rfl (any_of HT_.out (by kernel_rfl)) (fun _ _ _ h => h) (Or.inl ⟨by rfl, ?_⟩) ?_ ?_
       rotate_left
       ·intro w'
        go_simp
        with_reducible rfl
       rotate_left
       ·simp only [Act.put, List.setIfInBounds_toArray, List.set_cons_zero, List.set_cons_succ, i64_w, i32_w]
        rfl
       refine done_ (done_of HT_.out (by kernel_rfl)) ?_
       have p194 : 0 ≤ (x7_1 : Int) := of_decide_eq_true (by first | (with_reducible assumption) | assumption)
       have q194 : x7_1 < (l0.length : Int) := of_decide_eq_true (by first | (with_reducible assumption) | assumption)
       obtain ⟨ad194, e194, hx194_0, hx194_1⟩ := at_T48 HR0.out x7_1 p194 q194
       cases e194
       replace hx194_0 := (HB.out.cell (World.block_lt_of_cell? w _ hx194_0)).trans hx194_0
       replace hx194_1 := (HB.out.cell (World.block_lt_of_cell? w _ hx194_1)).trans hx194_1
       replace p194 := eq_true p194
       replace q194 := eq_true q194
       try go_wp2_with (first | ((with_reducible refine gate_builtin (b := .append) (xs := #[.tmp 29, .tmp 34]) rfl ?_); at_builtin; refine Kd.R_append k48 (w0 := w) w.heap.size rfl (.tmp 29) (.tmp 34) 24 48 (.agg #[(.int .i64 0), (.int .i64 0)]) 16 rfl Tryz.underlying24 info48 rfl (by decide) (by omega) u5 x5_1 (⟨(rd_T48 l0 x7_1).f0, (rd_T48 l0 x7_1).f1⟩ : S48) [.int .i64 ((rd_T48 l0 x7_1).f0), .int .i64 ((rd_T48 l0 x7_1).f1)] (fun k_ => k_ ≠ gb190) (fun _ => False) rfl rfl ?aP (fun _ hk => hk.elim) ?aF ?aO ?aB ?aS ?aL ?_; (case aP => exact k48_mkM _ _ _ (⟨(rd_T48 l0 x7_1).f0, (rd_T48 l0 x7_1).f1⟩ : S48)); (case aB => exact (by repeat (first | (with_reducible first | exact HB.out | apply below_alloc | apply pw_below_drewN | apply below_drew1 | refine below_set ?_ GE190.out) | exact HB.out))); (case aF => exact (fun k_ hk => Kd.freshB (g := gb190) (o := .cells #[.int .i64 a1_0, .int .i64 a1_1] 48 (0, 0)) (by (with_reducible repeat (first | refine blk_drewN ?_ _ | refine blk_drew ?_ | refine blk_alloc ?_ _)); exact BK190.out) k_ hk)); (case aO => exact (by (with_reducible repeat (first | apply Kd.R_alloc | apply Kd.R_drewN | apply Kd.R_drew)); exact HO_5.out)); (case aS => exact (below_size (by repeat (first | (with_reducible first | exact HB.out | apply below_alloc | apply pw_below_drewN | apply below_drew1 | refine below_set ?_ GE190.out) | exact HB.out)))); (case aL => have := LMc9.out; omega); intro v196 w11 ho hb hg hat; rw [← Ny195.out] at ho; have n0_ := Aside0.mk (blk_grown (g := gb190) (o := .cells #[.int .i64 a1_0, .int .i64 a1_1] 48 (0, 0)) (by (with_reducible repeat (first | refine blk_drewN ?_ _ | refine blk_drew ?_ | refine blk_alloc ?_ _)); exact BK190.out) hg (Kd.R_away HO_5.out (fun _ hk => hk))); have n1_ := Aside0.mk (hb); have n2_ := Aside0.mk (ho); clear BK190; clear HB; clear HO_5; have BK190 := n0_; have HB := n1_; have HO197 := n2_; clear n0_ n1_ n2_; clear ho hb hg hat))
       go_roundg k1
       case measure => have := HK1.out; omega
       case rel => exact ⟨(y195), (true), (wrap64 (x7_1 + 1)), (by first | rfl | (simp; done) | (simp [*]; done)), (by first | rfl | (simp; done) | (simp [*]; done)), H', ⟨by have := HK1.out; omega⟩, ⟨by (with_reducible repeat (first | apply Kd.R_alloc | apply Kd.R_drewN | apply Kd.R_drew)); exact HO197.out⟩, ⟨by (with_reducible repeat (first | refine blk_drewN ?_ _ | refine blk_drew ?_ | refine blk_alloc ?_ _)); exact BK190.out⟩, ⟨by repeat (first | (with_reducible first | exact HB.out | apply below_alloc | apply pw_below_drewN | apply below_drew1 | refine below_set ?_ GE190.out) | exact HB.out)⟩⟩
      ·rw [if_neg c9] at H
       exact absurd H (by simp)
     ·rw [if_neg c8] at H
      exact absurd H (by simp)
    ·replace c7 := Bool.eq_false_iff.mpr c7
     subst c7
     have H1 : (if 0 ≤ x7_1 then ((masterdiscref39_before.f a1_0 a1_1 ((rd_T48 l0 x7_1).f0) ((rd_T48 l0 x7_1).f1)).bind fun t199 => (if t199 = true then (if x5_1.length < 8796093022208 then ((some (x5_1 ++ [(⟨a1_0, a1_1⟩ : S48)] : List (S48))).bind fun y200 => (if y200.length < 8796093022208 then (masterdiscref39_insert.l0 k1 l0 (y200 ++ [(⟨(rd_T48 l0 x7_1).f0, (rd_T48 l0 x7_1).f1⟩ : S48)]) true (wrap64 (x7_1 + 1)) a1_0 a1_1) else (none))) else (none)) else (if x5_1.length < 8796093022208 then (masterdiscref39_insert.l0 k1 l0 (x5_1 ++ [(⟨(rd_T48 l0 x7_1).f0, (rd_T48 l0 x7_1).f1⟩ : S48)]) false (wrap64 (x7_1 + 1)) a1_0 a1_1) else (none)))) else (none)) = some r := by rw [if_neg (show ¬ (false = true) by decide)] at H; exact H
     clear H
     have H := H1
     clear H1
     by_cases c12 : 0 ≤ x7_1
     ·rw [if_pos c12] at H
      have c12b0 : decide (0 ≤ x7_1) = true := decide_eq_true c12
      clear c12
      replace H := Option.bind_eq_some_iff.mp H
      obtain ⟨t199, A130, H⟩ := H
      replace H : (if t199 = true then (if x5_1.length < 8796093022208 then ((some (x5_1 ++ [(⟨a1_0, a1_1⟩ : S48)] : List (S48))).bind fun y200 => (if y200.length < 8796093022208 then (masterdiscref39_insert.l0 k1 l0 (y200 ++ [(⟨(rd_T48 l0 x7_1).f0, (rd_T48 l0 x7_1).f1⟩ : S48)]) true (wrap64 (x7_1 + 1)) a1_0 a1_1) else (none))) else (none)) else (if x5_1.length < 8796093022208 then (masterdiscref39_insert.l0 k1 l0 (x5_1 ++ [(⟨(rd_T48 l0 x7_1).f0, (rd_T48 l0 x7_1).f1⟩ : S48)]) false (wrap64 (x7_1 + 1)) a1_0 a1_1) else (none))) = some r := H
      have A13 := Aside0.mk A130
      clear A130
      by_cases c14 : t199 = true
      ·subst c14
       have H1 : (if x5_1.length < 8796093022208 then ((some (x5_1 ++ [(⟨a1_0, a1_1⟩ : S48)] : List (S48))).bind fun y200 => (if y200.length < 8796093022208 then (masterdiscref39_insert.l0 k1 l0 (y200 ++ [(⟨(rd_T48 l0 x7_1).f0, (rd_T48 l0 x7_1).f1⟩ : S48)]) true (wrap64 (x7_1 + 1)) a1_0 a1_1) else (none))) else (none)) = some r := by rw [if_pos rfl] at H; exact H
       clear H
       have H := H1
       clear H1
       by_cases c15 : x5_1.length < 8796093022208
       ·rw [if_pos c15] at H
        have LMc15 := Aside0.mk c15
        clear c15
        obtain ⟨y200, hy200⟩ : ∃ y_ : List (S48), y_ = (x5_1 ++ [(⟨a1_0, a1_1⟩ : S48)]) := ⟨_, rfl⟩
        replace H : (if y200.length < 8796093022208 then (masterdiscref39_insert.l0 k1 l0 (y200 ++ [(⟨(rd_T48 l0 x7_1).f0, (rd_T48 l0 x7_1).f1⟩ : S48)]) true (wrap64 (x7_1 + 1)) a1_0 a1_1) else (none)) = some r := by first | (rw [hy200]; with_reducible exact H) | (have H2_ := (Option.bind_some _ _).symm.trans H; rw [hy200]; with_reducible exact H2_) | (have H2_ := (Option.bind_some _ _).symm.trans H; with_reducible exact H2_) | with_reducible exact H | (rw [hy200]; exact H) | exact H
        have Ny200 := Aside0.mk hy200
        clear hy200
        by_cases c16 : y200.length < 8796093022208
        ·rw [if_pos c16] at H
         have LMc16 := Aside0.mk c16
         clear c16
         obtain ⟨y204, hy204⟩ : ∃ y_ : List (S48), y_ = (y200 ++ [(⟨(rd_T48 l0 x7_1).f0, (rd_T48 l0 x7_1).f1⟩ : S48)]) := ⟨_, rfl⟩
         replace H : (masterdiscref39_insert.l0 k1 l0 y204 true (wrap64 (x7_1 + 1)) a1_0 a1_1) = some r := by first | (rw [hy204]; with_reducible exact H) | (have H2_ := (Option.bind_some _ _).symm.trans H; rw [hy204]; with_reducible exact H2_) | (have H2_ := (Option.bind_some _ _).symm.trans H; with_reducible exact H2_) | with_reducible exact H | (rw [hy204]; exact H) | exact H
         have Ny204 := Aside0.mk hy204
         clear hy204
         have H' := Aside0.mk H
         clear H
         try go_wp2
         have n0_ := Aside0.mk (Kd.R_drew HO_5.out)
         have n1_ := Aside0.mk (blk_drew BK190.out)
         have n2_ := Aside0.mk (below_drew1 HB.out)
         clear HO_5
         clear BK190
         clear HB
         have HO_5 := n0_
         have BK190 := n1_
         have HB := n2_
         clear n0_ n1_ n2_
         have p198 : 0 ≤ (x7_1 : Int) := of_decide_eq_true (by first | (with_reducible assumption) | assumption)
         have q198 : x7_1 < (l0.length : Int) := of_decide_eq_true (by first | (with_reducible assumption) | assumption)
         obtain ⟨ad198, e198, hx198_0, hx198_1⟩ := at_T48 HR0.out x7_1 p198 q198
         have hw198_1 := hx198_1
         have hw198_0 := hx198_0
         cases e198
         replace hx198_0 := (HB.out.cell (World.block_lt_of_cell? w _ hx198_0)).trans hx198_0
         replace hx198_1 := (HB.out.cell (World.block_lt_of_cell? w _ hx198_1)).trans hx198_1
         replace p198 := eq_true p198
         replace q198 := eq_true q198
         refine start_ (n := 10) (S := fun w' => w'.cell? ⟨gb190, 0, none⟩ = some (.int .i64 a1_0) ∧ w'.cell? ⟨gb190, 1, none⟩ = some (.int .i64 a1_1) ∧ w'.cell? (ad198.add ((x7_1).toNat * 2)) = some (.int .i64 ((rd_T48 l0 x7_1).f0)) ∧ w'.cell? ⟨(ad198.add ((x7_1).toNat * 2)).block, (ad198.add ((x7_1).toNat * 2)).off + 1, none⟩ = some (.int .i64 ((rd_T48 l0 x7_1).f1))) (ds := []) #[false, false, false, false, false, false, false, false, false, false] (by kernel_rfl) rfl rfl ⟨(blk_cell BK190.out 0).trans rfl, (blk_cell BK190.out 1).trans rfl, ((HB.out.cell (World.block_lt_of_cell? w _ hw198_0)).trans hw198_0), ((HB.out.cell (World.block_lt_of_cell? w _ hw198_1)).trans hw198_1)⟩ (fun hHeld => ?_); refine with_tabW masterdiscref39_insert.tab6 masterdiscref39_insert.bits6 (fun HT_ HW_ => ?_)
         generalize wr.drew = w17 at HO_5 BK190 HB hx198_0 hx198_1 hHeld ⊢
         refine pure_ (i := 0) (N := some 15) (v := ?_) (a' := ?_) #[true, false, false, false, false, false, false, false, false, false] rfl rfl (any_of HT_.out (by kernel_rfl)) (fun _ _ _ h => h) (Or.inl ⟨by rfl, ?_⟩) ?_ ?_
         rotate_left
         ·intro w'
          go_simp
          with_reducible rfl
         rotate_left
         ·simp only [Act.put, List.setIfInBounds_toArray, List.set_cons_zero, List.set_cons_succ, i64_w, i32_w]
          rfl
         refine pure_ (i := 1) (N := some 16) (v := ?_) (a' := ?_) #[true, true, false, false, false, false, false, false, false, false] rfl rfl (any_of HT_.out (by kernel_rfl)) (fun _ _ _ h => h) (Or.inl ⟨by rfl, ?_⟩) ?_ ?_
         rotate_left
         ·intro w'
          go_simp
          with_reducible rfl
         rotate_left
         ·simp only [Act.put, List.setIfInBounds_toArray, List.set_cons_zero, List.set_cons_succ, i64_w, i32_w]
          rfl
         refine pure_ (i := 2) (N := some 17) (v := ?_) (a' := ?_) #[true, true, true, false, false, false, false, false, false, false] rfl rfl (any_of HT_.out (by kernel_rfl)) (fun _ _ _ h => h) (Or.inl ⟨by rfl, ?_⟩) ?_ ?_
         rotate_left
         ·intro w'
          go_simp
          with_reducible rfl
         rotate_left
         ·simp only [Act.put, List.setIfInBounds_toArray, List.set_cons_zero, List.set_cons_succ, i64_w, i32_w]
          rfl
         refine pure_ (i := 4) (N := some 19) (v := ?_) (a' := ?_) #[true, true, true, false, true, false, false, false, false, false] rfl rfl (any_of HT_.out (by kernel_rfl)) (fun _ _ _ h => h) (Or.inl ⟨by rfl, ?_⟩) ?_ ?_
         rotate_left
         ·intro w'
          go_simp
          with_reducible rfl
         rotate_left
         ·simp only [Act.put, List.setIfInBounds_toArray, List.set_cons_zero, List.set_cons_succ, i64_w, i32_w]
          rfl
         refine pure_ (i := 5) (N := some 20) (v := ?_) (a' := ?_) #[true, true, true, false, true, true, false, false, false, false] rfl rfl (any_of HT_.out (by kernel_rfl)) (fun _ _ _ h => h) (Or.inl ⟨by rfl, ?_⟩) ?_ ?_
         rotate_left
         ·intro w'
          go_simp
          with_reducible rfl
         rotate_left
         ·simp only [Act.put, List.setIfInBounds_toArray, List.set_cons_zero, List.set_cons_succ, i64_w, i32_w]
          rfl
         refine pure_ (i := 6) (N := some 21) (v := ?_) (a' := ?_) #[true, true, true, false, true, true, true, false, false, false] rfl rfl (any_of HT_.out (by kernel_rfl)) (fun _ _ _ h => h) (Or.inl ⟨by rfl, ?_⟩) ?_ ?_
         rotate_left
         ·intro w'
          go_simp
          with_reducible rfl
         rotate_left
         ·simp only [Act.put, List.setIfInBounds_toArray, List.set_cons_zero, List.set_cons_succ, i64_w, i32_w]
          rfl
         refine take_ (i := 3) (N := some 18) (v := ?_) (a' := ?_) #[true, true, true, true, true, true, true, false, false, false] rfl rfl (take_ofW HT_.out HW_.out (by kernel_rfl)) (fun _ _ _ h => h) (Or.inl ⟨by rfl, ?_⟩) hHeld ?_ ?_
         rotate_left
         ·rintro w' ⟨s0, s1, s2, s3⟩
          go_simp
          with_reducible rfl
         rotate_left
         ·simp only [Act.put, List.setIfInBounds_toArray, List.set_cons_zero, List.set_cons_succ, i64_w, i32_w]
          rfl
         refine take_ (i := 7) (N := some 22) (v := ?_) (a' := ?_) #[true, true, true, true, true, true, true, true, false, false] rfl rfl (take_ofW HT_.out HW_.out (by kernel_rfl)) (fun _ _ _ h => h) (Or.inl ⟨by rfl, ?_⟩) hHeld ?_ ?_
         rotate_left
         ·rintro w' ⟨s0, s1, s2, s3⟩
          go_simp
          with_reducible rfl
         rotate_left
         ·simp only [Act.put, List.setIfInBounds_toArray, List.set_cons_zero, List.set_cons_succ, i64_w, i32_w]
          rfl
         refine one_ (i := 8) (N := some 23) #[true, true, true, true, true, true, true, true, true, false] rfl rfl (one_of HT_.out (by kernel_rfl)) (by decide) (fun K hK => ?_)
         refine goes_ Tryz.func58 (by kernel_rfl) rfl #[.agg #[.int .i64 a1_0, .int .i64 a1_1], .agg #[.int .i64 ((rd_T48 l0 x7_1).f0), .int .i64 ((rd_T48 l0 x7_1).f1)]] (by rfl) rfl rfl (by (try simp only [List.map_toArray, List.map_cons, List.map_nil]); first | done | rfl | (simp only [List.length_drop, List.length_take]; rfl)) ?_
         with_reducible refine (masterdiscref39_before.calls a1_0 a1_1 ((rd_T48 l0 x7_1).f0) ((rd_T48 l0 x7_1).f1) true _ A13.out).mono ?_
         rintro e w18 ⟨rfl, hb⟩
         refine ⟨_, rfl, ?_⟩
         have n0_ := Aside0.mk (Kd.R_below (by (with_reducible repeat (first | apply Kd.R_alloc | apply Kd.R_drewN | apply Kd.R_drew)); exact HO_5.out) hb)
         have n1_ := Aside0.mk (blk_below (g := gb190) (o := .cells #[.int .i64 a1_0, .int .i64 a1_1] 48 (0, 0)) (by (with_reducible repeat (first | refine blk_drewN ?_ _ | refine blk_drew ?_ | refine blk_alloc ?_ _)); exact BK190.out) hb)
         have n2_ := Aside0.mk (below_step (by repeat (first | (with_reducible first | exact HB.out | apply below_alloc | apply pw_below_drewN | apply below_drew1 | refine below_set ?_ GE190.out) | exact HB.out)) hb)
         clear HO_5
         clear BK190
         clear HB
         have HO_5 := n0_
         have BK190 := n1_
         have HB := n2_
         clear n0_ n1_ n2_
         (try clear hb)
         (try clear hb2)
         (try clear hk)
         (try clear hi)
         refine hK.out _ _ ⟨(blk_cell BK190.out 0).trans rfl, (blk_cell BK190.out 1).trans rfl, ((HB.out.cell (World.block_lt_of_cell? w _ hw198_0)).trans hw198_0), ((HB.out.cell (World.block_lt_of_cell? w _ hw198_1)).trans hw198_1)⟩ (fun hHeld => ?_)
         clear hK K
         refine norm_ (a' := ?_) ?_ ?_
         rotate_left
         ·show Act.put _ (some 23) _ = _
          simp only [Act.put, List.setIfInBounds_toArray, List.set_cons_zero, List.set_cons_succ, i64_w, i32_w]
          rfl
         refine pure_ (i := 9) (N := some 24) (v := ?_) (a' := ?_) #[true, true, true, true, true, true, true, true, true, true] rfl rfl (any_of HT_.out (by kernel_rfl)) (fun _ _ _ h => h) (Or.inl ⟨by rfl, ?_⟩) ?_ ?_
         rotate_left
         ·intro w'
          go_simp
          with_reducible rfl
         rotate_left
         ·simp only [Act.put, List.setIfInBounds_toArray, List.set_cons_zero, List.set_cons_succ, i64_w, i32_w]
          rfl
         refine done_ (done_of HT_.out (by kernel_rfl)) ?_
         have hcz19_0 : w18.cell? ⟨gb190, 0, none⟩ = some (.int .i64 a1_0) := (blk_cell BK190.out 0).trans rfl
         have hcz19_1 : w18.cell? ⟨gb190, 1, none⟩ = some (.int .i64 a1_1) := (blk_cell BK190.out 1).trans rfl
         have hfz19_0 := blk_frozen BK190.out 0
         have hfz19_1 := blk_frozen BK190.out 1
         try go_wp2_with (first | ((with_reducible refine gate_builtin (b := .append) (xs := #[.tmp 25, .tmp 27]) rfl ?_); at_builtin; refine Kd.R_append k48 (w0 := w) w.heap.size rfl (.tmp 25) (.tmp 27) 24 48 (.agg #[(.int .i64 0), (.int .i64 0)]) 16 rfl Tryz.underlying24 info48 rfl (by decide) (by omega) u5 x5_1 (⟨a1_0, a1_1⟩ : S48) [.int .i64 a1_0, .int .i64 a1_1] (fun k_ => k_ ≠ gb190) (fun _ => False) rfl rfl ?aP (fun _ hk => hk.elim) ?aF ?aO ?aB ?aS ?aL ?_; (case aP => exact k48_mkM _ _ _ (⟨a1_0, a1_1⟩ : S48)); (case aB => exact (by repeat (first | (with_reducible first | exact HB.out | apply below_alloc | apply pw_below_drewN | apply below_drew1 | refine below_set ?_ GE190.out) | exact HB.out))); (case aF => exact (fun k_ hk => Kd.freshB (g := gb190) (o := .cells #[.int .i64 a1_0, .int .i64 a1_1] 48 (0, 0)) (by (with_reducible repeat (first | refine blk_drewN ?_ _ | refine blk_drew ?_ | refine blk_alloc ?_ _)); exact BK190.out) k_ hk)); (case aO => exact (by (with_reducible repeat (first | apply Kd.R_alloc | apply Kd.R_drewN | apply Kd.R_drew)); exact HO_5.out)); (case aS => exact (below_size (by repeat (first | (with_reducible first | exact HB.out | apply below_alloc | apply pw_below_drewN | apply below_drew1 | refine below_set ?_ GE190.out) | exact HB.out)))); (case aL => have := LMc15.out; omega); intro v201 w20 ho hb hg hat; rw [← Ny200.out] at ho; have n0_ := Aside0.mk (blk_grown (g := gb190) (o := .cells #[.int .i64 a1_0, .int .i64 a1_1] 48 (0, 0)) (by (with_reducible repeat (first | refine blk_drewN ?_ _ | refine blk_drew ?_ | refine blk_alloc ?_ _)); exact BK190.out) hg (Kd.R_away HO_5.out (fun _ hk => hk))); have n1_ := Aside0.mk (hb); have n2_ := Aside0.mk (ho); clear BK190; clear HB; clear HO_5; have BK190 := n0_; have HB := n1_; have HO202 := n2_; clear n0_ n1_ n2_; clear ho hb hg hat; have p203 : 0 ≤ (x7_1 : Int) := of_decide_eq_true (by first | (with_reducible assumption) | assumption); have q203 : x7_1 < (l0.length : Int) := of_decide_eq_true (by first | (with_reducible assumption) | assumption); obtain ⟨ad203, e203, hx203_0, hx203_1⟩ := at_T48 HR0.out x7_1 p203 q203; obtain rfl : ad198 = ad203 := (by injection e203); replace hx203_0 := (HB.out.cell (World.block_lt_of_cell? w _ hx203_0)).trans hx203_0; replace hx203_1 := (HB.out.cell (World.block_lt_of_cell? w _ hx203_1)).trans hx203_1; replace p203 := eq_true p203; replace q203 := eq_true q203) | ((with_reducible refine gate_builtin (b := .append) (xs := #[.tmp 29, .tmp 34]) rfl ?_); at_builtin; refine Kd.R_append k48 (w0 := w) w.heap.size rfl (.tmp 29) (.tmp 34) 24 48 (.agg #[(.int .i64 0), (.int .i64 0)]) 16 rfl Tryz.underlying24 info48 rfl (by decide) (by omega) v201 y200 (⟨(rd_T48 l0 x7_1).f0, (rd_T48 l0 x7_1).f1⟩ : S48) [.int .i64 ((rd_T48 l0 x7_1).f0), .int .i64 ((rd_T48 l0 x7_1).f1)] (fun k_ => k_ ≠ gb190) (fun _ => False) rfl rfl ?aP (fun _ hk => hk.elim) ?aF ?aO ?aB ?aS ?aL ?_; (case aP => exact k48_mkM _ _ _ (⟨(rd_T48 l0 x7_1).f0, (rd_T48 l0 x7_1).f1⟩ : S48)); (case aB => exact (by repeat (first | (with_reducible first | exact HB.out | apply below_alloc | apply pw_below_drewN | apply below_drew1 | refine below_set ?_ GE190.out) | exact HB.out))); (case aF => exact (fun k_ hk => Kd.freshB (g := gb190) (o := .cells #[.int .i64 a1_0, .int .i64 a1_1] 48 (0, 0)) (by (with_reducible repeat (first | refine blk_drewN ?_ _ | refine blk_drew ?_ | refine blk_alloc ?_ _)); exact BK190.out) k_ hk)); (case aO => exact (by (with_reducible repeat (first | apply Kd.R_alloc | apply Kd.R_drewN | apply Kd.R_drew)); exact HO202.out)); (case aS => exact (below_size (by repeat (first | (with_reducible first | exact HB.out | apply below_alloc | apply pw_below_drewN | apply below_drew1 | refine below_set ?_ GE190.out) | exact HB.out)))); (case aL => have := LMc16.out; omega); intro v205 w21 ho hb hg hat; rw [← Ny204.out] at ho; have n0_ := Aside0.mk (blk_grown (g := gb190) (o := .cells #[.int .i64 a1_0, .int .i64 a1_1] 48 (0, 0)) (by (with_reducible repeat (first | refine blk_drewN ?_ _ | refine blk_drew ?_ | refine blk_alloc ?_ _)); exact BK190.out) hg (Kd.R_away HO202.out (fun _ hk => hk))); have n1_ := Aside0.mk (hb); have n2_ := Aside0.mk (ho); clear BK190; clear HB; clear HO202; have BK190 := n0_; have HB := n1_; have HO206 := n2_; clear n0_ n1_ n2_; clear ho hb hg hat))
         go_roundg k1
         case measure => have := HK1.out; omega
         case rel => exact ⟨(y204), (true), (wrap64 (x7_1 + 1)), (by first | rfl | (simp; done) | (simp [*]; done)), (by first | rfl | (simp; done) | (simp [*]; done)), H', ⟨by have := HK1.out; omega⟩, ⟨by (with_reducible repeat (first | apply Kd.R_alloc | apply Kd.R_drewN | apply Kd.R_drew)); exact HO206.out⟩, ⟨by (with_reducible repeat (first | refine blk_drewN ?_ _ | refine blk_drew ?_ | refine blk_alloc ?_ _)); exact BK190.out⟩, ⟨by repeat (first | (with_reducible first | exact HB.out | apply below_alloc | apply pw_below_drewN | apply below_drew1 | refine below_set ?_ GE190.out) | exact HB.out)⟩⟩
        ·rw [if_neg c16] at H
         exact absurd H (by simp)
       ·rw [if_neg c15] at H
        exact absurd H (by simp)
      ·replace c14 := Bool.eq_false_iff.mpr c14
       subst c14
       have H1 : (if x5_1.length < 8796093022208 then (masterdiscref39_insert.l0 k1 l0 (x5_1 ++ [(⟨(rd_T48 l0 x7_1).f0, (rd_T48 l0 x7_1).f1⟩ : S48)]) false (wrap64 (x7_1 + 1)) a1_0 a1_1) else (none)) = some r := by rw [if_neg (show ¬ (false = true) by decide)] at H; exact H
       clear H
       have H := H1
       clear H1
       by_cases c22 : x5_1.length < 8796093022208
       ·rw [if_pos c22] at H
        have LMc22 := Aside0.mk c22
        clear c22
        obtain ⟨y208, hy208⟩ : ∃ y_ : List (S48), y_ = (x5_1 ++ [(⟨(rd_T48 l0 x7_1).f0, (rd_T48 l0 x7_1).f1⟩ : S48)]) := ⟨_, rfl⟩
        replace H : (masterdiscref39_insert.l0 k1 l0 y208 false (wrap64 (x7_1 + 1)) a1_0 a1_1) = some r := by first | (rw [hy208]; with_reducible exact H) | (have H2_ := (Option.bind_some _ _).symm.trans H; rw [hy208]; with_reducible exact H2_) | (have H2_ := (Option.bind_some _ _).symm.trans H; with_reducible exact H2_) | with_reducible exact H | (rw [hy208]; exact H) | exact H
        have Ny208 := Aside0.mk hy208
        clear hy208
        have H' := Aside0.mk H
        clear H
        try go_wp2
        have n0_ := Aside0.mk (Kd.R_drew HO_5.out)
        have n1_ := Aside0.mk (blk_drew BK190.out)
        have n2_ := Aside0.mk (below_drew1 HB.out)
        clear HO_5
        clear BK190
        clear HB
        have HO_5 := n0_
        have BK190 := n1_
        have HB := n2_
        clear n0_ n1_ n2_
        have p198 : 0 ≤ (x7_1 : Int) := of_decide_eq_true (by first | (with_reducible assumption) | assumption)
        have q198 : x7_1 < (l0.length : Int) := of_decide_eq_true (by first | (with_reducible assumption) | assumption)
        obtain ⟨ad198, e198, hx198_0, hx198_1⟩ := at_T48 HR0.out x7_1 p198 q198
        have hw198_1 := hx198_1
        have hw198_0 := hx198_0
        cases e198
        replace hx198_0 := (HB.out.cell (World.block_lt_of_cell? w _ hx198_0)).trans hx198_0
        replace hx198_1 := (HB.out.cell (World.block_lt_of_cell? w _ hx198_1)).trans hx198_1
        replace p198 := eq_true p198
        replace q198 := eq_true q198
        refine start_ (n := 10) (S := fun w' => w'.cell? ⟨gb190, 0, none⟩ = some (.int .i64 a1_0) ∧ w'.cell? ⟨gb190, 1, none⟩ = some (.int .i64 a1_1) ∧ w'.cell? (ad198.add ((x7_1).toNat * 2)) = some (.int .i64 ((rd_T48 l0 x7_1).f0)) ∧ w'.cell? ⟨(ad198.add ((x7_1).toNat * 2)).block, (ad198.add ((x7_1).toNat * 2)).off + 1, none⟩ = some (.int .i64 ((rd_T48 l0 x7_1).f1))) (ds := []) #[false, false, false, false, false, false, false, false, false, false] (by kernel_rfl) rfl rfl ⟨(blk_cell BK190.out 0).trans rfl, (blk_cell BK190.out 1).trans rfl, ((HB.out.cell (World.block_lt_of_cell? w _ hw198_0)).trans hw198_0), ((HB.out.cell (World.block_lt_of_cell? w _ hw198_1)).trans hw198_1)⟩ (fun hHeld => ?_); refine with_tabW masterdiscref39_insert.tab6 masterdiscref39_insert.bits6 (fun HT_ HW_ => ?_)
        generalize wr.drew = w23 at HO_5 BK190 HB hx198_0 hx198_1 hHeld ⊢
        refine pure_ (i := 0) (N := some 15) (v := ?_) (a' := ?_) #[true, false, false, false, false, false, false, false, false, false] rfl rfl (any_of HT_.out (by kernel_rfl)) (fun _ _ _ h => h) (Or.inl ⟨by rfl, ?_⟩) ?_ ?_
        rotate_left
        ·intro w'
         go_simp
         with_reducible rfl
        rotate_left
        ·simp only [Act.put, List.setIfInBounds_toArray, List.set_cons_zero, List.set_cons_succ, i64_w, i32_w]
         rfl
        refine pure_ (i := 1) (N := some 16) (v := ?_) (a' := ?_) #[true, true, false, false, false, false, false, false, false, false] rfl rfl (any_of HT_.out (by kernel_rfl)) (fun _ _ _ h => h) (Or.inl ⟨by rfl, ?_⟩) ?_ ?_
        rotate_left
        ·intro w'
         go_simp
         with_reducible rfl
        rotate_left
        ·simp only [Act.put, List.setIfInBounds_toArray, List.set_cons_zero, List.set_cons_succ, i64_w, i32_w]
         rfl
        refine pure_ (i := 2) (N := some 17) (v := ?_) (a' := ?_) #[true, true, true, false, false, false, false, false, false, false] rfl rfl (any_of HT_.out (by kernel_rfl)) (fun _ _ _ h => h) (Or.inl ⟨by rfl, ?_⟩) ?_ ?_
        rotate_left
        ·intro w'
         go_simp
         with_reducible rfl
        rotate_left
        ·simp only [Act.put, List.setIfInBounds_toArray, List.set_cons_zero, List.set_cons_succ, i64_w, i32_w]
         rfl
        refine pure_ (i := 4) (N := some 19) (v := ?_) (a' := ?_) #[true, true, true, false, true, false, false, false, false, false] rfl rfl (any_of HT_.out (by kernel_rfl)) (fun _ _ _ h => h) (Or.inl ⟨by rfl, ?_⟩) ?_ ?_
        rotate_left
        ·intro w'
         go_simp
         with_reducible rfl
        rotate_left
        ·simp only [Act.put, List.setIfInBounds_toArray, List.set_cons_zero, List.set_cons_succ, i64_w, i32_w]
         rfl
        refine pure_ (i := 5) (N := some 20) (v := ?_) (a' := ?_) #[true, true, true, false, true, true, false, false, false, false] rfl rfl (any_of HT_.out (by kernel_rfl)) (fun _ _ _ h => h) (Or.inl ⟨by rfl, ?_⟩) ?_ ?_
        rotate_left
        ·intro w'
         go_simp
         with_reducible rfl
        rotate_left
        ·simp only [Act.put, List.setIfInBounds_toArray, List.set_cons_zero, List.set_cons_succ, i64_w, i32_w]
         rfl
        refine pure_ (i := 6) (N := some 21) (v := ?_) (a' := ?_) #[true, true, true, false, true, true, true, false, false, false] rfl rfl (any_of HT_.out (by kernel_rfl)) (fun _ _ _ h => h) (Or.inl ⟨by rfl, ?_⟩) ?_ ?_
        rotate_left
        ·intro w'
         go_simp
         with_reducible rfl
        rotate_left
        ·simp only [Act.put, List.setIfInBounds_toArray, List.set_cons_zero, List.set_cons_succ, i64_w, i32_w]
         rfl
        refine take_ (i := 3) (N := some 18) (v := ?_) (a' := ?_) #[true, true, true, true, true, true, true, false, false, false] rfl rfl (take_ofW HT_.out HW_.out (by kernel_rfl)) (fun _ _ _ h => h) (Or.inl ⟨by rfl, ?_⟩) hHeld ?_ ?_
        rotate_left
        ·rintro w' ⟨s0, s1, s2, s3⟩
         go_simp
         with_reducible rfl
        rotate_left
        ·simp only [Act.put, List.setIfInBounds_toArray, List.set_cons_zero, List.set_cons_succ, i64_w, i32_w]
         rfl
        refine take_ (i := 7) (N := some 22) (v := ?_) (a' := ?_) #[true, true, true, true, true, true, true, true, false, false] rfl rfl (take_ofW HT_.out HW_.out (by kernel_rfl)) (fun _ _ _ h => h) (Or.inl ⟨by rfl, ?_⟩) hHeld ?_ ?_
        rotate_left
        ·rintro w' ⟨s0, s1, s2, s3⟩
         go_simp
         with_reducible rfl
        rotate_left
        ·simp only [Act.put, List.setIfInBounds_toArray, List.set_cons_zero, List.set_cons_succ, i64_w, i32_w]
         rfl
        refine one_ (i := 8) (N := some 23) #[true, true, true, true, true, true, true, true, true, false] rfl rfl (one_of HT_.out (by kernel_rfl)) (by decide) (fun K hK => ?_)
        refine goes_ Tryz.func58 (by kernel_rfl) rfl #[.agg #[.int .i64 a1_0, .int .i64 a1_1], .agg #[.int .i64 ((rd_T48 l0 x7_1).f0), .int .i64 ((rd_T48 l0 x7_1).f1)]] (by rfl) rfl rfl (by (try simp only [List.map_toArray, List.map_cons, List.map_nil]); first | done | rfl | (simp only [List.length_drop, List.length_take]; rfl)) ?_
        with_reducible refine (masterdiscref39_before.calls a1_0 a1_1 ((rd_T48 l0 x7_1).f0) ((rd_T48 l0 x7_1).f1) false _ A13.out).mono ?_
        rintro e w24 ⟨rfl, hb⟩
        refine ⟨_, rfl, ?_⟩
        have n0_ := Aside0.mk (Kd.R_below (by (with_reducible repeat (first | apply Kd.R_alloc | apply Kd.R_drewN | apply Kd.R_drew)); exact HO_5.out) hb)
        have n1_ := Aside0.mk (blk_below (g := gb190) (o := .cells #[.int .i64 a1_0, .int .i64 a1_1] 48 (0, 0)) (by (with_reducible repeat (first | refine blk_drewN ?_ _ | refine blk_drew ?_ | refine blk_alloc ?_ _)); exact BK190.out) hb)
        have n2_ := Aside0.mk (below_step (by repeat (first | (with_reducible first | exact HB.out | apply below_alloc | apply pw_below_drewN | apply below_drew1 | refine below_set ?_ GE190.out) | exact HB.out)) hb)
        clear HO_5
        clear BK190
        clear HB
        have HO_5 := n0_
        have BK190 := n1_
        have HB := n2_
        clear n0_ n1_ n2_
        (try clear hb)
        (try clear hb2)
        (try clear hk)
        (try clear hi)
        refine hK.out _ _ ⟨(blk_cell BK190.out 0).trans rfl, (blk_cell BK190.out 1).trans rfl, ((HB.out.cell (World.block_lt_of_cell? w _ hw198_0)).trans hw198_0), ((HB.out.cell (World.block_lt_of_cell? w _ hw198_1)).trans hw198_1)⟩ (fun hHeld => ?_)
        clear hK K
        refine norm_ (a' := ?_) ?_ ?_
        rotate_left
        ·show Act.put _ (some 23) _ = _
         simp only [Act.put, List.setIfInBounds_toArray, List.set_cons_zero, List.set_cons_succ, i64_w, i32_w]
         rfl
        refine pure_ (i := 9) (N := some 24) (v := ?_) (a' := ?_) #[true, true, true, true, true, true, true, true, true, true] rfl rfl (any_of HT_.out (by kernel_rfl)) (fun _ _ _ h => h) (Or.inl ⟨by rfl, ?_⟩) ?_ ?_
        rotate_left
        ·intro w'
         go_simp
         with_reducible rfl
        rotate_left
        ·simp only [Act.put, List.setIfInBounds_toArray, List.set_cons_zero, List.set_cons_succ, i64_w, i32_w]
         rfl
        refine done_ (done_of HT_.out (by kernel_rfl)) ?_
        have p207 : 0 ≤ (x7_1 : Int) := of_decide_eq_true (by first | (with_reducible assumption) | assumption)
        have q207 : x7_1 < (l0.length : Int) := of_decide_eq_true (by first | (with_reducible assumption) | assumption)
        obtain ⟨ad207, e207, hx207_0, hx207_1⟩ := at_T48 HR0.out x7_1 p207 q207
        obtain rfl : ad198 = ad207 := (by injection e207)
        replace hx207_0 := (HB.out.cell (World.block_lt_of_cell? w _ hx207_0)).trans hx207_0
        replace hx207_1 := (HB.out.cell (World.block_lt_of_cell? w _ hx207_1)).trans hx207_1
        replace p207 := eq_true p207
        replace q207 := eq_true q207
        try go_wp2_with (first | ((with_reducible refine gate_builtin (b := .append) (xs := #[.tmp 29, .tmp 34]) rfl ?_); at_builtin; refine Kd.R_append k48 (w0 := w) w.heap.size rfl (.tmp 29) (.tmp 34) 24 48 (.agg #[(.int .i64 0), (.int .i64 0)]) 16 rfl Tryz.underlying24 info48 rfl (by decide) (by omega) u5 x5_1 (⟨(rd_T48 l0 x7_1).f0, (rd_T48 l0 x7_1).f1⟩ : S48) [.int .i64 ((rd_T48 l0 x7_1).f0), .int .i64 ((rd_T48 l0 x7_1).f1)] (fun k_ => k_ ≠ gb190) (fun _ => False) rfl rfl ?aP (fun _ hk => hk.elim) ?aF ?aO ?aB ?aS ?aL ?_; (case aP => exact k48_mkM _ _ _ (⟨(rd_T48 l0 x7_1).f0, (rd_T48 l0 x7_1).f1⟩ : S48)); (case aB => exact (by repeat (first | (with_reducible first | exact HB.out | apply below_alloc | apply pw_below_drewN | apply below_drew1 | refine below_set ?_ GE190.out) | exact HB.out))); (case aF => exact (fun k_ hk => Kd.freshB (g := gb190) (o := .cells #[.int .i64 a1_0, .int .i64 a1_1] 48 (0, 0)) (by (with_reducible repeat (first | refine blk_drewN ?_ _ | refine blk_drew ?_ | refine blk_alloc ?_ _)); exact BK190.out) k_ hk)); (case aO => exact (by (with_reducible repeat (first | apply Kd.R_alloc | apply Kd.R_drewN | apply Kd.R_drew)); exact HO_5.out)); (case aS => exact (below_size (by repeat (first | (with_reducible first | exact HB.out | apply below_alloc | apply pw_below_drewN | apply below_drew1 | refine below_set ?_ GE190.out) | exact HB.out)))); (case aL => have := LMc22.out; omega); intro v209 w25 ho hb hg hat; rw [← Ny208.out] at ho; have n0_ := Aside0.mk (blk_grown (g := gb190) (o := .cells #[.int .i64 a1_0, .int .i64 a1_1] 48 (0, 0)) (by (with_reducible repeat (first | refine blk_drewN ?_ _ | refine blk_drew ?_ | refine blk_alloc ?_ _)); exact BK190.out) hg (Kd.R_away HO_5.out (fun _ hk => hk))); have n1_ := Aside0.mk (hb); have n2_ := Aside0.mk (ho); clear BK190; clear HB; clear HO_5; have BK190 := n0_; have HB := n1_; have HO210 := n2_; clear n0_ n1_ n2_; clear ho hb hg hat))
        go_roundg k1
        case measure => have := HK1.out; omega
        case rel => exact ⟨(y208), (false), (wrap64 (x7_1 + 1)), (by first | rfl | (simp; done) | (simp [*]; done)), (by first | rfl | (simp; done) | (simp [*]; done)), H', ⟨by have := HK1.out; omega⟩, ⟨by (with_reducible repeat (first | apply Kd.R_alloc | apply Kd.R_drewN | apply Kd.R_drew)); exact HO210.out⟩, ⟨by (with_reducible repeat (first | refine blk_drewN ?_ _ | refine blk_drew ?_ | refine blk_alloc ?_ _)); exact BK190.out⟩, ⟨by repeat (first | (with_reducible first | exact HB.out | apply below_alloc | apply pw_below_drewN | apply below_drew1 | refine below_set ?_ GE190.out) | exact HB.out)⟩⟩
       ·rw [if_neg c22] at H
        exact absurd H (by simp)
     ·rw [if_neg c12] at H
      exact absurd H (by simp)
   ·rw [if_neg c6] at H
    have c6b0 : decide (x7_1 < (l0.length : Int)) = false := decide_eq_false c6
    clear c6
    by_cases c26 : x6_1 = true
    ·subst c26
     have H1 : (some x5_1) = some r := by rw [if_pos rfl] at H; exact H
     clear H
     have H := H1
     clear H1
     obtain rfl := Option.some.inj H
     go_wp2
     go_ret
     exact ⟨_, by first | rfl | (simp [errW_none, errW_some] <;> rfl) | (simp [*, errW_none, errW_some] <;> rfl), by (with_reducible repeat (first | apply Kd.R_alloc | apply Kd.R_drewN | apply Kd.R_drew)); exact Kd.R_mono HO_5.out (fun _ hk => trivial), by repeat (first | (with_reducible first | exact HB.out | apply below_alloc | apply pw_below_drewN | apply below_drew1 | refine below_set ?_ GE190.out) | exact HB.out)⟩
    ·replace c26 := Bool.eq_false_iff.mpr c26
     subst c26
     have H1 : (if x5_1.length < 8796093022208 then (some (x5_1 ++ [(⟨a1_0, a1_1⟩ : S48)])) else (none)) = some r := by rw [if_neg (show ¬ (false = true) by decide)] at H; exact H
     clear H
     have H := H1
     clear H1
     by_cases c27 : x5_1.length < 8796093022208
     ·rw [if_pos c27] at H
      have LMc27 := Aside0.mk c27
      clear c27
      obtain ⟨y211, hy211⟩ : ∃ y_ : List (S48), y_ = (x5_1 ++ [(⟨a1_0, a1_1⟩ : S48)]) := ⟨_, rfl⟩
      replace H : (some y211) = some r := by first | (rw [hy211]; with_reducible exact H) | (have H2_ := (Option.bind_some _ _).symm.trans H; rw [hy211]; with_reducible exact H2_) | (have H2_ := (Option.bind_some _ _).symm.trans H; with_reducible exact H2_) | with_reducible exact H | (rw [hy211]; exact H) | exact H
      have Ny211 := Aside0.mk hy211
      clear hy211
      obtain rfl := Option.some.inj H
      have hcz28_0 : wr.cell? ⟨gb190, 0, none⟩ = some (.int .i64 a1_0) := (blk_cell BK190.out 0).trans rfl
      have hcz28_1 : wr.cell? ⟨gb190, 1, none⟩ = some (.int .i64 a1_1) := (blk_cell BK190.out 1).trans rfl
      have hfz28_0 := blk_frozen BK190.out 0
      have hfz28_1 := blk_frozen BK190.out 1
      go_wp2_with (first | ((with_reducible refine gate_builtin (b := .append) (xs := #[.tmp 38, .tmp 40]) rfl ?_); at_builtin; refine Kd.R_append k48 (w0 := w) w.heap.size rfl (.tmp 38) (.tmp 40) 24 48 (.agg #[(.int .i64 0), (.int .i64 0)]) 16 rfl Tryz.underlying24 info48 rfl (by decide) (by omega) u5 x5_1 (⟨a1_0, a1_1⟩ : S48) [.int .i64 a1_0, .int .i64 a1_1] (fun k_ => k_ ≠ gb190) (fun _ => False) rfl rfl ?aP (fun _ hk => hk.elim) ?aF ?aO ?aB ?aS ?aL ?_; (case aP => exact k48_mkM _ _ _ (⟨a1_0, a1_1⟩ : S48)); (case aB => exact (by repeat (first | (with_reducible first | exact HB.out | apply below_alloc | apply pw_below_drewN | apply below_drew1 | refine below_set ?_ GE190.out) | exact HB.out))); (case aF => exact (fun k_ hk => Kd.freshB (g := gb190) (o := .cells #[.int .i64 a1_0, .int .i64 a1_1] 48 (0, 0)) (by (with_reducible repeat (first | refine blk_drewN ?_ _ | refine blk_drew ?_ | refine blk_alloc ?_ _)); exact BK190.out) k_ hk)); (case aO => exact (by (with_reducible repeat (first | apply Kd.R_alloc | apply Kd.R_drewN | apply Kd.R_drew)); exact HO_5.out)); (case aS => exact (below_size (by repeat (first | (with_reducible first | exact HB.out | apply below_alloc | apply pw_below_drewN | apply below_drew1 | refine below_set ?_ GE190.out) | exact HB.out)))); (case aL => have := LMc27.out; omega); intro v212 w29 ho hb hg hat; rw [← Ny211.out] at ho; have n0_ := Aside0.mk (blk_grown (g := gb190) (o := .cells #[.int .i64 a1_0, .int .i64 a1_1] 48 (0, 0)) (by (with_reducible repeat (first | refine blk_drewN ?_ _ | refine blk_drew ?_ | refine blk_alloc ?_ _)); exact BK190.out) hg (Kd.R_away HO_5.out (fun _ hk => hk))); have n1_ := Aside0.mk (hb); have n2_ := Aside0.mk (ho); clear BK190; clear HB; clear HO_5; have BK190 := n0_; have HB := n1_; have HO213 := n2_; clear n0_ n1_ n2_; clear ho hb hg hat))
      go_ret
      exact ⟨_, by first | rfl | (simp [errW_none, errW_some] <;> rfl) | (simp [*, errW_none, errW_some] <;> rfl), by (with_reducible repeat (first | apply Kd.R_alloc | apply Kd.R_drewN | apply Kd.R_drew)); exact Kd.R_mono HO213.out (fun _ hk => trivial), by repeat (first | (with_reducible first | exact HB.out | apply below_alloc | apply pw_below_drewN | apply below_drew1 | refine below_set ?_ GE190.out) | exact HB.out)⟩
     ·rw [if_neg c27] at H
      exact absurd H (by simp)

end Go.Proofs.YtdepicgdbealpaaGreat.V
