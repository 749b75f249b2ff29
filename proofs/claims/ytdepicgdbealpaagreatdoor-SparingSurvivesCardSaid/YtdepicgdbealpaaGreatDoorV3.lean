/- Plain functions, contracts and rows, written by a program of this session out of the translation (hprint.sh, over the kit's print). Lean checks them. -/
import Derived.Test.YtdepicgdbealpaaGreatDoorV0
import Derived.Test.YtdepicgdbealpaaGreatDoorV2
namespace Go.Proofs.YtdepicgdbealpaaGreatDoor.V
open Go.RowKit Go.Proofs.YtdepicgdbealpaaGreatDoorW.PrintWords Go.Proofs.YtdepicgdbealpaaGreatDoorW.PrintLast Go.Proofs.YtdepicgdbealpaaGreatDoorW.PrintMore
attribute [local go_sem] max2_int min2_int max_two min_two max_three min_three max_four min_four   -- for this text's walks alone
set_option linter.unusedVariables false
set_option linter.unusedSimpArgs false

/-! ### sparing_Valid: function 10 -/
mutual
def sparing_Valid.j0 : Nat → Bool → Int → List (S54) → Option (Bool)
 | 0, _, _, _ => none
 | k + 1, x16, x108000, x108001 => if x16 = true then (some false) else (sparing_Valid.l0 k x108001 (x108001.length : Int) 0 x108000 x108001)
def sparing_Valid.l0 : Nat → List (S54) → Int → Int → Int → List (S54) → Option (Bool)
 | 0, _, _, _, _, _ => none
 | k + 1, x18, x19, x20, x108000, x108001 => if x20 < x19 then (if 0 ≤ x20 then (if x20 < (x18.length : Int) then ((sparing_word.f ((rd_T54 x18 x20).f1)).bind fun t111 => (if t111 = true then ((sparing_word.f ((rd_T54 x18 x20).f0)).bind fun t112 => (if t112 = true then (if ((rd_T54 x18 x20).f0) = 4294967295 then (sparing_Valid.j2 k x20 x18 x19 x20 false x108000 x108001 ((rd_T54 x18 x20).f0) ((rd_T54 x18 x20).f1)) else (sparing_Valid.j2 k x20 x18 x19 x20 ((Int.tmod ((rd_T54 x18 x20).f0) 8) != 0) x108000 x108001 ((rd_T54 x18 x20).f0) ((rd_T54 x18 x20).f1))) else (sparing_Valid.j2 k x20 x18 x19 x20 true x108000 x108001 ((rd_T54 x18 x20).f0) ((rd_T54 x18 x20).f1)))) else (sparing_Valid.j2 k x20 x18 x19 x20 true x108000 x108001 ((rd_T54 x18 x20).f0) ((rd_T54 x18 x20).f1)))) else (none)) else (none)) else (some true)
def sparing_Valid.j2 : Nat → Int → List (S54) → Int → Int → Bool → Int → List (S54) → Int → Int → Option (Bool)
 | 0, _, _, _, _, _, _, _, _, _ => none
 | k + 1, x3, x18, x19, x20, x45, x108000, x108001, x111000, x111001 => if x45 = true then (some false) else (if 0 ≤ x3 then (if x3 ≤ (x108001.length : Int) then ((some (x108001.take (x3 : Int).toNat : List (S54))).bind fun y113 => (sparing_Valid.l1 k x18 x19 x20 y113 (y113.length : Int) 0 x108000 x108001 x111000 x111001)) else (none)) else (none))
def sparing_Valid.l1 : Nat → List (S54) → Int → Int → List (S54) → Int → Int → Int → List (S54) → Int → Int → Option (Bool)
 | 0, _, _, _, _, _, _, _, _, _, _ => none
 | k + 1, x18, x19, x20, x49, x50, x51, x108000, x108001, x111000, x111001 => if x51 < x50 then (if 0 ≤ x51 then (if x51 < (x49.length : Int) then (if (mx (wrap64 (x111001 - ((rd_T54 x49 x51).f1))) (wrap64 (((rd_T54 x49 x51).f1) - x111001))) < 8 then (some false) else (if ((rd_T54 x49 x51).f0) > x111000 then (some false) else (if ((rd_T54 x49 x51).f0) = x111000 then (if x111000 = 4294967295 then (sparing_Valid.l1 k x18 x19 x20 x49 x50 (wrap64 (x51 + 1)) x108000 x108001 x111000 x111001) else (some false)) else (sparing_Valid.l1 k x18 x19 x20 x49 x50 (wrap64 (x51 + 1)) x108000 x108001 x111000 x111001)))) else (none)) else (none)) else (sparing_Valid.l0 k x18 x19 (wrap64 (x20 + 1)) x108000 x108001)
end
def sparing_Valid.f (k : Nat) (a0_0 : Int) (l0_1 : List (S54)) : Option (Bool) := (sparing_word.f a0_0).bind fun t108 => (if t108 = true then (sparing_Valid.j0 k (decide ((l0_1.length : Int) > 8)) a0_0 l0_1) else (sparing_Valid.j0 k true a0_0 l0_1))
theorem sparing_Valid.mono_l : ∀ k, (∀ y0 y1 y2, LeO (sparing_Valid.j0 k y0 y1 y2) (sparing_Valid.j0 (k + 1) y0 y1 y2)) ∧ (∀ y0 y1 y2 y3 y4, LeO (sparing_Valid.l0 k y0 y1 y2 y3 y4) (sparing_Valid.l0 (k + 1) y0 y1 y2 y3 y4)) ∧ (∀ y0 y1 y2 y3 y4 y5 y6 y7 y8, LeO (sparing_Valid.j2 k y0 y1 y2 y3 y4 y5 y6 y7 y8) (sparing_Valid.j2 (k + 1) y0 y1 y2 y3 y4 y5 y6 y7 y8)) ∧ (∀ y0 y1 y2 y3 y4 y5 y6 y7 y8 y9, LeO (sparing_Valid.l1 k y0 y1 y2 y3 y4 y5 y6 y7 y8 y9) (sparing_Valid.l1 (k + 1) y0 y1 y2 y3 y4 y5 y6 y7 y8 y9))
 | 0 => ⟨fun _ _ _ r h => by simp [sparing_Valid.j0] at h, fun _ _ _ _ _ r h => by simp [sparing_Valid.l0] at h, fun _ _ _ _ _ _ _ _ _ r h => by simp [sparing_Valid.j2] at h, fun _ _ _ _ _ _ _ _ _ _ r h => by simp [sparing_Valid.l1] at h⟩
 | k + 1 => by
  obtain ⟨ih0, ih1, ih2, ih3⟩ := sparing_Valid.mono_l k
  refine ⟨?_, ?_, ?_, ?_⟩
  ·intro y0 y1 y2
   unfold sparing_Valid.j0
   repeat' first
   | (with_reducible exact ih0 _ _ _)
   | (with_reducible exact ih1 _ _ _ _ _)
   | (with_reducible exact ih2 _ _ _ _ _ _ _ _ _)
   | (with_reducible exact ih3 _ _ _ _ _ _ _ _ _ _)
   | (with_reducible exact LeO.refl _)
   | (with_reducible exact LeO.none _)
   | (with_reducible refine LeO.ite ?_ ?_)
   | (with_reducible refine LeO.bind ?_ (fun _ => ?_))
   | exact ih0 _ _ _
   | exact ih1 _ _ _ _ _
   | exact ih2 _ _ _ _ _ _ _ _ _
   | exact ih3 _ _ _ _ _ _ _ _ _ _
   | exact LeO.none _
   | refine LeO.ite ?_ ?_
   | refine LeO.bind ?_ (fun _ => ?_)
  ·intro y0 y1 y2 y3 y4
   unfold sparing_Valid.l0
   repeat' first
   | (with_reducible exact ih0 _ _ _)
   | (with_reducible exact ih1 _ _ _ _ _)
   | (with_reducible exact ih2 _ _ _ _ _ _ _ _ _)
   | (with_reducible exact ih3 _ _ _ _ _ _ _ _ _ _)
   | (with_reducible exact LeO.refl _)
   | (with_reducible exact LeO.none _)
   | (with_reducible refine LeO.ite ?_ ?_)
   | (with_reducible refine LeO.bind ?_ (fun _ => ?_))
   | exact ih0 _ _ _
   | exact ih1 _ _ _ _ _
   | exact ih2 _ _ _ _ _ _ _ _ _
   | exact ih3 _ _ _ _ _ _ _ _ _ _
   | exact LeO.none _
   | refine LeO.ite ?_ ?_
   | refine LeO.bind ?_ (fun _ => ?_)
  ·intro y0 y1 y2 y3 y4 y5 y6 y7 y8
   unfold sparing_Valid.j2
   repeat' first
   | (with_reducible exact ih0 _ _ _)
   | (with_reducible exact ih1 _ _ _ _ _)
   | (with_reducible exact ih2 _ _ _ _ _ _ _ _ _)
   | (with_reducible exact ih3 _ _ _ _ _ _ _ _ _ _)
   | (with_reducible exact LeO.refl _)
   | (with_reducible exact LeO.none _)
   | (with_reducible refine LeO.ite ?_ ?_)
   | (with_reducible refine LeO.bind ?_ (fun _ => ?_))
   | exact ih0 _ _ _
   | exact ih1 _ _ _ _ _
   | exact ih2 _ _ _ _ _ _ _ _ _
   | exact ih3 _ _ _ _ _ _ _ _ _ _
   | exact LeO.none _
   | refine LeO.ite ?_ ?_
   | refine LeO.bind ?_ (fun _ => ?_)
  ·intro y0 y1 y2 y3 y4 y5 y6 y7 y8 y9
   unfold sparing_Valid.l1
   repeat' first
   | (with_reducible exact ih0 _ _ _)
   | (with_reducible exact ih1 _ _ _ _ _)
   | (with_reducible exact ih2 _ _ _ _ _ _ _ _ _)
   | (with_reducible exact ih3 _ _ _ _ _ _ _ _ _ _)
   | (with_reducible exact LeO.refl _)
   | (with_reducible exact LeO.none _)
   | (with_reducible refine LeO.ite ?_ ?_)
   | (with_reducible refine LeO.bind ?_ (fun _ => ?_))
   | exact ih0 _ _ _
   | exact ih1 _ _ _ _ _
   | exact ih2 _ _ _ _ _ _ _ _ _
   | exact ih3 _ _ _ _ _ _ _ _ _ _
   | exact LeO.none _
   | refine LeO.ite ?_ ?_
   | refine LeO.bind ?_ (fun _ => ?_)
theorem sparing_Valid.mono : ∀ a0 a1 k, LeO (sparing_Valid.f k a0 a1) (sparing_Valid.f (k + 1) a0 a1) := by
 intro a0 a1 k
 obtain ⟨ih0, ih1, ih2, ih3⟩ := sparing_Valid.mono_l k
 unfold sparing_Valid.f
 repeat' first
   | (with_reducible exact ih0 _ _ _)
   | (with_reducible exact ih1 _ _ _ _ _)
   | (with_reducible exact ih2 _ _ _ _ _ _ _ _ _)
   | (with_reducible exact ih3 _ _ _ _ _ _ _ _ _ _)
   | (with_reducible exact LeO.refl _)
   | (with_reducible exact LeO.none _)
   | (with_reducible refine LeO.ite ?_ ?_)
   | (with_reducible refine LeO.bind ?_ (fun _ => ?_))
   | exact ih0 _ _ _
   | exact ih1 _ _ _ _ _
   | exact ih2 _ _ _ _ _ _ _ _ _
   | exact ih3 _ _ _ _ _ _ _ _ _ _
   | exact LeO.none _
   | refine LeO.ite ?_ ?_
   | refine LeO.bind ?_ (fun _ => ?_)
set_option maxHeartbeats 8000000 in
set_option maxRecDepth 100000 in
theorem sparing_Valid.calls (k : Nat) (a0_0 : Int) (A0_1 : Option Addr) (c0_1 : Nat) (l0_1 : List (S54)) (r : Bool) (w : World) (hr0_1 : Kd.C k54 w A0_1 l0_1.length l0_1) (hc0_1 : l0_1.length ≤ c0_1) (h : sparing_Valid.f k a0_0 l0_1 = some r) :
  Calls Tryz.prog 10 #[.agg #[.int .i64 a0_0, .slice A0_1 l0_1.length c0_1]] w fun e w' => e = .returned (.bool r) ∧ Below w.heap.size w w' := by
 have hu24 := Tryz.underlying24
 have hu54 := Tryz.underlying54
 have HR0_1 := Aside0.mk hr0_1
 have HC0_1 := Aside0.mk hc0_1
 clear hr0_1 hc0_1
 have HB := Aside0.mk (Below.refl w.heap.size w)
 have H : ((sparing_word.f a0_0).bind fun t108 => (if t108 = true then (sparing_Valid.j0 k (decide ((l0_1.length : Int) > 8)) a0_0 l0_1) else (sparing_Valid.j0 k true a0_0 l0_1))) = some r := h
 clear h
 have HC2 := Aside0.mk H
 clear H
 go_enter Tryz.func10, Tryz.ntmps10
 go_upto_region 1 with (first | ((with_reducible refine gate_dst (N := 1) rfl ?_); (try (refine gate_guard (by rfl) ?_; dsimp only)); refine box_event ?hg (N := 1) ?hd (cs := #[.int .i64 a0_0, .slice A0_1 l0_1.length c0_1]) (t := 24) ?hr ?_; (case hd => rfl); (case hg => rfl); (case hr => first | (go_simp; done) | (go_simp; rfl)); intro gb107 hg w3 hbox hb; have n0_ := Aside0.mk (below_step (by repeat (first | (with_reducible first | exact HB.out | apply below_alloc | apply pw_below_drewN | apply below_drew1) | exact HB.out)) hb); have n1_ := Aside0.mk (hbox); have n2_ := Aside0.mk ((by rw [hg]; exact (below_size (by repeat (first | (with_reducible first | exact HB.out | apply below_alloc | apply pw_below_drewN | apply below_drew1) | exact HB.out))) : w.heap.size ≤ gb107)); have n3_ := Aside0.mk ((by rw [hg]; exact (below_size (by repeat (first | (with_reducible first | exact HB.out | apply below_alloc | apply pw_below_drewN | apply below_drew1) | exact HB.out))) : w.heap.size ≤ gb107)); clear HB; have HB := n0_; have BK107 := n1_; have GW107 := n2_; have GE107 := n3_; clear n0_ n1_ n2_ n3_; clear hb hbox hg))
 (try simp only [Act.put, List.setIfInBounds_toArray, List.set_cons_zero, List.set_cons_succ])
 go_cut [16] (fun v16 wc => ∃ (kq : Nat) (x16_1 : Bool), v16 = .bool x16_1 ∧ Aside0 (sparing_Valid.j0 kq x16_1 a0_0 l0_1 = some r) ∧ Aside0 (kq ≤ k) ∧ Aside0 (wc.heap[gb107]? = some (.cells #[.int .i64 a0_0, (.slice A0_1 l0_1.length c0_1)] 24 (0, 0))) ∧ Aside0 (Below w.heap.size w wc))
 case first =>
  have H := HC2.out
  clear HC2
  replace H := Option.bind_eq_some_iff.mp H
  obtain ⟨t108, A40, H⟩ := H
  replace H : (if t108 = true then (sparing_Valid.j0 k (decide ((l0_1.length : Int) > 8)) a0_0 l0_1) else (sparing_Valid.j0 k true a0_0 l0_1)) = some r := H
  have A4 := Aside0.mk A40
  clear A40
  by_cases c5 : t108 = true
  ·subst c5
   have H1 : (sparing_Valid.j0 k (decide ((l0_1.length : Int) > 8)) a0_0 l0_1) = some r := by rw [if_pos rfl] at H; exact H
   clear H
   have H := H1
   clear H1
   have H' := Aside0.mk H
   clear H
   have hcz6_0 : w3.cell? ⟨gb107, 0, none⟩ = some (.int .i64 a0_0) := (blk_cell BK107.out 0).trans rfl
   have hcz6_1 : w3.cell? ⟨gb107, 1, none⟩ = some (.slice A0_1 l0_1.length c0_1) := (blk_cell BK107.out 1).trans rfl
   have hfz6_0 := blk_frozen BK107.out 0
   have hfz6_1 := blk_frozen BK107.out 1
   go_wp2_with (first | ((with_reducible refine gate_callee (f := 18) rfl ?_); refine goesL_ (some 9) rfl rfl Tryz.func18 (by kernel_rfl) rfl #[.int .i64 a0_0] rfl (by (try simp only [List.map_toArray, List.map_cons, List.map_nil]); first | done | rfl | (simp only [List.length_drop, List.length_take]; rfl)) ?_; (with_reducible refine (sparing_word.calls a0_0 true _ A4.out).mono ?_); rintro e w' ⟨rfl, ⟨nd, rfl⟩⟩; refine ⟨_, rfl, ?_⟩))
   go_meet
   case rel => exact ⟨_, (decide ((l0_1.length : Int) > 8)), (by first | rfl | (simp; done) | (simp [*]; done)), H', ⟨by first | omega | exact Nat.le_refl _⟩, ⟨by (with_reducible repeat (first | refine blk_drewN ?_ _ | refine blk_drew ?_ | refine blk_alloc ?_ _)); exact BK107.out⟩, ⟨by repeat (first | (with_reducible first | exact HB.out | apply below_alloc | apply pw_below_drewN | apply below_drew1 | refine below_set ?_ GE107.out) | exact HB.out)⟩⟩
  ·replace c5 := Bool.eq_false_iff.mpr c5
   subst c5
   have H1 : (sparing_Valid.j0 k true a0_0 l0_1) = some r := by rw [if_neg (show ¬ (false = true) by decide)] at H; exact H
   clear H
   have H := H1
   clear H1
   have H' := Aside0.mk H
   clear H
   have hcz7_0 : w3.cell? ⟨gb107, 0, none⟩ = some (.int .i64 a0_0) := (blk_cell BK107.out 0).trans rfl
   have hcz7_1 : w3.cell? ⟨gb107, 1, none⟩ = some (.slice A0_1 l0_1.length c0_1) := (blk_cell BK107.out 1).trans rfl
   have hfz7_0 := blk_frozen BK107.out 0
   have hfz7_1 := blk_frozen BK107.out 1
   go_wp2_with (first | ((with_reducible refine gate_callee (f := 18) rfl ?_); refine goesL_ (some 9) rfl rfl Tryz.func18 (by kernel_rfl) rfl #[.int .i64 a0_0] rfl (by (try simp only [List.map_toArray, List.map_cons, List.map_nil]); first | done | rfl | (simp only [List.length_drop, List.length_take]; rfl)) ?_; (with_reducible refine (sparing_word.calls a0_0 false _ A4.out).mono ?_); rintro e w' ⟨rfl, ⟨nd, rfl⟩⟩; refine ⟨_, rfl, ?_⟩))
   go_meet
   case rel => exact ⟨_, (true), (by first | rfl | (simp; done) | (simp [*]; done)), H', ⟨by first | omega | exact Nat.le_refl _⟩, ⟨by (with_reducible repeat (first | refine blk_drewN ?_ _ | refine blk_drew ?_ | refine blk_alloc ?_ _)); exact BK107.out⟩, ⟨by repeat (first | (with_reducible first | exact HB.out | apply below_alloc | apply pw_below_drewN | apply below_drew1 | refine below_set ?_ GE107.out) | exact HB.out)⟩⟩
 case rest =>
  clear HC2
  try clear c1
  try clear p2
  try clear c5
  try clear hcz6_0
  try clear hcz6_1
  try clear hcz7_0
  try clear hcz7_1
  try clear hfz6_0
  try clear hfz6_1
  try clear hfz7_0
  try clear hfz7_1
  obtain ⟨kq, x16_1, rfl, HA, HJ1, BK107, HB⟩ := hcut
  cases kq with
  | zero => exact absurd HA.out (by simp [sparing_Valid.j0])
  | succ kj1 =>
   have H := HA.out
   clear HA
   simp only [sparing_Valid.j0] at H
   by_cases c8 : x16_1 = true
   ·subst c8
    have H1 : (some false) = some r := by rw [if_pos rfl] at H; exact H
    clear H
    have H := H1
    clear H1
    obtain rfl := Option.some.inj H
    go_wp2
    go_ret
    exact ⟨by first | rfl | (simp [errW_none, errW_some] <;> rfl) | (simp [*, errW_none, errW_some] <;> rfl), by repeat (first | (with_reducible first | exact HB.out | apply below_alloc | apply pw_below_drewN | apply below_drew1 | refine below_set ?_ GE107.out) | exact HB.out)⟩
   ·replace c8 := Bool.eq_false_iff.mpr c8
    subst c8
    have H1 : (sparing_Valid.l0 kj1 l0_1 (l0_1.length : Int) 0 a0_0 l0_1) = some r := by rw [if_neg (show ¬ (false = true) by decide)] at H; exact H
    clear H
    have H := H1
    clear H1
    have H' := Aside0.mk H
    clear H
    have hcz9_0 : wc.cell? ⟨gb107, 0, none⟩ = some (.int .i64 a0_0) := (blk_cell BK107.out 0).trans rfl
    have hcz9_1 : wc.cell? ⟨gb107, 1, none⟩ = some (.slice A0_1 l0_1.length c0_1) := (blk_cell BK107.out 1).trans rfl
    have hfz9_0 := blk_frozen BK107.out 0
    have hfz9_1 := blk_frozen BK107.out 1
    go_wp2
    go_loopg [20] kj1 (fun kq v20 w' => ∃ (x20_2 : Int), v20 = .int .i64 x20_2 ∧ Aside0 (sparing_Valid.l0 kq l0_1 (l0_1.length : Int) x20_2 a0_0 l0_1 = some r) ∧ Aside0 (kq ≤ kj1) ∧ Aside0 (w'.heap[gb107]? = some (.cells #[.int .i64 a0_0, (.slice A0_1 l0_1.length c0_1)] 24 (0, 0))) ∧ Aside0 (Below w.heap.size w w'))
    case atStart => exact ⟨(0), (by first | rfl | (simp; done) | (simp [*]; done)), H', ⟨Nat.le_refl _⟩, ⟨by (with_reducible repeat (first | refine blk_drewN ?_ _ | refine blk_drew ?_ | refine blk_alloc ?_ _)); exact BK107.out⟩, ⟨by repeat (first | (with_reducible first | exact HB.out | apply below_alloc | apply pw_below_drewN | apply below_drew1 | refine below_set ?_ GE107.out) | exact HB.out)⟩⟩
    case round =>
     clear H'
     try clear c1
     try clear p2
     try clear c5
     try clear c8
     try clear hcz6_0
     try clear hcz6_1
     try clear hcz7_0
     try clear hcz7_1
     try clear hcz9_0
     try clear hcz9_1
     try clear hfz6_0
     try clear hfz6_1
     try clear hfz7_0
     try clear hfz7_1
     try clear hfz9_0
     try clear hfz9_1
     try clear p2
     obtain ⟨x20_2, rfl, HA, HK2, BK107, HB⟩ := hrel
     cases gk with
     | zero => exact absurd HA.out (by simp [sparing_Valid.l0])
     | succ k2 =>
      have H := HA.out
      clear HA
      simp only [sparing_Valid.l0] at H
      by_cases c10 : x20_2 < (l0_1.length : Int)
      ·rw [if_pos c10] at H
       have c10b0 : decide (x20_2 < (l0_1.length : Int)) = true := decide_eq_true c10
       clear c10
       by_cases c11 : 0 ≤ x20_2
       ·rw [if_pos c11] at H
        have c11b0 : decide (0 ≤ x20_2) = true := decide_eq_true c11
        clear c11
        by_cases c12 : x20_2 < (l0_1.length : Int)
        ·rw [if_pos c12] at H
         have c12b0 : decide (x20_2 < (l0_1.length : Int)) = true := decide_eq_true c12
         clear c12
         have HC13 := Aside0.mk H
         clear H
         have p109 : 0 ≤ (x20_2 : Int) := of_decide_eq_true (by first | (with_reducible assumption) | assumption)
         have q109 : x20_2 < (l0_1.length : Int) := of_decide_eq_true (by first | (with_reducible assumption) | assumption)
         obtain ⟨ad109, e109, hx109_0, hx109_1⟩ := at_T54 HR0_1.out x20_2 p109 q109
         cases e109
         replace hx109_0 := (HB.out.cell (World.block_lt_of_cell? w _ hx109_0)).trans hx109_0
         replace hx109_1 := (HB.out.cell (World.block_lt_of_cell? w _ hx109_1)).trans hx109_1
         replace p109 := eq_true p109
         replace q109 := eq_true q109
         go_upto_region 6 with (first | ((with_reducible refine gate_dst (N := 4) rfl ?_); (try (refine gate_guard (by rfl) ?_; dsimp only)); refine box_event ?hg (N := 4) ?hd (cs := #[.int .i64 0, .int .i64 0]) (t := 54) ?hr ?_; (case hd => rfl); (case hg => rfl); (case hr => first | (go_simp; done) | (go_simp; rfl)); intro gb110 hg w14 hbox hb; have n0_ := Aside0.mk (blk_below (g := gb107) (o := .cells #[.int .i64 a0_0, .slice (some ad109) l0_1.length c0_1] 24 (0, 0)) (by (with_reducible repeat (first | refine blk_drewN ?_ _ | refine blk_drew ?_ | refine blk_alloc ?_ _)); exact BK107.out) hb); have n1_ := Aside0.mk (below_step (by repeat (first | (with_reducible first | exact HB.out | apply below_alloc | apply pw_below_drewN | apply below_drew1 | refine below_set ?_ GE107.out) | exact HB.out)) hb); have n2_ := Aside0.mk (hbox); have n3_ := Aside0.mk ((by rw [hg]; exact (below_size (by repeat (first | (with_reducible first | exact HB.out | apply below_alloc | apply pw_below_drewN | apply below_drew1 | refine below_set ?_ GE107.out) | exact HB.out))) : w.heap.size ≤ gb110)); have n4_ := Aside0.mk ((by rw [hg]; exact (below_size (by repeat (first | (with_reducible first | exact HB.out | apply below_alloc | apply pw_below_drewN | apply below_drew1 | refine below_set ?_ GE107.out) | exact HB.out))) : w.heap.size ≤ gb110)); have n5_ := Aside0.mk ((by rw [hg]; exact Nat.ne_of_lt (blk_lt (g := gb107) (o := .cells #[.int .i64 a0_0, .slice (some ad109) l0_1.length c0_1] 24 (0, 0)) (by (with_reducible repeat (first | refine blk_drewN ?_ _ | refine blk_drew ?_ | refine blk_alloc ?_ _)); exact BK107.out)) : gb107 ≠ gb110)); have n6_ := Aside0.mk ((by rw [hg]; exact Nat.ne_of_gt (blk_lt (g := gb107) (o := .cells #[.int .i64 a0_0, .slice (some ad109) l0_1.length c0_1] 24 (0, 0)) (by (with_reducible repeat (first | refine blk_drewN ?_ _ | refine blk_drew ?_ | refine blk_alloc ?_ _)); exact BK107.out)) : gb110 ≠ gb107)); clear BK107; clear HB; have BK107 := n0_; have HB := n1_; have BK110 := n2_; have GW110 := n3_; have GE110 := n4_; have NB107_110 := n5_; have NB110_107 := n6_; clear n0_ n1_ n2_ n3_ n4_ n5_ n6_; clear hb hbox hg; have hnb15 := NB110_107.out; have hnc15 := NB107_110.out; have hcz16_0 : w14.cell? ⟨gb110, 0, none⟩ = some (.int .i64 0) := (blk_cell BK110.out 0).trans rfl; have hcz16_1 : w14.cell? ⟨gb110, 1, none⟩ = some (.int .i64 0) := (blk_cell BK110.out 1).trans rfl; have hfz16_0 := blk_frozen BK110.out 0; have hfz16_1 := blk_frozen BK110.out 1))
         (try simp only [Act.put, List.setIfInBounds_toArray, List.set_cons_zero, List.set_cons_succ])
         go_cut [45] (fun v45 wc => ∃ (kq : Nat) (x45_12 : Bool), v45 = .bool x45_12 ∧ Aside0 (sparing_Valid.j2 kq x20_2 l0_1 (l0_1.length : Int) x20_2 x45_12 a0_0 l0_1 ((rd_T54 l0_1 x20_2).f0) ((rd_T54 l0_1 x20_2).f1) = some r) ∧ Aside0 (kq ≤ k2) ∧ Aside0 (wc.heap[gb107]? = some (.cells #[.int .i64 a0_0, (.slice (some ad109) l0_1.length c0_1)] 24 (0, 0))) ∧ Aside0 (wc.heap[gb110]? = some (.cells #[.int .i64 ((rd_T54 l0_1 x20_2).f0), .int .i64 ((rd_T54 l0_1 x20_2).f1)] 54 (0, 0))) ∧ Aside0 (Below w.heap.size w wc))
         case first =>
          have H := HC13.out
          clear HC13
          replace H := Option.bind_eq_some_iff.mp H
          obtain ⟨t111, A170, H⟩ := H
          replace H : (if t111 = true then ((sparing_word.f ((rd_T54 l0_1 x20_2).f0)).bind fun t112 => (if t112 = true then (if ((rd_T54 l0_1 x20_2).f0) = 4294967295 then (sparing_Valid.j2 k2 x20_2 l0_1 (l0_1.length : Int) x20_2 false a0_0 l0_1 ((rd_T54 l0_1 x20_2).f0) ((rd_T54 l0_1 x20_2).f1)) else (sparing_Valid.j2 k2 x20_2 l0_1 (l0_1.length : Int) x20_2 ((Int.tmod ((rd_T54 l0_1 x20_2).f0) 8) != 0) a0_0 l0_1 ((rd_T54 l0_1 x20_2).f0) ((rd_T54 l0_1 x20_2).f1))) else (sparing_Valid.j2 k2 x20_2 l0_1 (l0_1.length : Int) x20_2 true a0_0 l0_1 ((rd_T54 l0_1 x20_2).f0) ((rd_T54 l0_1 x20_2).f1)))) else (sparing_Valid.j2 k2 x20_2 l0_1 (l0_1.length : Int) x20_2 true a0_0 l0_1 ((rd_T54 l0_1 x20_2).f0) ((rd_T54 l0_1 x20_2).f1))) = some r := H
          have A17 := Aside0.mk A170
          clear A170
          by_cases c18 : t111 = true
          ·subst c18
           have H1 : ((sparing_word.f ((rd_T54 l0_1 x20_2).f0)).bind fun t112 => (if t112 = true then (if ((rd_T54 l0_1 x20_2).f0) = 4294967295 then (sparing_Valid.j2 k2 x20_2 l0_1 (l0_1.length : Int) x20_2 false a0_0 l0_1 ((rd_T54 l0_1 x20_2).f0) ((rd_T54 l0_1 x20_2).f1)) else (sparing_Valid.j2 k2 x20_2 l0_1 (l0_1.length : Int) x20_2 ((Int.tmod ((rd_T54 l0_1 x20_2).f0) 8) != 0) a0_0 l0_1 ((rd_T54 l0_1 x20_2).f0) ((rd_T54 l0_1 x20_2).f1))) else (sparing_Valid.j2 k2 x20_2 l0_1 (l0_1.length : Int) x20_2 true a0_0 l0_1 ((rd_T54 l0_1 x20_2).f0) ((rd_T54 l0_1 x20_2).f1)))) = some r := by rw [if_pos rfl] at H; exact H
           clear H
           have H := H1
           clear H1
           replace H := Option.bind_eq_some_iff.mp H
           obtain ⟨t112, A190, H⟩ := H
           replace H : (if t112 = true then (if ((rd_T54 l0_1 x20_2).f0) = 4294967295 then (sparing_Valid.j2 k2 x20_2 l0_1 (l0_1.length : Int) x20_2 false a0_0 l0_1 ((rd_T54 l0_1 x20_2).f0) ((rd_T54 l0_1 x20_2).f1)) else (sparing_Valid.j2 k2 x20_2 l0_1 (l0_1.length : Int) x20_2 ((Int.tmod ((rd_T54 l0_1 x20_2).f0) 8) != 0) a0_0 l0_1 ((rd_T54 l0_1 x20_2).f0) ((rd_T54 l0_1 x20_2).f1))) else (sparing_Valid.j2 k2 x20_2 l0_1 (l0_1.length : Int) x20_2 true a0_0 l0_1 ((rd_T54 l0_1 x20_2).f0) ((rd_T54 l0_1 x20_2).f1))) = some r := H
           have A19 := Aside0.mk A190
           clear A190
           by_cases c20 : t112 = true
           ·subst c20
            have H1 : (if ((rd_T54 l0_1 x20_2).f0) = 4294967295 then (sparing_Valid.j2 k2 x20_2 l0_1 (l0_1.length : Int) x20_2 false a0_0 l0_1 ((rd_T54 l0_1 x20_2).f0) ((rd_T54 l0_1 x20_2).f1)) else (sparing_Valid.j2 k2 x20_2 l0_1 (l0_1.length : Int) x20_2 ((Int.tmod ((rd_T54 l0_1 x20_2).f0) 8) != 0) a0_0 l0_1 ((rd_T54 l0_1 x20_2).f0) ((rd_T54 l0_1 x20_2).f1))) = some r := by rw [if_pos rfl] at H; exact H
            clear H
            have H := H1
            clear H1
            by_cases c21 : ((rd_T54 l0_1 x20_2).f0) = 4294967295
            ·rw [if_pos c21] at H
             have c21b0 : (((rd_T54 l0_1 x20_2).f0) == 4294967295) = true := beq_iff_eq.mpr c21
             have c21b1 : (((rd_T54 l0_1 x20_2).f0) != 4294967295) = false := bne_eq_false_iff_eq.mpr c21
             clear c21
             (first | rw [c21b0] | (simp only [i64_w, i32_w]; rw [c21b0]) | skip)
             have H' := Aside0.mk H
             clear H
             have hnb22 := NB110_107.out
             have hnc22 := NB107_110.out
             have hcz23_0 : w14.cell? ⟨gb110, 0, none⟩ = some (.int .i64 0) := (blk_cell BK110.out 0).trans rfl
             have hcz23_1 : w14.cell? ⟨gb110, 1, none⟩ = some (.int .i64 0) := (blk_cell BK110.out 1).trans rfl
             have hfz23_0 := blk_frozen BK110.out 0
             have hfz23_1 := blk_frozen BK110.out 1
             go_wp2_with (first | ((with_reducible refine gate_callee (f := 18) rfl ?_); refine goesL_ (some 27) rfl rfl Tryz.func18 (by kernel_rfl) rfl #[.int .i64 ((rd_T54 l0_1 x20_2).f1)] rfl (by (try simp only [List.map_toArray, List.map_cons, List.map_nil]); first | done | rfl | (simp only [List.length_drop, List.length_take]; rfl)) ?_; (with_reducible refine (sparing_word.calls ((rd_T54 l0_1 x20_2).f1) true _ A17.out).mono ?_); rintro e w' ⟨rfl, ⟨nd, rfl⟩⟩; refine ⟨_, rfl, ?_⟩) | (go_at_call 18; (with_reducible refine (sparing_word.calls ((rd_T54 l0_1 x20_2).f0) true _ A19.out).mono ?_); rintro e w' ⟨rfl, ⟨nd, rfl⟩⟩))
             go_meet
             case rel => exact ⟨_, (false), (by first | rfl | (simp; done) | (simp [*]; done)), H', ⟨by have := HJ1.out; have := HK2.out; first | omega | exact Nat.le_refl _⟩, ⟨by (with_reducible repeat (first | refine blk_drewN ?_ _ | refine blk_drew ?_ | refine blk_alloc ?_ _)); refine blk_far ?_ NB107_110.out _; (with_reducible repeat (first | refine blk_drewN ?_ _ | refine blk_drew ?_ | refine blk_alloc ?_ _)); refine blk_far ?_ NB107_110.out _; (with_reducible repeat (first | refine blk_drewN ?_ _ | refine blk_drew ?_ | refine blk_alloc ?_ _)); exact BK107.out⟩, ⟨by (with_reducible repeat (first | refine blk_drewN ?_ _ | refine blk_drew ?_ | refine blk_alloc ?_ _)); refine blk_put (cs := #[.int .i64 ((rd_T54 l0_1 x20_2).f0), .int .i64 0]) ?_ 1 _ rfl; (with_reducible repeat (first | refine blk_drewN ?_ _ | refine blk_drew ?_ | refine blk_alloc ?_ _)); refine blk_put (cs := #[.int .i64 0, .int .i64 0]) ?_ 0 _ rfl; (with_reducible repeat (first | refine blk_drewN ?_ _ | refine blk_drew ?_ | refine blk_alloc ?_ _)); exact BK110.out⟩, ⟨by repeat (first | (with_reducible first | exact HB.out | apply below_alloc | apply pw_below_drewN | apply below_drew1 | refine below_set ?_ GE107.out | refine below_set ?_ GE110.out) | exact HB.out)⟩⟩
            ·rw [if_neg c21] at H
             have c21b0 : (((rd_T54 l0_1 x20_2).f0) == 4294967295) = false := beq_eq_false_iff_ne.mpr c21
             have c21b1 : (((rd_T54 l0_1 x20_2).f0) != 4294967295) = true := bne_iff_ne.mpr c21
             (first | rw [c21b0] | (simp only [i64_w, i32_w]; rw [c21b0]) | skip)
             have H' := Aside0.mk H
             clear H
             have hnb24 := NB110_107.out
             have hnc24 := NB107_110.out
             have hcz25_0 : w14.cell? ⟨gb110, 0, none⟩ = some (.int .i64 0) := (blk_cell BK110.out 0).trans rfl
             have hcz25_1 : w14.cell? ⟨gb110, 1, none⟩ = some (.int .i64 0) := (blk_cell BK110.out 1).trans rfl
             have hfz25_0 := blk_frozen BK110.out 0
             have hfz25_1 := blk_frozen BK110.out 1
             go_wp2_with (first | ((with_reducible refine gate_callee (f := 18) rfl ?_); refine goesL_ (some 27) rfl rfl Tryz.func18 (by kernel_rfl) rfl #[.int .i64 ((rd_T54 l0_1 x20_2).f1)] rfl (by (try simp only [List.map_toArray, List.map_cons, List.map_nil]); first | done | rfl | (simp only [List.length_drop, List.length_take]; rfl)) ?_; (with_reducible refine (sparing_word.calls ((rd_T54 l0_1 x20_2).f1) true _ A17.out).mono ?_); rintro e w' ⟨rfl, ⟨nd, rfl⟩⟩; refine ⟨_, rfl, ?_⟩) | (go_at_call 18; (with_reducible refine (sparing_word.calls ((rd_T54 l0_1 x20_2).f0) true _ A19.out).mono ?_); rintro e w' ⟨rfl, ⟨nd, rfl⟩⟩))
             go_meet
             case rel => exact ⟨_, (((Int.tmod ((rd_T54 l0_1 x20_2).f0) 8) != 0)), (by first | rfl | (simp; done) | (simp [*]; done)), H', ⟨by have := HJ1.out; have := HK2.out; first | omega | exact Nat.le_refl _⟩, ⟨by (with_reducible repeat (first | refine blk_drewN ?_ _ | refine blk_drew ?_ | refine blk_alloc ?_ _)); refine blk_far ?_ NB107_110.out _; (with_reducible repeat (first | refine blk_drewN ?_ _ | refine blk_drew ?_ | refine blk_alloc ?_ _)); refine blk_far ?_ NB107_110.out _; (with_reducible repeat (first | refine blk_drewN ?_ _ | refine blk_drew ?_ | refine blk_alloc ?_ _)); exact BK107.out⟩, ⟨by (with_reducible repeat (first | refine blk_drewN ?_ _ | refine blk_drew ?_ | refine blk_alloc ?_ _)); refine blk_put (cs := #[.int .i64 ((rd_T54 l0_1 x20_2).f0), .int .i64 0]) ?_ 1 _ rfl; (with_reducible repeat (first | refine blk_drewN ?_ _ | refine blk_drew ?_ | refine blk_alloc ?_ _)); refine blk_put (cs := #[.int .i64 0, .int .i64 0]) ?_ 0 _ rfl; (with_reducible repeat (first | refine blk_drewN ?_ _ | refine blk_drew ?_ | refine blk_alloc ?_ _)); exact BK110.out⟩, ⟨by repeat (first | (with_reducible first | exact HB.out | apply below_alloc | apply pw_below_drewN | apply below_drew1 | refine below_set ?_ GE107.out | refine below_set ?_ GE110.out) | exact HB.out)⟩⟩
           ·replace c20 := Bool.eq_false_iff.mpr c20
            subst c20
            have H1 : (sparing_Valid.j2 k2 x20_2 l0_1 (l0_1.length : Int) x20_2 true a0_0 l0_1 ((rd_T54 l0_1 x20_2).f0) ((rd_T54 l0_1 x20_2).f1)) = some r := by rw [if_neg (show ¬ (false = true) by decide)] at H; exact H
            clear H
            have H := H1
            clear H1
            have H' := Aside0.mk H
            clear H
            have hnb26 := NB110_107.out
            have hnc26 := NB107_110.out
            have hcz27_0 : w14.cell? ⟨gb110, 0, none⟩ = some (.int .i64 0) := (blk_cell BK110.out 0).trans rfl
            have hcz27_1 : w14.cell? ⟨gb110, 1, none⟩ = some (.int .i64 0) := (blk_cell BK110.out 1).trans rfl
            have hfz27_0 := blk_frozen BK110.out 0
            have hfz27_1 := blk_frozen BK110.out 1
            go_wp2_with (first | ((with_reducible refine gate_callee (f := 18) rfl ?_); refine goesL_ (some 27) rfl rfl Tryz.func18 (by kernel_rfl) rfl #[.int .i64 ((rd_T54 l0_1 x20_2).f1)] rfl (by (try simp only [List.map_toArray, List.map_cons, List.map_nil]); first | done | rfl | (simp only [List.length_drop, List.length_take]; rfl)) ?_; (with_reducible refine (sparing_word.calls ((rd_T54 l0_1 x20_2).f1) true _ A17.out).mono ?_); rintro e w' ⟨rfl, ⟨nd, rfl⟩⟩; refine ⟨_, rfl, ?_⟩) | (go_at_call 18; (with_reducible refine (sparing_word.calls ((rd_T54 l0_1 x20_2).f0) false _ A19.out).mono ?_); rintro e w' ⟨rfl, ⟨nd, rfl⟩⟩))
            go_meet
            case rel => exact ⟨_, (true), (by first | rfl | (simp; done) | (simp [*]; done)), H', ⟨by have := HJ1.out; have := HK2.out; first | omega | exact Nat.le_refl _⟩, ⟨by (with_reducible repeat (first | refine blk_drewN ?_ _ | refine blk_drew ?_ | refine blk_alloc ?_ _)); refine blk_far ?_ NB107_110.out _; (with_reducible repeat (first | refine blk_drewN ?_ _ | refine blk_drew ?_ | refine blk_alloc ?_ _)); refine blk_far ?_ NB107_110.out _; (with_reducible repeat (first | refine blk_drewN ?_ _ | refine blk_drew ?_ | refine blk_alloc ?_ _)); exact BK107.out⟩, ⟨by (with_reducible repeat (first | refine blk_drewN ?_ _ | refine blk_drew ?_ | refine blk_alloc ?_ _)); refine blk_put (cs := #[.int .i64 ((rd_T54 l0_1 x20_2).f0), .int .i64 0]) ?_ 1 _ rfl; (with_reducible repeat (first | refine blk_drewN ?_ _ | refine blk_drew ?_ | refine blk_alloc ?_ _)); refine blk_put (cs := #[.int .i64 0, .int .i64 0]) ?_ 0 _ rfl; (with_reducible repeat (first | refine blk_drewN ?_ _ | refine blk_drew ?_ | refine blk_alloc ?_ _)); exact BK110.out⟩, ⟨by repeat (first | (with_reducible first | exact HB.out | apply below_alloc | apply pw_below_drewN | apply below_drew1 | refine below_set ?_ GE107.out | refine below_set ?_ GE110.out) | exact HB.out)⟩⟩
          ·replace c18 := Bool.eq_false_iff.mpr c18
           subst c18
           have H1 : (sparing_Valid.j2 k2 x20_2 l0_1 (l0_1.length : Int) x20_2 true a0_0 l0_1 ((rd_T54 l0_1 x20_2).f0) ((rd_T54 l0_1 x20_2).f1)) = some r := by rw [if_neg (show ¬ (false = true) by decide)] at H; exact H
           clear H
           have H := H1
           clear H1
           have H' := Aside0.mk H
           clear H
           have hnb28 := NB110_107.out
           have hnc28 := NB107_110.out
           have hcz29_0 : w14.cell? ⟨gb110, 0, none⟩ = some (.int .i64 0) := (blk_cell BK110.out 0).trans rfl
           have hcz29_1 : w14.cell? ⟨gb110, 1, none⟩ = some (.int .i64 0) := (blk_cell BK110.out 1).trans rfl
           have hfz29_0 := blk_frozen BK110.out 0
           have hfz29_1 := blk_frozen BK110.out 1
           go_wp2_with (first | ((with_reducible refine gate_callee (f := 18) rfl ?_); refine goesL_ (some 27) rfl rfl Tryz.func18 (by kernel_rfl) rfl #[.int .i64 ((rd_T54 l0_1 x20_2).f1)] rfl (by (try simp only [List.map_toArray, List.map_cons, List.map_nil]); first | done | rfl | (simp only [List.length_drop, List.length_take]; rfl)) ?_; (with_reducible refine (sparing_word.calls ((rd_T54 l0_1 x20_2).f1) false _ A17.out).mono ?_); rintro e w' ⟨rfl, ⟨nd, rfl⟩⟩; refine ⟨_, rfl, ?_⟩))
           go_meet
           case rel => exact ⟨_, (true), (by first | rfl | (simp; done) | (simp [*]; done)), H', ⟨by have := HJ1.out; have := HK2.out; first | omega | exact Nat.le_refl _⟩, ⟨by (with_reducible repeat (first | refine blk_drewN ?_ _ | refine blk_drew ?_ | refine blk_alloc ?_ _)); refine blk_far ?_ NB107_110.out _; (with_reducible repeat (first | refine blk_drewN ?_ _ | refine blk_drew ?_ | refine blk_alloc ?_ _)); refine blk_far ?_ NB107_110.out _; (with_reducible repeat (first | refine blk_drewN ?_ _ | refine blk_drew ?_ | refine blk_alloc ?_ _)); exact BK107.out⟩, ⟨by (with_reducible repeat (first | refine blk_drewN ?_ _ | refine blk_drew ?_ | refine blk_alloc ?_ _)); refine blk_put (cs := #[.int .i64 ((rd_T54 l0_1 x20_2).f0), .int .i64 0]) ?_ 1 _ rfl; (with_reducible repeat (first | refine blk_drewN ?_ _ | refine blk_drew ?_ | refine blk_alloc ?_ _)); refine blk_put (cs := #[.int .i64 0, .int .i64 0]) ?_ 0 _ rfl; (with_reducible repeat (first | refine blk_drewN ?_ _ | refine blk_drew ?_ | refine blk_alloc ?_ _)); exact BK110.out⟩, ⟨by repeat (first | (with_reducible first | exact HB.out | apply below_alloc | apply pw_below_drewN | apply below_drew1 | refine below_set ?_ GE107.out | refine below_set ?_ GE110.out) | exact HB.out)⟩⟩
         case rest =>
          clear HC13
          try clear c1
          try clear p1
          try clear q1
          try clear hx1
          try clear c2
          try clear p2
          try clear c5
          try clear c8
          try clear c10
          try clear c10b0
          try clear p10
          try clear q10
          try clear hx10
          try clear c11
          try clear c11b0
          try clear c12
          try clear c12b0
          try clear c15
          try clear c18
          try clear c20
          try clear c21
          try clear c21b0
          try clear c21b1
          try clear c22
          try clear c24
          try clear c26
          try clear c28
          try clear hcz16_0
          try clear hcz16_1
          try clear hcz23_0
          try clear hcz23_1
          try clear hcz25_0
          try clear hcz25_1
          try clear hcz27_0
          try clear hcz27_1
          try clear hcz29_0
          try clear hcz29_1
          try clear hcz6_0
          try clear hcz6_1
          try clear hcz7_0
          try clear hcz7_1
          try clear hcz9_0
          try clear hcz9_1
          try clear hfz16_0
          try clear hfz16_1
          try clear hfz23_0
          try clear hfz23_1
          try clear hfz25_0
          try clear hfz25_1
          try clear hfz27_0
          try clear hfz27_1
          try clear hfz29_0
          try clear hfz29_1
          try clear hfz6_0
          try clear hfz6_1
          try clear hfz7_0
          try clear hfz7_1
          try clear hfz9_0
          try clear hfz9_1
          try clear hx109_0
          try clear hx109_1
          try clear p109
          try clear p2
          try clear q109
          obtain ⟨kq, x45_12, rfl, HA, HJ12, BK107, BK110, HB⟩ := hcut
          cases kq with
          | zero => exact absurd HA.out (by simp [sparing_Valid.j2])
          | succ kj12 =>
           have H := HA.out
           clear HA
           simp only [sparing_Valid.j2] at H
           by_cases c30 : x45_12 = true
           ·subst c30
            have H1 : (some false) = some r := by rw [if_pos rfl] at H; exact H
            clear H
            have H := H1
            clear H1
            obtain rfl := Option.some.inj H
            go_wp2
            go_ret
            exact ⟨by first | rfl | (simp [errW_none, errW_some] <;> rfl) | (simp [*, errW_none, errW_some] <;> rfl), by repeat (first | (with_reducible first | exact HB.out | apply below_alloc | apply pw_below_drewN | apply below_drew1 | refine below_set ?_ GE107.out | refine below_set ?_ GE110.out) | exact HB.out)⟩
           ·replace c30 := Bool.eq_false_iff.mpr c30
            subst c30
            have H1 : (if 0 ≤ x20_2 then (if x20_2 ≤ (l0_1.length : Int) then ((some (l0_1.take (x20_2 : Int).toNat : List (S54))).bind fun y113 => (sparing_Valid.l1 kj12 l0_1 (l0_1.length : Int) x20_2 y113 (y113.length : Int) 0 a0_0 l0_1 ((rd_T54 l0_1 x20_2).f0) ((rd_T54 l0_1 x20_2).f1))) else (none)) else (none)) = some r := by rw [if_neg (show ¬ (false = true) by decide)] at H; exact H
            clear H
            have H := H1
            clear H1
            by_cases c31 : 0 ≤ x20_2
            ·rw [if_pos c31] at H
             have c31b0 := eq_true c31
             have c31b1 : decide (0 ≤ x20_2) = true := decide_eq_true c31
             clear c31
             by_cases c32 : x20_2 ≤ (l0_1.length : Int)
             ·rw [if_pos c32] at H
              have c32b0 := eq_true c32
              have c32b1 : decide (x20_2 ≤ (l0_1.length : Int)) = true := decide_eq_true c32
              clear c32
              obtain ⟨y113, hy113⟩ : ∃ y_ : List (S54), y_ = (l0_1.take (x20_2 : Int).toNat) := ⟨_, rfl⟩
              replace H : (sparing_Valid.l1 kj12 l0_1 (l0_1.length : Int) x20_2 y113 (y113.length : Int) 0 a0_0 l0_1 ((rd_T54 l0_1 x20_2).f0) ((rd_T54 l0_1 x20_2).f1)) = some r := by first | (rw [hy113]; with_reducible exact H) | (have H2_ := (Option.bind_some _ _).symm.trans H; rw [hy113]; with_reducible exact H2_) | (have H2_ := (Option.bind_some _ _).symm.trans H; with_reducible exact H2_) | with_reducible exact H | (rw [hy113]; exact H) | exact H
              have Ny113 := Aside0.mk hy113
              clear hy113
              have H' := Aside0.mk H
              clear H
              have hnb33 := NB107_110.out
              have hnc33 := NB110_107.out
              have hcz34_0 : wc.cell? ⟨gb107, 0, none⟩ = some (.int .i64 a0_0) := (blk_cell BK107.out 0).trans rfl
              have hcz34_1 : wc.cell? ⟨gb107, 1, none⟩ = some (.slice (some ad109) l0_1.length c0_1) := (blk_cell BK107.out 1).trans rfl
              have hfz34_0 := blk_frozen BK107.out 0
              have hfz34_1 := blk_frozen BK107.out 1
              have q35 : (x20_2 : Int) ≤ ((l0_1.length : Int) : Int) := of_decide_eq_true (by first | (with_reducible assumption) | assumption)
              obtain ⟨i035, hi035, _, hsz35, _⟩ := info_parts info54
              have hroom35 : l0_1.length ≤ c0_1 := HC0_1.out
              have hC35 : Kd.C k54 _ (some ad109) l0_1.length l0_1 := HR0_1.out
              have hcut35 := cut_to (P := Tryz.prog) 22 54 .i64 Tryz.underlying22 hi035 (some ad109) l0_1.length c0_1 x20_2 (of_decide_eq_true (by first | (with_reducible assumption) | assumption)) q35 hroom35
              have hr35 := Kd.C_take (m := (x20_2 : Int).toNat) hC35 (by omega)
              have hy35 : y113.length = (x20_2 : Int).toNat := (by rw [Ny113.out, List.length_take]; omega)
              rw [← Ny113.out] at hr35
              rw [← hy35] at hcut35
              have HR116 := Aside0.mk hr35
              have HC116 := Aside0.mk (show y113.length ≤ c0_1 from by omega)
              clear hr35 hC35 hroom35 hi035 hsz35
              have KY35 := Aside0.mk hy35
              clear hy35
              replace q35 := eq_true q35
              go_wp2
              go_loopg [51] kj12 (fun kq v51 w' => ∃ (x51_4 : Int), v51 = .int .i64 x51_4 ∧ Aside0 (sparing_Valid.l1 kq l0_1 (l0_1.length : Int) x20_2 y113 (y113.length : Int) x51_4 a0_0 l0_1 ((rd_T54 l0_1 x20_2).f0) ((rd_T54 l0_1 x20_2).f1) = some r) ∧ Aside0 (kq ≤ kj12) ∧ Aside0 (w'.heap[gb107]? = some (.cells #[.int .i64 a0_0, (.slice (some ad109) l0_1.length c0_1)] 24 (0, 0))) ∧ Aside0 (w'.heap[gb110]? = some (.cells #[.int .i64 ((rd_T54 l0_1 x20_2).f0), .int .i64 ((rd_T54 l0_1 x20_2).f1)] 54 (0, 0))) ∧ Aside0 (Below w.heap.size w w'))
              case atStart => exact ⟨(0), (by first | rfl | (simp; done) | (simp [*]; done)), H', ⟨Nat.le_refl _⟩, ⟨by (with_reducible repeat (first | refine blk_drewN ?_ _ | refine blk_drew ?_ | refine blk_alloc ?_ _)); exact BK107.out⟩, ⟨by (with_reducible repeat (first | refine blk_drewN ?_ _ | refine blk_drew ?_ | refine blk_alloc ?_ _)); exact BK110.out⟩, ⟨by repeat (first | (with_reducible first | exact HB.out | apply below_alloc | apply pw_below_drewN | apply below_drew1 | refine below_set ?_ GE107.out | refine below_set ?_ GE110.out) | exact HB.out)⟩⟩
              case round =>
               clear H'
               try clear c1
               try clear p1
               try clear q1
               try clear hx1
               try clear c2
               try clear p2
               try clear c3
               try clear q3
               try clear c5
               try clear c8
               try clear c10
               try clear c10b0
               try clear p10
               try clear q10
               try clear hx10
               try clear c11
               try clear c11b0
               try clear c12
               try clear c12b0
               try clear c15
               try clear c18
               try clear c20
               try clear c21
               try clear c21b0
               try clear c21b1
               try clear c22
               try clear c24
               try clear c26
               try clear c28
               try clear c30
               try clear c31
               try clear c31b0
               try clear c31b1
               try clear c32
               try clear c32b0
               try clear c32b1
               try clear c33
               try clear q35
               try clear hcz16_0
               try clear hcz16_1
               try clear hcz23_0
               try clear hcz23_1
               try clear hcz25_0
               try clear hcz25_1
               try clear hcz27_0
               try clear hcz27_1
               try clear hcz29_0
               try clear hcz29_1
               try clear hcz34_0
               try clear hcz34_1
               try clear hcz6_0
               try clear hcz6_1
               try clear hcz7_0
               try clear hcz7_1
               try clear hcz9_0
               try clear hcz9_1
               try clear hfz16_0
               try clear hfz16_1
               try clear hfz23_0
               try clear hfz23_1
               try clear hfz25_0
               try clear hfz25_1
               try clear hfz27_0
               try clear hfz27_1
               try clear hfz29_0
               try clear hfz29_1
               try clear hfz34_0
               try clear hfz34_1
               try clear hfz6_0
               try clear hfz6_1
               try clear hfz7_0
               try clear hfz7_1
               try clear hfz9_0
               try clear hfz9_1
               try clear hx109_0
               try clear hx109_1
               try clear p1
               try clear p10
               try clear p109
               try clear p2
               try clear q1
               try clear q10
               try clear q109
               try clear q35
               obtain ⟨x51_4, rfl, HA, HK4, BK107, BK110, HB⟩ := hrel
               cases gk with
               | zero => exact absurd HA.out (by simp [sparing_Valid.l1])
               | succ k4 =>
                have H := HA.out
                clear HA
                simp only [sparing_Valid.l1] at H
                by_cases c36 : x51_4 < (y113.length : Int)
                ·rw [if_pos c36] at H
                 have c36b0 : decide (x51_4 < (y113.length : Int)) = true := decide_eq_true c36
                 clear c36
                 by_cases c37 : 0 ≤ x51_4
                 ·rw [if_pos c37] at H
                  have c37b0 : decide (0 ≤ x51_4) = true := decide_eq_true c37
                  clear c37
                  by_cases c38 : x51_4 < (y113.length : Int)
                  ·rw [if_pos c38] at H
                   have c38b0 : decide (x51_4 < (y113.length : Int)) = true := decide_eq_true c38
                   clear c38
                   obtain ⟨ji39, hji39⟩ : ∃ j_ : Int, (mx (wrap64 (((rd_T54 l0_1 x20_2).f1) - ((rd_T54 y113 x51_4).f1))) (wrap64 (((rd_T54 y113 x51_4).f1) - ((rd_T54 l0_1 x20_2).f1)))) = j_ := ⟨_, rfl⟩
                   replace H : (if (ji39) < 8 then (some false) else (if ((rd_T54 y113 x51_4).f0) > ((rd_T54 l0_1 x20_2).f0) then (some false) else (if ((rd_T54 y113 x51_4).f0) = ((rd_T54 l0_1 x20_2).f0) then (if ((rd_T54 l0_1 x20_2).f0) = 4294967295 then (sparing_Valid.l1 k4 l0_1 (l0_1.length : Int) x20_2 y113 (y113.length : Int) (wrap64 (x51_4 + 1)) a0_0 l0_1 ((rd_T54 l0_1 x20_2).f0) ((rd_T54 l0_1 x20_2).f1)) else (some false)) else (sparing_Valid.l1 k4 l0_1 (l0_1.length : Int) x20_2 y113 (y113.length : Int) (wrap64 (x51_4 + 1)) a0_0 l0_1 ((rd_T54 l0_1 x20_2).f0) ((rd_T54 l0_1 x20_2).f1))))) = some r := by first | (rw [hji39] at H; exact H) | (simp only [hji39] at H ⊢; exact H)
                   have hji39_ : (if (wrap64 (((rd_T54 l0_1 x20_2).f1) - ((rd_T54 y113 x51_4).f1))) < (wrap64 (((rd_T54 y113 x51_4).f1) - ((rd_T54 l0_1 x20_2).f1))) then (wrap64 (((rd_T54 y113 x51_4).f1) - ((rd_T54 l0_1 x20_2).f1))) else (wrap64 (((rd_T54 l0_1 x20_2).f1) - ((rd_T54 y113 x51_4).f1)))) = ji39 := hji39
                   by_cases c40 : (ji39) < 8
                   ·rw [if_pos c40] at H
                    have c40b0 : decide ((ji39) < 8) = true := decide_eq_true c40
                    clear c40
                    obtain rfl := Option.some.inj H
                    have p117 : 0 ≤ (x51_4 : Int) := of_decide_eq_true (by first | (with_reducible assumption) | assumption)
                    have q117 : x51_4 < (y113.length : Int) := of_decide_eq_true (by first | (with_reducible assumption) | assumption)
                    obtain ⟨ad117, e117, hx117_0, hx117_1⟩ := at_T54 HR116.out x51_4 p117 q117
                    obtain rfl : ad109 = ad117 := (by injection e117)
                    replace hx117_0 := (HB.out.cell (World.block_lt_of_cell? w _ hx117_0)).trans hx117_0
                    replace hx117_1 := (HB.out.cell (World.block_lt_of_cell? w _ hx117_1)).trans hx117_1
                    replace p117 := eq_true p117
                    replace q117 := eq_true q117
                    go_wp2_with (first | ((with_reducible refine gate_dst (N := 6) rfl ?_); (try (refine gate_guard (by rfl) ?_; dsimp only)); refine box_event ?hg (N := 6) ?hd (cs := #[.int .i64 0, .int .i64 0]) (t := 54) ?hr ?_; (case hd => rfl); (case hg => rfl); (case hr => first | (go_simp; done) | (go_simp; rfl)); intro gb118 hg w41 hbox hb; have n0_ := Aside0.mk (blk_below (g := gb107) (o := .cells #[.int .i64 a0_0, .slice (some ad109) l0_1.length c0_1] 24 (0, 0)) (by (with_reducible repeat (first | refine blk_drewN ?_ _ | refine blk_drew ?_ | refine blk_alloc ?_ _)); exact BK107.out) hb); have n1_ := Aside0.mk (blk_below (g := gb110) (o := .cells #[.int .i64 ((rd_T54 l0_1 x20_2).f0), .int .i64 ((rd_T54 l0_1 x20_2).f1)] 54 (0, 0)) (by (with_reducible repeat (first | refine blk_drewN ?_ _ | refine blk_drew ?_ | refine blk_alloc ?_ _)); exact BK110.out) hb); have n2_ := Aside0.mk (below_step (by repeat (first | (with_reducible first | exact HB.out | apply below_alloc | apply pw_below_drewN | apply below_drew1 | refine below_set ?_ GE107.out | refine below_set ?_ GE110.out) | exact HB.out)) hb); have n3_ := Aside0.mk (hbox); have n4_ := Aside0.mk ((by rw [hg]; exact (below_size (by repeat (first | (with_reducible first | exact HB.out | apply below_alloc | apply pw_below_drewN | apply below_drew1 | refine below_set ?_ GE107.out | refine below_set ?_ GE110.out) | exact HB.out))) : w.heap.size ≤ gb118)); have n5_ := Aside0.mk ((by rw [hg]; exact (below_size (by repeat (first | (with_reducible first | exact HB.out | apply below_alloc | apply pw_below_drewN | apply below_drew1 | refine below_set ?_ GE107.out | refine below_set ?_ GE110.out) | exact HB.out))) : w.heap.size ≤ gb118)); have n6_ := Aside0.mk ((by rw [hg]; exact Nat.ne_of_lt (blk_lt (g := gb107) (o := .cells #[.int .i64 a0_0, .slice (some ad109) l0_1.length c0_1] 24 (0, 0)) (by (with_reducible repeat (first | refine blk_drewN ?_ _ | refine blk_drew ?_ | refine blk_alloc ?_ _)); exact BK107.out)) : gb107 ≠ gb118)); have n7_ := Aside0.mk ((by rw [hg]; exact Nat.ne_of_gt (blk_lt (g := gb107) (o := .cells #[.int .i64 a0_0, .slice (some ad109) l0_1.length c0_1] 24 (0, 0)) (by (with_reducible repeat (first | refine blk_drewN ?_ _ | refine blk_drew ?_ | refine blk_alloc ?_ _)); exact BK107.out)) : gb118 ≠ gb107)); have n8_ := Aside0.mk ((by rw [hg]; exact Nat.ne_of_lt (blk_lt (g := gb110) (o := .cells #[.int .i64 ((rd_T54 l0_1 x20_2).f0), .int .i64 ((rd_T54 l0_1 x20_2).f1)] 54 (0, 0)) (by (with_reducible repeat (first | refine blk_drewN ?_ _ | refine blk_drew ?_ | refine blk_alloc ?_ _)); exact BK110.out)) : gb110 ≠ gb118)); have n9_ := Aside0.mk ((by rw [hg]; exact Nat.ne_of_gt (blk_lt (g := gb110) (o := .cells #[.int .i64 ((rd_T54 l0_1 x20_2).f0), .int .i64 ((rd_T54 l0_1 x20_2).f1)] 54 (0, 0)) (by (with_reducible repeat (first | refine blk_drewN ?_ _ | refine blk_drew ?_ | refine blk_alloc ?_ _)); exact BK110.out)) : gb118 ≠ gb110)); clear BK107; clear BK110; clear HB; have BK107 := n0_; have BK110 := n1_; have HB := n2_; have BK118 := n3_; have GW118 := n4_; have GE118 := n5_; have NB107_118 := n6_; have NB118_107 := n7_; have NB110_118 := n8_; have NB118_110 := n9_; clear n0_ n1_ n2_ n3_ n4_ n5_ n6_ n7_ n8_ n9_; clear hb hbox hg; have hnb42 := NB118_107.out; have hnc42 := NB107_118.out; have hnb43 := NB118_110.out; have hnc43 := NB110_118.out; have hcz44_0 : w41.cell? ⟨gb118, 0, none⟩ = some (.int .i64 0) := (blk_cell BK118.out 0).trans rfl; have hcz44_1 : w41.cell? ⟨gb118, 1, none⟩ = some (.int .i64 0) := (blk_cell BK118.out 1).trans rfl; have hfz44_0 := blk_frozen BK118.out 0; have hfz44_1 := blk_frozen BK118.out 1; have hnb45 := NB110_107.out; have hnc45 := NB107_110.out; have hcz46_0 : w41.cell? ⟨gb110, 0, none⟩ = some (.int .i64 ((rd_T54 l0_1 x20_2).f0)) := (blk_cell BK110.out 0).trans rfl; have hcz46_1 : w41.cell? ⟨gb110, 1, none⟩ = some (.int .i64 ((rd_T54 l0_1 x20_2).f1)) := (blk_cell BK110.out 1).trans rfl; have hfz46_0 := blk_frozen BK110.out 0; have hfz46_1 := blk_frozen BK110.out 1))
                    go_ret
                    exact ⟨by first | rfl | (simp [errW_none, errW_some] <;> rfl) | (simp only [← hji39]; first | rfl | (simp [errW_none, errW_some] <;> rfl)) | (simp [*, errW_none, errW_some] <;> rfl), by repeat (first | (with_reducible first | exact HB.out | apply below_alloc | apply pw_below_drewN | apply below_drew1 | refine below_set ?_ GE107.out | refine below_set ?_ GE110.out | refine below_set ?_ GE118.out) | exact HB.out)⟩
                   ·rw [if_neg c40] at H
                    have c40b0 : decide ((ji39) < 8) = false := decide_eq_false c40
                    clear c40
                    by_cases c47 : ((rd_T54 y113 x51_4).f0) > ((rd_T54 l0_1 x20_2).f0)
                    ·rw [if_pos c47] at H
                     have c47b0 : decide (((rd_T54 l0_1 x20_2).f0) < ((rd_T54 y113 x51_4).f0)) = true := decide_eq_true c47
                     clear c47
                     obtain rfl := Option.some.inj H
                     have p117 : 0 ≤ (x51_4 : Int) := of_decide_eq_true (by first | (with_reducible assumption) | assumption)
                     have q117 : x51_4 < (y113.length : Int) := of_decide_eq_true (by first | (with_reducible assumption) | assumption)
                     obtain ⟨ad117, e117, hx117_0, hx117_1⟩ := at_T54 HR116.out x51_4 p117 q117
                     obtain rfl : ad109 = ad117 := (by injection e117)
                     replace hx117_0 := (HB.out.cell (World.block_lt_of_cell? w _ hx117_0)).trans hx117_0
                     replace hx117_1 := (HB.out.cell (World.block_lt_of_cell? w _ hx117_1)).trans hx117_1
                     replace p117 := eq_true p117
                     replace q117 := eq_true q117
                     go_wp2_with (first | ((with_reducible refine gate_dst (N := 6) rfl ?_); (try (refine gate_guard (by rfl) ?_; dsimp only)); refine box_event ?hg (N := 6) ?hd (cs := #[.int .i64 0, .int .i64 0]) (t := 54) ?hr ?_; (case hd => rfl); (case hg => rfl); (case hr => first | (go_simp; done) | (go_simp; rfl)); intro gb118 hg w48 hbox hb; have n0_ := Aside0.mk (blk_below (g := gb107) (o := .cells #[.int .i64 a0_0, .slice (some ad109) l0_1.length c0_1] 24 (0, 0)) (by (with_reducible repeat (first | refine blk_drewN ?_ _ | refine blk_drew ?_ | refine blk_alloc ?_ _)); exact BK107.out) hb); have n1_ := Aside0.mk (blk_below (g := gb110) (o := .cells #[.int .i64 ((rd_T54 l0_1 x20_2).f0), .int .i64 ((rd_T54 l0_1 x20_2).f1)] 54 (0, 0)) (by (with_reducible repeat (first | refine blk_drewN ?_ _ | refine blk_drew ?_ | refine blk_alloc ?_ _)); exact BK110.out) hb); have n2_ := Aside0.mk (below_step (by repeat (first | (with_reducible first | exact HB.out | apply below_alloc | apply pw_below_drewN | apply below_drew1 | refine below_set ?_ GE107.out | refine below_set ?_ GE110.out) | exact HB.out)) hb); have n3_ := Aside0.mk (hbox); have n4_ := Aside0.mk ((by rw [hg]; exact (below_size (by repeat (first | (with_reducible first | exact HB.out | apply below_alloc | apply pw_below_drewN | apply below_drew1 | refine below_set ?_ GE107.out | refine below_set ?_ GE110.out) | exact HB.out))) : w.heap.size ≤ gb118)); have n5_ := Aside0.mk ((by rw [hg]; exact (below_size (by repeat (first | (with_reducible first | exact HB.out | apply below_alloc | apply pw_below_drewN | apply below_drew1 | refine below_set ?_ GE107.out | refine below_set ?_ GE110.out) | exact HB.out))) : w.heap.size ≤ gb118)); have n6_ := Aside0.mk ((by rw [hg]; exact Nat.ne_of_lt (blk_lt (g := gb107) (o := .cells #[.int .i64 a0_0, .slice (some ad109) l0_1.length c0_1] 24 (0, 0)) (by (with_reducible repeat (first | refine blk_drewN ?_ _ | refine blk_drew ?_ | refine blk_alloc ?_ _)); exact BK107.out)) : gb107 ≠ gb118)); have n7_ := Aside0.mk ((by rw [hg]; exact Nat.ne_of_gt (blk_lt (g := gb107) (o := .cells #[.int .i64 a0_0, .slice (some ad109) l0_1.length c0_1] 24 (0, 0)) (by (with_reducible repeat (first | refine blk_drewN ?_ _ | refine blk_drew ?_ | refine blk_alloc ?_ _)); exact BK107.out)) : gb118 ≠ gb107)); have n8_ := Aside0.mk ((by rw [hg]; exact Nat.ne_of_lt (blk_lt (g := gb110) (o := .cells #[.int .i64 ((rd_T54 l0_1 x20_2).f0), .int .i64 ((rd_T54 l0_1 x20_2).f1)] 54 (0, 0)) (by (with_reducible repeat (first | refine blk_drewN ?_ _ | refine blk_drew ?_ | refine blk_alloc ?_ _)); exact BK110.out)) : gb110 ≠ gb118)); have n9_ := Aside0.mk ((by rw [hg]; exact Nat.ne_of_gt (blk_lt (g := gb110) (o := .cells #[.int .i64 ((rd_T54 l0_1 x20_2).f0), .int .i64 ((rd_T54 l0_1 x20_2).f1)] 54 (0, 0)) (by (with_reducible repeat (first | refine blk_drewN ?_ _ | refine blk_drew ?_ | refine blk_alloc ?_ _)); exact BK110.out)) : gb118 ≠ gb110)); clear BK107; clear BK110; clear HB; have BK107 := n0_; have BK110 := n1_; have HB := n2_; have BK118 := n3_; have GW118 := n4_; have GE118 := n5_; have NB107_118 := n6_; have NB118_107 := n7_; have NB110_118 := n8_; have NB118_110 := n9_; clear n0_ n1_ n2_ n3_ n4_ n5_ n6_ n7_ n8_ n9_; clear hb hbox hg; have hnb49 := NB118_107.out; have hnc49 := NB107_118.out; have hnb50 := NB118_110.out; have hnc50 := NB110_118.out; have hcz51_0 : w48.cell? ⟨gb118, 0, none⟩ = some (.int .i64 0) := (blk_cell BK118.out 0).trans rfl; have hcz51_1 : w48.cell? ⟨gb118, 1, none⟩ = some (.int .i64 0) := (blk_cell BK118.out 1).trans rfl; have hfz51_0 := blk_frozen BK118.out 0; have hfz51_1 := blk_frozen BK118.out 1; have hnb52 := NB110_107.out; have hnc52 := NB107_110.out; have hcz53_0 : w48.cell? ⟨gb110, 0, none⟩ = some (.int .i64 ((rd_T54 l0_1 x20_2).f0)) := (blk_cell BK110.out 0).trans rfl; have hcz53_1 : w48.cell? ⟨gb110, 1, none⟩ = some (.int .i64 ((rd_T54 l0_1 x20_2).f1)) := (blk_cell BK110.out 1).trans rfl; have hfz53_0 := blk_frozen BK110.out 0; have hfz53_1 := blk_frozen BK110.out 1))
                     go_ret
                     exact ⟨by first | rfl | (simp [errW_none, errW_some] <;> rfl) | (simp only [← hji39]; first | rfl | (simp [errW_none, errW_some] <;> rfl)) | (simp [*, errW_none, errW_some] <;> rfl), by repeat (first | (with_reducible first | exact HB.out | apply below_alloc | apply pw_below_drewN | apply below_drew1 | refine below_set ?_ GE107.out | refine below_set ?_ GE110.out | refine below_set ?_ GE118.out) | exact HB.out)⟩
                    ·rw [if_neg c47] at H
                     have c47b0 : decide (((rd_T54 l0_1 x20_2).f0) < ((rd_T54 y113 x51_4).f0)) = false := decide_eq_false c47
                     clear c47
                     by_cases c54 : ((rd_T54 y113 x51_4).f0) = ((rd_T54 l0_1 x20_2).f0)
                     ·rw [if_pos c54] at H
                      have c54b0 : (((rd_T54 y113 x51_4).f0) == ((rd_T54 l0_1 x20_2).f0)) = true := beq_iff_eq.mpr c54
                      have c54b1 : (((rd_T54 y113 x51_4).f0) != ((rd_T54 l0_1 x20_2).f0)) = false := bne_eq_false_iff_eq.mpr c54
                      clear c54
                      by_cases c55 : ((rd_T54 l0_1 x20_2).f0) = 4294967295
                      ·rw [if_pos c55] at H
                       have c55b0 : (((rd_T54 l0_1 x20_2).f0) == 4294967295) = true := beq_iff_eq.mpr c55
                       have c55b1 : (((rd_T54 l0_1 x20_2).f0) != 4294967295) = false := bne_eq_false_iff_eq.mpr c55
                       clear c55
                       have H' := Aside0.mk H
                       clear H
                       have p117 : 0 ≤ (x51_4 : Int) := of_decide_eq_true (by first | (with_reducible assumption) | assumption)
                       have q117 : x51_4 < (y113.length : Int) := of_decide_eq_true (by first | (with_reducible assumption) | assumption)
                       obtain ⟨ad117, e117, hx117_0, hx117_1⟩ := at_T54 HR116.out x51_4 p117 q117
                       obtain rfl : ad109 = ad117 := (by injection e117)
                       replace hx117_0 := (HB.out.cell (World.block_lt_of_cell? w _ hx117_0)).trans hx117_0
                       replace hx117_1 := (HB.out.cell (World.block_lt_of_cell? w _ hx117_1)).trans hx117_1
                       replace p117 := eq_true p117
                       replace q117 := eq_true q117
                       go_wp2_with (first | ((with_reducible refine gate_dst (N := 6) rfl ?_); (try (refine gate_guard (by rfl) ?_; dsimp only)); refine box_event ?hg (N := 6) ?hd (cs := #[.int .i64 0, .int .i64 0]) (t := 54) ?hr ?_; (case hd => rfl); (case hg => rfl); (case hr => first | (go_simp; done) | (go_simp; rfl)); intro gb118 hg w56 hbox hb; have n0_ := Aside0.mk (blk_below (g := gb107) (o := .cells #[.int .i64 a0_0, .slice (some ad109) l0_1.length c0_1] 24 (0, 0)) (by (with_reducible repeat (first | refine blk_drewN ?_ _ | refine blk_drew ?_ | refine blk_alloc ?_ _)); exact BK107.out) hb); have n1_ := Aside0.mk (blk_below (g := gb110) (o := .cells #[.int .i64 ((rd_T54 l0_1 x20_2).f0), .int .i64 ((rd_T54 l0_1 x20_2).f1)] 54 (0, 0)) (by (with_reducible repeat (first | refine blk_drewN ?_ _ | refine blk_drew ?_ | refine blk_alloc ?_ _)); exact BK110.out) hb); have n2_ := Aside0.mk (below_step (by repeat (first | (with_reducible first | exact HB.out | apply below_alloc | apply pw_below_drewN | apply below_drew1 | refine below_set ?_ GE107.out | refine below_set ?_ GE110.out) | exact HB.out)) hb); have n3_ := Aside0.mk (hbox); have n4_ := Aside0.mk ((by rw [hg]; exact (below_size (by repeat (first | (with_reducible first | exact HB.out | apply below_alloc | apply pw_below_drewN | apply below_drew1 | refine below_set ?_ GE107.out | refine below_set ?_ GE110.out) | exact HB.out))) : w.heap.size ≤ gb118)); have n5_ := Aside0.mk ((by rw [hg]; exact (below_size (by repeat (first | (with_reducible first | exact HB.out | apply below_alloc | apply pw_below_drewN | apply below_drew1 | refine below_set ?_ GE107.out | refine below_set ?_ GE110.out) | exact HB.out))) : w.heap.size ≤ gb118)); have n6_ := Aside0.mk ((by rw [hg]; exact Nat.ne_of_lt (blk_lt (g := gb107) (o := .cells #[.int .i64 a0_0, .slice (some ad109) l0_1.length c0_1] 24 (0, 0)) (by (with_reducible repeat (first | refine blk_drewN ?_ _ | refine blk_drew ?_ | refine blk_alloc ?_ _)); exact BK107.out)) : gb107 ≠ gb118)); have n7_ := Aside0.mk ((by rw [hg]; exact Nat.ne_of_gt (blk_lt (g := gb107) (o := .cells #[.int .i64 a0_0, .slice (some ad109) l0_1.length c0_1] 24 (0, 0)) (by (with_reducible repeat (first | refine blk_drewN ?_ _ | refine blk_drew ?_ | refine blk_alloc ?_ _)); exact BK107.out)) : gb118 ≠ gb107)); have n8_ := Aside0.mk ((by rw [hg]; exact Nat.ne_of_lt (blk_lt (g := gb110) (o := .cells #[.int .i64 ((rd_T54 l0_1 x20_2).f0), .int .i64 ((rd_T54 l0_1 x20_2).f1)] 54 (0, 0)) (by (with_reducible repeat (first | refine blk_drewN ?_ _ | refine blk_drew ?_ | refine blk_alloc ?_ _)); exact BK110.out)) : gb110 ≠ gb118)); have n9_ := Aside0.mk ((by rw [hg]; exact Nat.ne_of_gt (blk_lt (g := gb110) (o := .cells #[.int .i64 ((rd_T54 l0_1 x20_2).f0), .int .i64 ((rd_T54 l0_1 x20_2).f1)] 54 (0, 0)) (by (with_reducible repeat (first | refine blk_drewN ?_ _ | refine blk_drew ?_ | refine blk_alloc ?_ _)); exact BK110.out)) : gb118 ≠ gb110)); clear BK107; clear BK110; clear HB; have BK107 := n0_; have BK110 := n1_; have HB := n2_; have BK118 := n3_; have GW118 := n4_; have GE118 := n5_; have NB107_118 := n6_; have NB118_107 := n7_; have NB110_118 := n8_; have NB118_110 := n9_; clear n0_ n1_ n2_ n3_ n4_ n5_ n6_ n7_ n8_ n9_; clear hb hbox hg; have hnb57 := NB118_107.out; have hnc57 := NB107_118.out; have hnb58 := NB118_110.out; have hnc58 := NB110_118.out; have hcz59_0 : w56.cell? ⟨gb118, 0, none⟩ = some (.int .i64 0) := (blk_cell BK118.out 0).trans rfl; have hcz59_1 : w56.cell? ⟨gb118, 1, none⟩ = some (.int .i64 0) := (blk_cell BK118.out 1).trans rfl; have hfz59_0 := blk_frozen BK118.out 0; have hfz59_1 := blk_frozen BK118.out 1; have hnb60 := NB110_107.out; have hnc60 := NB107_110.out; have hcz61_0 : w56.cell? ⟨gb110, 0, none⟩ = some (.int .i64 ((rd_T54 l0_1 x20_2).f0)) := (blk_cell BK110.out 0).trans rfl; have hcz61_1 : w56.cell? ⟨gb110, 1, none⟩ = some (.int .i64 ((rd_T54 l0_1 x20_2).f1)) := (blk_cell BK110.out 1).trans rfl; have hfz61_0 := blk_frozen BK110.out 0; have hfz61_1 := blk_frozen BK110.out 1))
                       go_roundg k4
                       case measure => have := HJ1.out; have := HK2.out; have := HJ12.out; have := HK4.out; omega
                       case rel => exact ⟨(wrap64 (x51_4 + 1)), (by first | rfl | (simp; done) | (simp [*]; done)), H', ⟨by have := HJ1.out; have := HK2.out; have := HJ12.out; have := HK4.out; omega⟩, ⟨by (with_reducible repeat (first | refine blk_drewN ?_ _ | refine blk_drew ?_ | refine blk_alloc ?_ _)); refine blk_far ?_ NB107_118.out _; (with_reducible repeat (first | refine blk_drewN ?_ _ | refine blk_drew ?_ | refine blk_alloc ?_ _)); refine blk_far ?_ NB107_118.out _; (with_reducible repeat (first | refine blk_drewN ?_ _ | refine blk_drew ?_ | refine blk_alloc ?_ _)); exact BK107.out⟩, ⟨by (with_reducible repeat (first | refine blk_drewN ?_ _ | refine blk_drew ?_ | refine blk_alloc ?_ _)); refine blk_far ?_ NB110_118.out _; (with_reducible repeat (first | refine blk_drewN ?_ _ | refine blk_drew ?_ | refine blk_alloc ?_ _)); refine blk_far ?_ NB110_118.out _; (with_reducible repeat (first | refine blk_drewN ?_ _ | refine blk_drew ?_ | refine blk_alloc ?_ _)); exact BK110.out⟩, ⟨by repeat (first | (with_reducible first | exact HB.out | apply below_alloc | apply pw_below_drewN | apply below_drew1 | refine below_set ?_ GE107.out | refine below_set ?_ GE110.out | refine below_set ?_ GE118.out) | exact HB.out)⟩⟩
                      ·rw [if_neg c55] at H
                       have c55b0 : (((rd_T54 l0_1 x20_2).f0) == 4294967295) = false := beq_eq_false_iff_ne.mpr c55
                       have c55b1 : (((rd_T54 l0_1 x20_2).f0) != 4294967295) = true := bne_iff_ne.mpr c55
                       obtain rfl := Option.some.inj H
                       have p117 : 0 ≤ (x51_4 : Int) := of_decide_eq_true (by first | (with_reducible assumption) | assumption)
                       have q117 : x51_4 < (y113.length : Int) := of_decide_eq_true (by first | (with_reducible assumption) | assumption)
                       obtain ⟨ad117, e117, hx117_0, hx117_1⟩ := at_T54 HR116.out x51_4 p117 q117
                       obtain rfl : ad109 = ad117 := (by injection e117)
                       replace hx117_0 := (HB.out.cell (World.block_lt_of_cell? w _ hx117_0)).trans hx117_0
                       replace hx117_1 := (HB.out.cell (World.block_lt_of_cell? w _ hx117_1)).trans hx117_1
                       replace p117 := eq_true p117
                       replace q117 := eq_true q117
                       go_wp2_with (first | ((with_reducible refine gate_dst (N := 6) rfl ?_); (try (refine gate_guard (by rfl) ?_; dsimp only)); refine box_event ?hg (N := 6) ?hd (cs := #[.int .i64 0, .int .i64 0]) (t := 54) ?hr ?_; (case hd => rfl); (case hg => rfl); (case hr => first | (go_simp; done) | (go_simp; rfl)); intro gb118 hg w62 hbox hb; have n0_ := Aside0.mk (blk_below (g := gb107) (o := .cells #[.int .i64 a0_0, .slice (some ad109) l0_1.length c0_1] 24 (0, 0)) (by (with_reducible repeat (first | refine blk_drewN ?_ _ | refine blk_drew ?_ | refine blk_alloc ?_ _)); exact BK107.out) hb); have n1_ := Aside0.mk (blk_below (g := gb110) (o := .cells #[.int .i64 ((rd_T54 l0_1 x20_2).f0), .int .i64 ((rd_T54 l0_1 x20_2).f1)] 54 (0, 0)) (by (with_reducible repeat (first | refine blk_drewN ?_ _ | refine blk_drew ?_ | refine blk_alloc ?_ _)); exact BK110.out) hb); have n2_ := Aside0.mk (below_step (by repeat (first | (with_reducible first | exact HB.out | apply below_alloc | apply pw_below_drewN | apply below_drew1 | refine below_set ?_ GE107.out | refine below_set ?_ GE110.out) | exact HB.out)) hb); have n3_ := Aside0.mk (hbox); have n4_ := Aside0.mk ((by rw [hg]; exact (below_size (by repeat (first | (with_reducible first | exact HB.out | apply below_alloc | apply pw_below_drewN | apply below_drew1 | refine below_set ?_ GE107.out | refine below_set ?_ GE110.out) | exact HB.out))) : w.heap.size ≤ gb118)); have n5_ := Aside0.mk ((by rw [hg]; exact (below_size (by repeat (first | (with_reducible first | exact HB.out | apply below_alloc | apply pw_below_drewN | apply below_drew1 | refine below_set ?_ GE107.out | refine below_set ?_ GE110.out) | exact HB.out))) : w.heap.size ≤ gb118)); have n6_ := Aside0.mk ((by rw [hg]; exact Nat.ne_of_lt (blk_lt (g := gb107) (o := .cells #[.int .i64 a0_0, .slice (some ad109) l0_1.length c0_1] 24 (0, 0)) (by (with_reducible repeat (first | refine blk_drewN ?_ _ | refine blk_drew ?_ | refine blk_alloc ?_ _)); exact BK107.out)) : gb107 ≠ gb118)); have n7_ := Aside0.mk ((by rw [hg]; exact Nat.ne_of_gt (blk_lt (g := gb107) (o := .cells #[.int .i64 a0_0, .slice (some ad109) l0_1.length c0_1] 24 (0, 0)) (by (with_reducible repeat (first | refine blk_drewN ?_ _ | refine blk_drew ?_ | refine blk_alloc ?_ _)); exact BK107.out)) : gb118 ≠ gb107)); have n8_ := Aside0.mk ((by rw [hg]; exact Nat.ne_of_lt (blk_lt (g := gb110) (o := .cells #[.int .i64 ((rd_T54 l0_1 x20_2).f0), .int .i64 ((rd_T54 l0_1 x20_2).f1)] 54 (0, 0)) (by (with_reducible repeat (first | refine blk_drewN ?_ _ | refine blk_drew ?_ | refine blk_alloc ?_ _)); exact BK110.out)) : gb110 ≠ gb118)); have n9_ := Aside0.mk ((by rw [hg]; exact Nat.ne_of_gt (blk_lt (g := gb110) (o := .cells #[.int .i64 ((rd_T54 l0_1 x20_2).f0), .int .i64 ((rd_T54 l0_1 x20_2).f1)] 54 (0, 0)) (by (with_reducible repeat (first | refine blk_drewN ?_ _ | refine blk_drew ?_ | refine blk_alloc ?_ _)); exact BK110.out)) : gb118 ≠ gb110)); clear BK107; clear BK110; clear HB; have BK107 := n0_; have BK110 := n1_; have HB := n2_; have BK118 := n3_; have GW118 := n4_; have GE118 := n5_; have NB107_118 := n6_; have NB118_107 := n7_; have NB110_118 := n8_; have NB118_110 := n9_; clear n0_ n1_ n2_ n3_ n4_ n5_ n6_ n7_ n8_ n9_; clear hb hbox hg; have hnb63 := NB118_107.out; have hnc63 := NB107_118.out; have hnb64 := NB118_110.out; have hnc64 := NB110_118.out; have hcz65_0 : w62.cell? ⟨gb118, 0, none⟩ = some (.int .i64 0) := (blk_cell BK118.out 0).trans rfl; have hcz65_1 : w62.cell? ⟨gb118, 1, none⟩ = some (.int .i64 0) := (blk_cell BK118.out 1).trans rfl; have hfz65_0 := blk_frozen BK118.out 0; have hfz65_1 := blk_frozen BK118.out 1; have hnb66 := NB110_107.out; have hnc66 := NB107_110.out; have hcz67_0 : w62.cell? ⟨gb110, 0, none⟩ = some (.int .i64 ((rd_T54 l0_1 x20_2).f0)) := (blk_cell BK110.out 0).trans rfl; have hcz67_1 : w62.cell? ⟨gb110, 1, none⟩ = some (.int .i64 ((rd_T54 l0_1 x20_2).f1)) := (blk_cell BK110.out 1).trans rfl; have hfz67_0 := blk_frozen BK110.out 0; have hfz67_1 := blk_frozen BK110.out 1))
                       go_ret
                       exact ⟨by first | rfl | (simp [errW_none, errW_some] <;> rfl) | (simp only [← hji39]; first | rfl | (simp [errW_none, errW_some] <;> rfl)) | (simp [*, errW_none, errW_some] <;> rfl), by repeat (first | (with_reducible first | exact HB.out | apply below_alloc | apply pw_below_drewN | apply below_drew1 | refine below_set ?_ GE107.out | refine below_set ?_ GE110.out | refine below_set ?_ GE118.out) | exact HB.out)⟩
                     ·rw [if_neg c54] at H
                      have c54b0 : (((rd_T54 y113 x51_4).f0) == ((rd_T54 l0_1 x20_2).f0)) = false := beq_eq_false_iff_ne.mpr c54
                      have c54b1 : (((rd_T54 y113 x51_4).f0) != ((rd_T54 l0_1 x20_2).f0)) = true := bne_iff_ne.mpr c54
                      have H' := Aside0.mk H
                      clear H
                      have p117 : 0 ≤ (x51_4 : Int) := of_decide_eq_true (by first | (with_reducible assumption) | assumption)
                      have q117 : x51_4 < (y113.length : Int) := of_decide_eq_true (by first | (with_reducible assumption) | assumption)
                      obtain ⟨ad117, e117, hx117_0, hx117_1⟩ := at_T54 HR116.out x51_4 p117 q117
                      obtain rfl : ad109 = ad117 := (by injection e117)
                      replace hx117_0 := (HB.out.cell (World.block_lt_of_cell? w _ hx117_0)).trans hx117_0
                      replace hx117_1 := (HB.out.cell (World.block_lt_of_cell? w _ hx117_1)).trans hx117_1
                      replace p117 := eq_true p117
                      replace q117 := eq_true q117
                      go_wp2_with (first | ((with_reducible refine gate_dst (N := 6) rfl ?_); (try (refine gate_guard (by rfl) ?_; dsimp only)); refine box_event ?hg (N := 6) ?hd (cs := #[.int .i64 0, .int .i64 0]) (t := 54) ?hr ?_; (case hd => rfl); (case hg => rfl); (case hr => first | (go_simp; done) | (go_simp; rfl)); intro gb118 hg w68 hbox hb; have n0_ := Aside0.mk (blk_below (g := gb107) (o := .cells #[.int .i64 a0_0, .slice (some ad109) l0_1.length c0_1] 24 (0, 0)) (by (with_reducible repeat (first | refine blk_drewN ?_ _ | refine blk_drew ?_ | refine blk_alloc ?_ _)); exact BK107.out) hb); have n1_ := Aside0.mk (blk_below (g := gb110) (o := .cells #[.int .i64 ((rd_T54 l0_1 x20_2).f0), .int .i64 ((rd_T54 l0_1 x20_2).f1)] 54 (0, 0)) (by (with_reducible repeat (first | refine blk_drewN ?_ _ | refine blk_drew ?_ | refine blk_alloc ?_ _)); exact BK110.out) hb); have n2_ := Aside0.mk (below_step (by repeat (first | (with_reducible first | exact HB.out | apply below_alloc | apply pw_below_drewN | apply below_drew1 | refine below_set ?_ GE107.out | refine below_set ?_ GE110.out) | exact HB.out)) hb); have n3_ := Aside0.mk (hbox); have n4_ := Aside0.mk ((by rw [hg]; exact (below_size (by repeat (first | (with_reducible first | exact HB.out | apply below_alloc | apply pw_below_drewN | apply below_drew1 | refine below_set ?_ GE107.out | refine below_set ?_ GE110.out) | exact HB.out))) : w.heap.size ≤ gb118)); have n5_ := Aside0.mk ((by rw [hg]; exact (below_size (by repeat (first | (with_reducible first | exact HB.out | apply below_alloc | apply pw_below_drewN | apply below_drew1 | refine below_set ?_ GE107.out | refine below_set ?_ GE110.out) | exact HB.out))) : w.heap.size ≤ gb118)); have n6_ := Aside0.mk ((by rw [hg]; exact Nat.ne_of_lt (blk_lt (g := gb107) (o := .cells #[.int .i64 a0_0, .slice (some ad109) l0_1.length c0_1] 24 (0, 0)) (by (with_reducible repeat (first | refine blk_drewN ?_ _ | refine blk_drew ?_ | refine blk_alloc ?_ _)); exact BK107.out)) : gb107 ≠ gb118)); have n7_ := Aside0.mk ((by rw [hg]; exact Nat.ne_of_gt (blk_lt (g := gb107) (o := .cells #[.int .i64 a0_0, .slice (some ad109) l0_1.length c0_1] 24 (0, 0)) (by (with_reducible repeat (first | refine blk_drewN ?_ _ | refine blk_drew ?_ | refine blk_alloc ?_ _)); exact BK107.out)) : gb118 ≠ gb107)); have n8_ := Aside0.mk ((by rw [hg]; exact Nat.ne_of_lt (blk_lt (g := gb110) (o := .cells #[.int .i64 ((rd_T54 l0_1 x20_2).f0), .int .i64 ((rd_T54 l0_1 x20_2).f1)] 54 (0, 0)) (by (with_reducible repeat (first | refine blk_drewN ?_ _ | refine blk_drew ?_ | refine blk_alloc ?_ _)); exact BK110.out)) : gb110 ≠ gb118)); have n9_ := Aside0.mk ((by rw [hg]; exact Nat.ne_of_gt (blk_lt (g := gb110) (o := .cells #[.int .i64 ((rd_T54 l0_1 x20_2).f0), .int .i64 ((rd_T54 l0_1 x20_2).f1)] 54 (0, 0)) (by (with_reducible repeat (first | refine blk_drewN ?_ _ | refine blk_drew ?_ | refine blk_alloc ?_ _)); exact BK110.out)) : gb118 ≠ gb110)); clear BK107; clear BK110; clear HB; have BK107 := n0_; have BK110 := n1_; have HB := n2_; have BK118 := n3_; have GW118 := n4_; have GE118 := n5_; have NB107_118 := n6_; have NB118_107 := n7_; have NB110_118 := n8_; have NB118_110 := n9_; clear n0_ n1_ n2_ n3_ n4_ n5_ n6_ n7_ n8_ n9_; clear hb hbox hg; have hnb69 := NB118_107.out; have hnc69 := NB107_118.out; have hnb70 := NB118_110.out; have hnc70 := NB110_118.out; have hcz71_0 : w68.cell? ⟨gb118, 0, none⟩ = some (.int .i64 0) := (blk_cell BK118.out 0).trans rfl; have hcz71_1 : w68.cell? ⟨gb118, 1, none⟩ = some (.int .i64 0) := (blk_cell BK118.out 1).trans rfl; have hfz71_0 := blk_frozen BK118.out 0; have hfz71_1 := blk_frozen BK118.out 1; have hnb72 := NB110_107.out; have hnc72 := NB107_110.out; have hcz73_0 : w68.cell? ⟨gb110, 0, none⟩ = some (.int .i64 ((rd_T54 l0_1 x20_2).f0)) := (blk_cell BK110.out 0).trans rfl; have hcz73_1 : w68.cell? ⟨gb110, 1, none⟩ = some (.int .i64 ((rd_T54 l0_1 x20_2).f1)) := (blk_cell BK110.out 1).trans rfl; have hfz73_0 := blk_frozen BK110.out 0; have hfz73_1 := blk_frozen BK110.out 1))
                      go_roundg k4
                      case measure => have := HJ1.out; have := HK2.out; have := HJ12.out; have := HK4.out; omega
                      case rel => exact ⟨(wrap64 (x51_4 + 1)), (by first | rfl | (simp; done) | (simp [*]; done)), H', ⟨by have := HJ1.out; have := HK2.out; have := HJ12.out; have := HK4.out; omega⟩, ⟨by (with_reducible repeat (first | refine blk_drewN ?_ _ | refine blk_drew ?_ | refine blk_alloc ?_ _)); refine blk_far ?_ NB107_118.out _; (with_reducible repeat (first | refine blk_drewN ?_ _ | refine blk_drew ?_ | refine blk_alloc ?_ _)); refine blk_far ?_ NB107_118.out _; (with_reducible repeat (first | refine blk_drewN ?_ _ | refine blk_drew ?_ | refine blk_alloc ?_ _)); exact BK107.out⟩, ⟨by (with_reducible repeat (first | refine blk_drewN ?_ _ | refine blk_drew ?_ | refine blk_alloc ?_ _)); refine blk_far ?_ NB110_118.out _; (with_reducible repeat (first | refine blk_drewN ?_ _ | refine blk_drew ?_ | refine blk_alloc ?_ _)); refine blk_far ?_ NB110_118.out _; (with_reducible repeat (first | refine blk_drewN ?_ _ | refine blk_drew ?_ | refine blk_alloc ?_ _)); exact BK110.out⟩, ⟨by repeat (first | (with_reducible first | exact HB.out | apply below_alloc | apply pw_below_drewN | apply below_drew1 | refine below_set ?_ GE107.out | refine below_set ?_ GE110.out | refine below_set ?_ GE118.out) | exact HB.out)⟩⟩
                  ·rw [if_neg c38] at H
                   exact absurd H (by simp)
                 ·rw [if_neg c37] at H
                  exact absurd H (by simp)
                ·rw [if_neg c36] at H
                 have c36b0 : decide (x51_4 < (y113.length : Int)) = false := decide_eq_false c36
                 clear c36
                 have H' := Aside0.mk H
                 clear H
                 go_wp2
                 go_roundg k4
                 case measure => have := HJ1.out; have := HK2.out; have := HJ12.out; have := HK4.out; omega
                 case rel => exact ⟨(wrap64 (x20_2 + 1)), (by first | rfl | (simp; done) | (simp [*]; done)), H', ⟨by have := HJ1.out; have := HK2.out; have := HJ12.out; have := HK4.out; omega⟩, ⟨by (with_reducible repeat (first | refine blk_drewN ?_ _ | refine blk_drew ?_ | refine blk_alloc ?_ _)); exact BK107.out⟩, ⟨by repeat (first | (with_reducible first | exact HB.out | apply below_alloc | apply pw_below_drewN | apply below_drew1 | refine below_set ?_ GE107.out | refine below_set ?_ GE110.out) | exact HB.out)⟩⟩
             ·rw [if_neg c32] at H
              exact absurd H (by simp)
            ·rw [if_neg c31] at H
             exact absurd H (by simp)
        ·rw [if_neg c12] at H
         exact absurd H (by simp)
       ·rw [if_neg c11] at H
        exact absurd H (by simp)
      ·rw [if_neg c10] at H
       have c10b0 : decide (x20_2 < (l0_1.length : Int)) = false := decide_eq_false c10
       clear c10
       obtain rfl := Option.some.inj H
       go_wp2
       go_ret
       exact ⟨by first | rfl | (simp [errW_none, errW_some] <;> rfl) | (simp [*, errW_none, errW_some] <;> rfl), by repeat (first | (with_reducible first | exact HB.out | apply below_alloc | apply pw_below_drewN | apply below_drew1 | refine below_set ?_ GE107.out) | exact HB.out)⟩

end Go.Proofs.YtdepicgdbealpaaGreatDoor.V
