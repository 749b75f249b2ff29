/- Plain functions, contracts and rows, written by a program of this session out of the translation (hprint.sh, over the kit's print). Lean checks them. -/
import Derived.Test.YtdepicgdbealpaaGreatV0
import Derived.Test.YtdepicgdbealpaaGreatV5
namespace Go.Proofs.YtdepicgdbealpaaGreat.V
open Go.RowKit Go.Proofs.YtdepicgdbealpaaGreatW.PrintWords Go.Proofs.YtdepicgdbealpaaGreatW.PrintLast Go.Proofs.YtdepicgdbealpaaGreatW.PrintMore
attribute [local go_sem] max2_int min2_int max_two min_two max_three min_three max_four min_four   -- for this text's walks alone
set_option linter.unusedVariables false
set_option linter.unusedSimpArgs false

/-! ### masterdiscref01_Repeat: function 48 -/
def masterdiscref01_Repeat.l0 : Nat → Int → Int → List Int → Int → Option (ByteArray)
 | 0, _, _, _, _ => none
 | k + 1, x0, x1, x5, x6 => if x6 < x1 then (if x5.length < 140737488355328 then (masterdiscref01_Repeat.l0 k x0 x1 (x5 ++ [x0]) (wrap64 (x6 + 1))) else (none)) else (some (strOfNums x5))
def masterdiscref01_Repeat.f (k : Nat) (a0 : Int) (a1 : Int) : Option (ByteArray) := masterdiscref01_Repeat.l0 k a0 a1 (([] : List Int)) 0
theorem masterdiscref01_Repeat.mono_l : ∀ k, (∀ y0 y1 y2 y3, LeO (masterdiscref01_Repeat.l0 k y0 y1 y2 y3) (masterdiscref01_Repeat.l0 (k + 1) y0 y1 y2 y3))
 | 0 => fun _ _ _ _ r h => by simp [masterdiscref01_Repeat.l0] at h
 | k + 1 => by
  have ih0 := masterdiscref01_Repeat.mono_l k
  ·intro y0 y1 y2 y3
   unfold masterdiscref01_Repeat.l0
   repeat' first
   | (with_reducible exact ih0 _ _ _ _)
   | (with_reducible exact LeO.refl _)
   | (with_reducible exact LeO.none _)
   | (with_reducible refine LeO.ite ?_ ?_)
   | (with_reducible refine LeO.bind ?_ (fun _ => ?_))
   | exact ih0 _ _ _ _
   | exact LeO.none _
   | refine LeO.ite ?_ ?_
   | refine LeO.bind ?_ (fun _ => ?_)
theorem masterdiscref01_Repeat.mono : ∀ a0 a1 k, LeO (masterdiscref01_Repeat.f k a0 a1) (masterdiscref01_Repeat.f (k + 1) a0 a1) := by
 intro a0 a1 k
 have ih0 := masterdiscref01_Repeat.mono_l k
 unfold masterdiscref01_Repeat.f
 repeat' first
   | (with_reducible exact ih0 _ _ _ _)
   | (with_reducible exact LeO.refl _)
   | (with_reducible exact LeO.none _)
   | (with_reducible refine LeO.ite ?_ ?_)
   | (with_reducible refine LeO.bind ?_ (fun _ => ?_))
   | exact ih0 _ _ _ _
   | exact LeO.none _
   | refine LeO.ite ?_ ?_
   | refine LeO.bind ?_ (fun _ => ?_)
set_option maxHeartbeats 8000000 in
set_option maxRecDepth 100000 in
theorem masterdiscref01_Repeat.calls (k : Nat) (a0 : Int) (a1 : Int) (r : ByteArray) (w : World) (h : masterdiscref01_Repeat.f k a0 a1 = some r) :
  Calls Tryz.prog 48 #[.int .u8 a0, .int .i64 a1] w fun e w' => e = .returned (.string r) ∧ Below w.heap.size w w' := by
 have HB := Aside0.mk (Below.refl w.heap.size w)
 have H : (masterdiscref01_Repeat.l0 k a0 a1 (([] : List Int)) 0) = some r := h
 clear h
 obtain ⟨y136, hy136⟩ : ∃ y_ : List Int, y_ = (([] : List Int)) := ⟨_, rfl⟩
 replace H : (masterdiscref01_Repeat.l0 k a0 a1 y136 0) = some r := by first | (rw [hy136]; with_reducible exact H) | (have H2_ := (Option.bind_some _ _).symm.trans H; rw [hy136]; with_reducible exact H2_) | (have H2_ := (Option.bind_some _ _).symm.trans H; with_reducible exact H2_) | with_reducible exact H | (rw [hy136]; exact H) | exact H
 have Ny136 := Aside0.mk hy136
 clear hy136
 have H' := Aside0.mk H
 clear H
 go_enter Tryz.func48, Tryz.ntmps48
 go_wp2_with (first | ((with_reducible refine gate_dst (N := 7) rfl ?_); refine Kd.R_lit (Kd.int .u8) _ 5 ?hg (N := 7) ?hd (xs := ([] : List Int)) (inner := []) (ok := fun _ => True) (okp := fun _ => True) ?hr ?hp (fun _ hk => hk) trivial (Below.refl _ _) (Nat.le_refl _) (by simp) ?_; (case hd => rfl); (case hg => rfl); (case hr => first | (go_simp; done) | (go_simp; rfl)); (case hp => exact (Reps.none _ _)); intro v137 w3 ho4 hb hg_ hnew_; clear hg_ hnew_; (first | rw [← Ny136.out] at ho4 | (simp only [Int.reduceToNat] at ho4; rw [← Ny136.out] at ho4)); have n0_ := Aside0.mk (Kd.R_lower ho4 (below_size (by repeat (first | (with_reducible first | exact HB.out | apply below_alloc | apply pw_below_drewN | apply below_drew1) | exact HB.out)))); have n1_ := Aside0.mk (below_step (by repeat (first | (with_reducible first | exact HB.out | apply below_alloc | apply pw_below_drewN | apply below_drew1) | exact HB.out)) hb); clear HB; have HO138 := n0_; have HB := n1_; clear n0_ n1_; clear hb ho4))
 go_loopg [5, 6] k (fun kq v5 v6 w' => ∃ (x5_1 : List Int) (x6_1 : Int), v6 = .int .i64 x6_1 ∧ Aside0 (masterdiscref01_Repeat.l0 kq a0 a1 x5_1 x6_1 = some r) ∧ Aside0 (kq ≤ k) ∧ Aside0 (Kd.R (Kd.int .u8) 5 w' w.heap.size (fun _ => True) v5 x5_1) ∧ Aside0 (Below w.heap.size w w'))
 case atStart => exact ⟨(y136), (0), (by first | rfl | (simp; done) | (simp [*]; done)), H', ⟨Nat.le_refl _⟩, ⟨by (with_reducible repeat (first | apply Kd.R_alloc | apply Kd.R_drewN | apply Kd.R_drew)); exact HO138.out⟩, ⟨by repeat (first | (with_reducible first | exact HB.out | apply below_alloc | apply pw_below_drewN | apply below_drew1) | exact HB.out)⟩⟩
 case round =>
  clear H'
  try clear p2
  try clear c4
  obtain ⟨x5_1, x6_1, rfl, HA, HK1, HO_5, HB⟩ := hrel
  cases gk with
  | zero => exact absurd HA.out (by simp [masterdiscref01_Repeat.l0])
  | succ k1 =>
   have H := HA.out
   clear HA
   simp only [masterdiscref01_Repeat.l0] at H
   by_cases c5 : x6_1 < a1
   ·rw [if_pos c5] at H
    have c5b0 : decide (x6_1 < a1) = true := decide_eq_true c5
    clear c5
    by_cases c6 : x5_1.length < 140737488355328
    ·rw [if_pos c6] at H
     have LMc6 := Aside0.mk c6
     clear c6
     obtain ⟨y139, hy139⟩ : ∃ y_ : List Int, y_ = (x5_1 ++ [a0]) := ⟨_, rfl⟩
     replace H : (masterdiscref01_Repeat.l0 k1 a0 a1 y139 (wrap64 (x6_1 + 1))) = some r := by first | (rw [hy139]; with_reducible exact H) | (have H2_ := (Option.bind_some _ _).symm.trans H; rw [hy139]; with_reducible exact H2_) | (have H2_ := (Option.bind_some _ _).symm.trans H; with_reducible exact H2_) | with_reducible exact H | (rw [hy139]; exact H) | exact H
     have Ny139 := Aside0.mk hy139
     clear hy139
     have H' := Aside0.mk H
     clear H
     go_wp2_with (first | ((with_reducible refine gate_builtin (b := .append) (xs := #[.tmp 13, .tmp 15]) rfl ?_); at_builtin; refine Kd.R_append (Kd.int .u8) (w0 := w) w.heap.size rfl (.tmp 13) (.tmp 15) 77 5 (.int .u8 0) 1 rfl Tryz.underlying77 info5 rfl (by decide) (by omega) u5 x5_1 a0 [.int .u8 a0] (fun _ => True) (fun _ => False) rfl rfl ?aP (fun _ hk => hk.elim) ?aF ?aO ?aB ?aS ?aL ?_; (case aP => exact rfl); (case aB => exact (by repeat (first | (with_reducible first | exact HB.out | apply below_alloc | apply pw_below_drewN | apply below_drew1) | exact HB.out))); (case aF => exact (fun _ _ => trivial)); (case aO => exact (by (with_reducible repeat (first | apply Kd.R_alloc | apply Kd.R_drewN | apply Kd.R_drew)); exact HO_5.out)); (case aS => exact (below_size (by repeat (first | (with_reducible first | exact HB.out | apply below_alloc | apply pw_below_drewN | apply below_drew1) | exact HB.out)))); (case aL => have := LMc6.out; omega); intro v140 w7 ho hb hg hat; rw [← Ny139.out] at ho; have n0_ := Aside0.mk (hb); have n1_ := Aside0.mk (ho); clear HB; clear HO_5; have HB := n0_; have HO141 := n1_; clear n0_ n1_; clear ho hb hg hat))
     go_roundg k1
     case measure => have := HK1.out; omega
     case rel => exact ⟨(y139), (wrap64 (x6_1 + 1)), (by first | rfl | (simp; done) | (simp [*]; done)), H', ⟨by have := HK1.out; omega⟩, ⟨by (with_reducible repeat (first | apply Kd.R_alloc | apply Kd.R_drewN | apply Kd.R_drew)); exact HO141.out⟩, ⟨by repeat (first | (with_reducible first | exact HB.out | apply below_alloc | apply pw_below_drewN | apply below_drew1) | exact HB.out)⟩⟩
    ·rw [if_neg c6] at H
     exact absurd H (by simp)
   ·rw [if_neg c5] at H
    have c5b0 : decide (x6_1 < a1) = false := decide_eq_false c5
    clear c5
    obtain rfl := Option.some.inj H
    have hcv8 := own_string (P := Tryz.prog) Tryz.underlying77 Tryz.underlying5 Tryz.underlying9 (Kd.own_of_R HO_5.out)
    go_wp2
    go_ret
    exact ⟨by first | rfl | (simp [errW_none, errW_some] <;> rfl) | (simp [*, errW_none, errW_some] <;> rfl), by repeat (first | (with_reducible first | exact HB.out | apply below_alloc | apply pw_below_drewN | apply below_drew1) | exact HB.out)⟩

/-! ### masterdiscref32_Entity: function 29 -/
def masterdiscref32_Entity.j0 : Nat → ByteArray → ByteArray → Bool → Option (ByteArray × Int)
 | 0, _, _, _ => none
 | k + 1, x0, x1, x23 => if x23 = true then (some ((⟨#[]⟩ : ByteArray), 1)) else (if 1 + x0.size ≤ 9223372036854775807 then ((masterdiscref01_Repeat.f k 0 (wrap64 (23 - (x0.size : Int)))).bind fun t143 => (if ((⟨#[0]⟩ : ByteArray) ++ x0).size + t143.size ≤ 9223372036854775807 then (if (((⟨#[0]⟩ : ByteArray) ++ x0) ++ t143).size + x1.size ≤ 9223372036854775807 then ((masterdiscref01_Repeat.f k 0 (wrap64 (8 - (x1.size : Int)))).bind fun t144 => (if ((((⟨#[0]⟩ : ByteArray) ++ x0) ++ t143) ++ x1).size + t144.size ≤ 9223372036854775807 then (some (((((⟨#[0]⟩ : ByteArray) ++ x0) ++ t143) ++ x1) ++ t144, 0)) else (none))) else (none)) else (none))) else (none))
def masterdiscref32_Entity.f (k : Nat) (a0 : ByteArray) (a1 : ByteArray) : Option (ByteArray × Int) := if (a0.size : Int) < 1 then (masterdiscref32_Entity.j0 k a0 a1 true) else (if (a0.size : Int) > 23 then (masterdiscref32_Entity.j0 k a0 a1 true) else ((masterdiscref32_printable.f k a0).bind fun t142 => (if t142 = true then (masterdiscref32_Entity.j0 k a0 a1 (decide ((a1.size : Int) > 8))) else (masterdiscref32_Entity.j0 k a0 a1 true))))
theorem masterdiscref32_Entity.mono_l : ∀ k, (∀ y0 y1 y2, LeO (masterdiscref32_Entity.j0 k y0 y1 y2) (masterdiscref32_Entity.j0 (k + 1) y0 y1 y2))
 | 0 => fun _ _ _ r h => by simp [masterdiscref32_Entity.j0] at h
 | k + 1 => by
  have ih0 := masterdiscref32_Entity.mono_l k
  ·intro y0 y1 y2
   unfold masterdiscref32_Entity.j0
   repeat' first
   | (with_reducible exact ih0 _ _ _)
   | (with_reducible exact masterdiscref01_Repeat.mono _ _ _)
   | (with_reducible exact masterdiscref32_printable.mono _ _)
   | (with_reducible exact LeO.refl _)
   | (with_reducible exact LeO.none _)
   | (with_reducible refine LeO.ite ?_ ?_)
   | (with_reducible refine LeO.bind ?_ (fun _ => ?_))
   | exact ih0 _ _ _
   | exact masterdiscref01_Repeat.mono _ _ _
   | exact masterdiscref32_printable.mono _ _
   | exact LeO.none _
   | refine LeO.ite ?_ ?_
   | refine LeO.bind ?_ (fun _ => ?_)
theorem masterdiscref32_Entity.mono : ∀ a0 a1 k, LeO (masterdiscref32_Entity.f k a0 a1) (masterdiscref32_Entity.f (k + 1) a0 a1) := by
 intro a0 a1 k
 have ih0 := masterdiscref32_Entity.mono_l k
 unfold masterdiscref32_Entity.f
 repeat' first
   | (with_reducible exact ih0 _ _ _)
   | (with_reducible exact masterdiscref01_Repeat.mono _ _ _)
   | (with_reducible exact masterdiscref32_printable.mono _ _)
   | (with_reducible exact LeO.refl _)
   | (with_reducible exact LeO.none _)
   | (with_reducible refine LeO.ite ?_ ?_)
   | (with_reducible refine LeO.bind ?_ (fun _ => ?_))
   | exact ih0 _ _ _
   | exact masterdiscref01_Repeat.mono _ _ _
   | exact masterdiscref32_printable.mono _ _
   | exact LeO.none _
   | refine LeO.ite ?_ ?_
   | refine LeO.bind ?_ (fun _ => ?_)
set_option maxHeartbeats 8000000 in
set_option maxRecDepth 100000 in
theorem masterdiscref32_Entity.calls (k : Nat) (a0 : ByteArray) (a1 : ByteArray) (r1 : ByteArray) (r2 : Int) (w : World) (h : masterdiscref32_Entity.f k a0 a1 = some (r1, r2)) :
  Calls Tryz.prog 29 #[.string a0, .string a1] w fun e w' => e = .returned (.tuple #[.string r1, .int .i64 r2]) ∧ Below w.heap.size w w' := by
 have HB := Aside0.mk (Below.refl w.heap.size w)
 have H : (if (a0.size : Int) < 1 then (masterdiscref32_Entity.j0 k a0 a1 true) else (if (a0.size : Int) > 23 then (masterdiscref32_Entity.j0 k a0 a1 true) else ((masterdiscref32_printable.f k a0).bind fun t142 => (if t142 = true then (masterdiscref32_Entity.j0 k a0 a1 (decide ((a1.size : Int) > 8))) else (masterdiscref32_Entity.j0 k a0 a1 true))))) = some (r1, r2) := h
 clear h
 have HC3 := Aside0.mk H
 clear H
 go_enter Tryz.func29, Tryz.ntmps29
 go_upto_region 1 with (fail)
 go_cut [23] (fun v23 wc => ∃ (kq : Nat) (x23_2 : Bool), v23 = .bool x23_2 ∧ Aside0 (masterdiscref32_Entity.j0 kq a0 a1 x23_2 = some (r1, r2)) ∧ Aside0 (kq ≤ k) ∧ Aside0 (Below w.heap.size w wc))
 case first =>
  have H := HC3.out
  clear HC3
  by_cases c4 : (a0.size : Int) < 1
  ·rw [if_pos c4] at H
   have c4b0 : decide ((a0.size : Int) < 1) = true := decide_eq_true c4
   have c4b1 : decide (a0.size < 1) = true := decide_eq_true (by omega)
   clear c4
   (first | rw [c4b0] | (simp only [i64_w, i32_w]; rw [c4b0]) | skip)
   have H' := Aside0.mk H
   clear H
   go_wp2
   go_meet
   case rel => exact ⟨_, (true), (by first | rfl | (simp; done) | (simp [*]; done)), H', ⟨by first | omega | exact Nat.le_refl _⟩, ⟨by repeat (first | (with_reducible first | exact HB.out | apply below_alloc | apply pw_below_drewN | apply below_drew1) | exact HB.out)⟩⟩
  ·rw [if_neg c4] at H
   have c4b0 : decide ((a0.size : Int) < 1) = false := decide_eq_false c4
   have c4b1 : decide (a0.size < 1) = false := decide_eq_false (by omega)
   clear c4
   (first | rw [c4b0] | (simp only [i64_w, i32_w]; rw [c4b0]) | skip)
   by_cases c5 : (a0.size : Int) > 23
   ·rw [if_pos c5] at H
    have c5b0 : decide (23 < (a0.size : Int)) = true := decide_eq_true c5
    have c5b1 : decide (23 < a0.size) = true := decide_eq_true (by omega)
    clear c5
    have H' := Aside0.mk H
    clear H
    go_wp2
    go_meet
    case rel => exact ⟨_, (true), (by first | rfl | (simp; done) | (simp [*]; done)), H', ⟨by first | omega | exact Nat.le_refl _⟩, ⟨by repeat (first | (with_reducible first | exact HB.out | apply below_alloc | apply pw_below_drewN | apply below_drew1) | exact HB.out)⟩⟩
   ·rw [if_neg c5] at H
    have c5b0 : decide (23 < (a0.size : Int)) = false := decide_eq_false c5
    have c5b1 : decide (23 < a0.size) = false := decide_eq_false (by omega)
    clear c5
    replace H := Option.bind_eq_some_iff.mp H
    obtain ⟨t142, A60, H⟩ := H
    replace H : (if t142 = true then (masterdiscref32_Entity.j0 k a0 a1 (decide ((a1.size : Int) > 8))) else (masterdiscref32_Entity.j0 k a0 a1 true)) = some (r1, r2) := H
    have A6 := Aside0.mk A60
    clear A60
    by_cases c7 : t142 = true
    ·subst c7
     have H1 : (masterdiscref32_Entity.j0 k a0 a1 (decide ((a1.size : Int) > 8))) = some (r1, r2) := by rw [if_pos rfl] at H; exact H
     clear H
     have H := H1
     clear H1
     have H' := Aside0.mk H
     clear H
     go_wp2_with (first | (go_at_call 47; (with_reducible refine (masterdiscref32_printable.calls k a0 true _ A6.out).mono ?_); rintro e w' ⟨rfl, ⟨nd, rfl⟩⟩))
     go_meet
     case rel => exact ⟨_, (decide ((a1.size : Int) > 8)), (by first | rfl | (simp; done) | (simp [*]; done)), H', ⟨by first | omega | exact Nat.le_refl _⟩, ⟨by repeat (first | (with_reducible first | exact HB.out | apply below_alloc | apply pw_below_drewN | apply below_drew1) | exact HB.out)⟩⟩
    ·replace c7 := Bool.eq_false_iff.mpr c7
     subst c7
     have H1 : (masterdiscref32_Entity.j0 k a0 a1 true) = some (r1, r2) := by rw [if_neg (show ¬ (false = true) by decide)] at H; exact H
     clear H
     have H := H1
     clear H1
     have H' := Aside0.mk H
     clear H
     go_wp2_with (first | (go_at_call 47; (with_reducible refine (masterdiscref32_printable.calls k a0 false _ A6.out).mono ?_); rintro e w' ⟨rfl, ⟨nd, rfl⟩⟩))
     go_meet
     case rel => exact ⟨_, (true), (by first | rfl | (simp; done) | (simp [*]; done)), H', ⟨by first | omega | exact Nat.le_refl _⟩, ⟨by repeat (first | (with_reducible first | exact HB.out | apply below_alloc | apply pw_below_drewN | apply below_drew1) | exact HB.out)⟩⟩
 case rest =>
  clear HC3
  try clear c2
  try clear p2
  try clear c4
  try clear c4b0
  try clear c4b1
  try clear c5
  try clear c5b0
  try clear c5b1
  try clear c7
  obtain ⟨kq, x23_2, rfl, HA, HJ2, HB⟩ := hcut
  cases kq with
  | zero => exact absurd HA.out (by simp [masterdiscref32_Entity.j0])
  | succ kj2 =>
   have H := HA.out
   clear HA
   simp only [masterdiscref32_Entity.j0] at H
   by_cases c8 : x23_2 = true
   ·subst c8
    have H1 : (some ((⟨#[]⟩ : ByteArray), 1)) = some (r1, r2) := by rw [if_pos rfl] at H; exact H
    clear H
    have H := H1
    clear H1
    simp only [Option.some.injEq, Prod.mk.injEq] at H
    obtain ⟨rfl, rfl⟩ := H
    go_wp2
    go_ret2
    exact ⟨by first | rfl | (simp [errW_none, errW_some] <;> rfl) | (simp [*, errW_none, errW_some] <;> rfl), by repeat (first | (with_reducible first | exact HB.out | apply below_alloc | apply pw_below_drewN | apply below_drew1) | exact HB.out)⟩
   ·replace c8 := Bool.eq_false_iff.mpr c8
    subst c8
    have H1 : (if 1 + a0.size ≤ 9223372036854775807 then ((masterdiscref01_Repeat.f kj2 0 (wrap64 (23 - (a0.size : Int)))).bind fun t143 => (if ((⟨#[0]⟩ : ByteArray) ++ a0).size + t143.size ≤ 9223372036854775807 then (if (((⟨#[0]⟩ : ByteArray) ++ a0) ++ t143).size + a1.size ≤ 9223372036854775807 then ((masterdiscref01_Repeat.f kj2 0 (wrap64 (8 - (a1.size : Int)))).bind fun t144 => (if ((((⟨#[0]⟩ : ByteArray) ++ a0) ++ t143) ++ a1).size + t144.size ≤ 9223372036854775807 then (some (((((⟨#[0]⟩ : ByteArray) ++ a0) ++ t143) ++ a1) ++ t144, 0)) else (none))) else (none)) else (none))) else (none)) = some (r1, r2) := by rw [if_neg (show ¬ (false = true) by decide)] at H; exact H
    clear H
    have H := H1
    clear H1
    by_cases c9 : 1 + a0.size ≤ 9223372036854775807
    ·rw [if_pos c9] at H
     have c9b0 := eq_true c9
     have c9b1 : decide (1 + a0.size ≤ 9223372036854775807) = true := decide_eq_true c9
     try have c9b2 : (9223372036854775807 < 1 + a0.size) = False := eq_false (Nat.not_lt.2 c9)
     replace H := Option.bind_eq_some_iff.mp H
     obtain ⟨t143, A100, H⟩ := H
     replace H : (if ((⟨#[0]⟩ : ByteArray) ++ a0).size + t143.size ≤ 9223372036854775807 then (if (((⟨#[0]⟩ : ByteArray) ++ a0) ++ t143).size + a1.size ≤ 9223372036854775807 then ((masterdiscref01_Repeat.f kj2 0 (wrap64 (8 - (a1.size : Int)))).bind fun t144 => (if ((((⟨#[0]⟩ : ByteArray) ++ a0) ++ t143) ++ a1).size + t144.size ≤ 9223372036854775807 then (some (((((⟨#[0]⟩ : ByteArray) ++ a0) ++ t143) ++ a1) ++ t144, 0)) else (none))) else (none)) else (none)) = some (r1, r2) := H
     have A10 := Aside0.mk A100
     clear A100
     by_cases c11 : ((⟨#[0]⟩ : ByteArray) ++ a0).size + t143.size ≤ 9223372036854775807
     ·rw [if_pos c11] at H
      have c11b0 := eq_true c11
      have c11b1 : decide (((⟨#[0]⟩ : ByteArray) ++ a0).size + t143.size ≤ 9223372036854775807) = true := decide_eq_true c11
      try have c11b2 : (9223372036854775807 < ((⟨#[0]⟩ : ByteArray) ++ a0).size + t143.size) = False := eq_false (Nat.not_lt.2 c11)
      by_cases c12 : (((⟨#[0]⟩ : ByteArray) ++ a0) ++ t143).size + a1.size ≤ 9223372036854775807
      ·rw [if_pos c12] at H
       have c12b0 := eq_true c12
       have c12b1 : decide ((((⟨#[0]⟩ : ByteArray) ++ a0) ++ t143).size + a1.size ≤ 9223372036854775807) = true := decide_eq_true c12
       try have c12b2 : (9223372036854775807 < (((⟨#[0]⟩ : ByteArray) ++ a0) ++ t143).size + a1.size) = False := eq_false (Nat.not_lt.2 c12)
       replace H := Option.bind_eq_some_iff.mp H
       obtain ⟨t144, A130, H⟩ := H
       replace H : (if ((((⟨#[0]⟩ : ByteArray) ++ a0) ++ t143) ++ a1).size + t144.size ≤ 9223372036854775807 then (some (((((⟨#[0]⟩ : ByteArray) ++ a0) ++ t143) ++ a1) ++ t144, 0)) else (none)) = some (r1, r2) := H
       have A13 := Aside0.mk A130
       clear A130
       by_cases c14 : ((((⟨#[0]⟩ : ByteArray) ++ a0) ++ t143) ++ a1).size + t144.size ≤ 9223372036854775807
       ·rw [if_pos c14] at H
        have c14b0 := eq_true c14
        have c14b1 : decide (((((⟨#[0]⟩ : ByteArray) ++ a0) ++ t143) ++ a1).size + t144.size ≤ 9223372036854775807) = true := decide_eq_true c14
        try have c14b2 : (9223372036854775807 < ((((⟨#[0]⟩ : ByteArray) ++ a0) ++ t143) ++ a1).size + t144.size) = False := eq_false (Nat.not_lt.2 c14)
        simp only [Option.some.injEq, Prod.mk.injEq] at H
        obtain ⟨rfl, rfl⟩ := H
        have e23 : wrap64 (23 - (a0.size : Int)) = 23 - (a0.size : Int) := by unfold wrap64; omega
        have e8 : wrap64 (8 - (a1.size : Int)) = 8 - (a1.size : Int) := by unfold wrap64; omega
        have A10' := A10.out
        have A13' := A13.out
        rw [e23] at A10'
        rw [e8] at A13'
        clear A10 A13
        have A10 := Aside0.mk A10'
        have A13 := Aside0.mk A13'
        clear A10' A13' e23 e8
        have z1 : (⟨#[0]⟩ : ByteArray).size = 1 := rfl
        have c11b3 : (9223372036854775807 < 1 + a0.size + t143.size) = False := eq_false (by have h := c11; rw [ByteArray.size_append, z1] at h; omega)
        have c12b3 : (9223372036854775807 < 1 + a0.size + t143.size + a1.size) = False := eq_false (by have h := c12; rw [ByteArray.size_append, ByteArray.size_append, z1] at h; omega)
        have c14b3 : (9223372036854775807 < 1 + a0.size + t143.size + a1.size + t144.size) = False := eq_false (by have h := c14; rw [ByteArray.size_append, ByteArray.size_append, ByteArray.size_append, z1] at h; omega)
        clear z1
        go_wp2_with (first | ((with_reducible refine gate_callee (f := 48) rfl ?_); refine goesL_ (some 29) rfl rfl Tryz.func48 (by kernel_rfl) rfl #[.int .u8 0, .int .i64 (23 - (a0.size : Int))] rfl (by (try simp only [List.map_toArray, List.map_cons, List.map_nil]); first | done | rfl | (simp only [List.length_drop, List.length_take]; rfl)) ?_; (with_reducible refine (masterdiscref01_Repeat.calls kj2 0 (23 - (a0.size : Int)) t143 _ A10.out).mono ?_); rintro e w15 ⟨rfl, hb⟩; refine ⟨_, rfl, ?_⟩; have n0_ := Aside0.mk (below_step (by repeat (first | (with_reducible first | exact HB.out | apply below_alloc | apply pw_below_drewN | apply below_drew1) | exact HB.out)) hb); clear HB; have HB := n0_; clear n0_; (try clear hb); (try clear hb2); (try clear hk); (try clear hi)) | ((with_reducible refine gate_callee (f := 48) rfl ?_); refine goesL_ (some 36) rfl rfl Tryz.func48 (by kernel_rfl) rfl #[.int .u8 0, .int .i64 (8 - (a1.size : Int))] rfl (by (try simp only [List.map_toArray, List.map_cons, List.map_nil]); first | done | rfl | (simp only [List.length_drop, List.length_take]; rfl)) ?_; (with_reducible refine (masterdiscref01_Repeat.calls kj2 0 (8 - (a1.size : Int)) t144 _ A13.out).mono ?_); rintro e w16 ⟨rfl, hb⟩; refine ⟨_, rfl, ?_⟩; have n0_ := Aside0.mk (below_step (by repeat (first | (with_reducible first | exact HB.out | apply below_alloc | apply pw_below_drewN | apply below_drew1) | exact HB.out)) hb); clear HB; have HB := n0_; clear n0_; (try clear hb); (try clear hb2); (try clear hk); (try clear hi)))
        go_ret2
        exact ⟨by first | rfl | (simp [errW_none, errW_some] <;> rfl) | (simp [*, errW_none, errW_some] <;> rfl), by repeat (first | (with_reducible first | exact HB.out | apply below_alloc | apply pw_below_drewN | apply below_drew1) | exact HB.out)⟩
       ·rw [if_neg c14] at H
        exact absurd H (by simp)
      ·rw [if_neg c12] at H
       exact absurd H (by simp)
     ·rw [if_neg c11] at H
      exact absurd H (by simp)
    ·rw [if_neg c9] at H
     exact absurd H (by simp)

/-! ### masterdiscref01_Bytes: function 30 -/
def masterdiscref01_Bytes.l0 : Nat → Int → Int → List Int → Int → Option (ByteArray)
 | 0, _, _, _, _ => none
 | k + 1, x0, x1, x5, x6 => if x6 < x1 then (if x5.length < 140737488355328 then (masterdiscref01_Bytes.l0 k (wrap64 (Int.tdiv x0 256)) x1 (x5 ++ [(Int.tmod x0 256) % 256]) (wrap64 (x6 + 1))) else (none)) else (some (strOfNums x5))
def masterdiscref01_Bytes.f (k : Nat) (a0 : Int) (a1 : Int) : Option (ByteArray) := masterdiscref01_Bytes.l0 k a0 a1 (([] : List Int)) 0
set_option maxHeartbeats 8000000 in
set_option maxRecDepth 100000 in
theorem masterdiscref01_Bytes.calls (k : Nat) (a0 : Int) (a1 : Int) (r : ByteArray) (w : World) (h : masterdiscref01_Bytes.f k a0 a1 = some r) :
  Calls Tryz.prog 30 #[.int .i64 a0, .int .i64 a1] w fun e w' => e = .returned (.string r) ∧ Below w.heap.size w w' := by
 have HB := Aside0.mk (Below.refl w.heap.size w)
 have H : (masterdiscref01_Bytes.l0 k a0 a1 (([] : List Int)) 0) = some r := h
 clear h
 obtain ⟨y145, hy145⟩ : ∃ y_ : List Int, y_ = (([] : List Int)) := ⟨_, rfl⟩
 replace H : (masterdiscref01_Bytes.l0 k a0 a1 y145 0) = some r := by first | (rw [hy145]; with_reducible exact H) | (have H2_ := (Option.bind_some _ _).symm.trans H; rw [hy145]; with_reducible exact H2_) | (have H2_ := (Option.bind_some _ _).symm.trans H; with_reducible exact H2_) | with_reducible exact H | (rw [hy145]; exact H) | exact H
 have Ny145 := Aside0.mk hy145
 clear hy145
 have H' := Aside0.mk H
 clear H
 go_enter Tryz.func30, Tryz.ntmps30
 go_wp2_with (first | ((with_reducible refine gate_dst (N := 7) rfl ?_); refine Kd.R_lit (Kd.int .u8) _ 5 ?hg (N := 7) ?hd (xs := ([] : List Int)) (inner := []) (ok := fun _ => True) (okp := fun _ => True) ?hr ?hp (fun _ hk => hk) trivial (Below.refl _ _) (Nat.le_refl _) (by simp) ?_; (case hd => rfl); (case hg => rfl); (case hr => first | (go_simp; done) | (go_simp; rfl)); (case hp => exact (Reps.none _ _)); intro v146 w3 ho4 hb hg_ hnew_; clear hg_ hnew_; (first | rw [← Ny145.out] at ho4 | (simp only [Int.reduceToNat] at ho4; rw [← Ny145.out] at ho4)); have n0_ := Aside0.mk (Kd.R_lower ho4 (below_size (by repeat (first | (with_reducible first | exact HB.out | apply below_alloc | apply pw_below_drewN | apply below_drew1) | exact HB.out)))); have n1_ := Aside0.mk (below_step (by repeat (first | (with_reducible first | exact HB.out | apply below_alloc | apply pw_below_drewN | apply below_drew1) | exact HB.out)) hb); clear HB; have HO147 := n0_; have HB := n1_; clear n0_ n1_; clear hb ho4))
 go_loopg [0, 5, 6] k (fun kq v0 v5 v6 w' => ∃ (x0_1 : Int) (x5_1 : List Int) (x6_1 : Int), v0 = .int .i64 x0_1 ∧ v6 = .int .i64 x6_1 ∧ Aside0 (masterdiscref01_Bytes.l0 kq x0_1 a1 x5_1 x6_1 = some r) ∧ Aside0 (kq ≤ k) ∧ Aside0 (Kd.R (Kd.int .u8) 5 w' w.heap.size (fun _ => True) v5 x5_1) ∧ Aside0 (Below w.heap.size w w'))
 case atStart => exact ⟨(a0), (y145), (0), (by first | rfl | (simp; done) | (simp [*]; done)), (by first | rfl | (simp; done) | (simp [*]; done)), H', ⟨Nat.le_refl _⟩, ⟨by (with_reducible repeat (first | apply Kd.R_alloc | apply Kd.R_drewN | apply Kd.R_drew)); exact HO147.out⟩, ⟨by repeat (first | (with_reducible first | exact HB.out | apply below_alloc | apply pw_below_drewN | apply below_drew1) | exact HB.out)⟩⟩
 case round =>
  clear H'
  try clear p2
  try clear c3
  obtain ⟨x0_1, x5_1, x6_1, rfl, rfl, HA, HK1, HO_5, HB⟩ := hrel
  cases gk with
  | zero => exact absurd HA.out (by simp [masterdiscref01_Bytes.l0])
  | succ k1 =>
   have H := HA.out
   clear HA
   simp only [masterdiscref01_Bytes.l0] at H
   by_cases c5 : x6_1 < a1
   ·rw [if_pos c5] at H
    have c5b0 : decide (x6_1 < a1) = true := decide_eq_true c5
    clear c5
    by_cases c6 : x5_1.length < 140737488355328
    ·rw [if_pos c6] at H
     have LMc6 := Aside0.mk c6
     clear c6
     obtain ⟨y148, hy148⟩ : ∃ y_ : List Int, y_ = (x5_1 ++ [(Int.tmod x0_1 256) % 256]) := ⟨_, rfl⟩
     replace H : (masterdiscref01_Bytes.l0 k1 (wrap64 (Int.tdiv x0_1 256)) a1 y148 (wrap64 (x6_1 + 1))) = some r := by first | (rw [hy148]; with_reducible exact H) | (have H2_ := (Option.bind_some _ _).symm.trans H; rw [hy148]; with_reducible exact H2_) | (have H2_ := (Option.bind_some _ _).symm.trans H; with_reducible exact H2_) | with_reducible exact H | (rw [hy148]; exact H) | exact H
     have Ny148 := Aside0.mk hy148
     clear hy148
     have H' := Aside0.mk H
     clear H
     go_wp2_with (first | ((with_reducible refine gate_builtin (b := .append) (xs := #[.tmp 13, .tmp 17]) rfl ?_); at_builtin; refine Kd.R_append (Kd.int .u8) (w0 := w) w.heap.size rfl (.tmp 13) (.tmp 17) 77 5 (.int .u8 0) 1 rfl Tryz.underlying77 info5 rfl (by decide) (by omega) u5 x5_1 ((Int.tmod x0_1 256) % 256) [.int .u8 ((Int.tmod x0_1 256) % 256)] (fun _ => True) (fun _ => False) rfl rfl ?aP (fun _ hk => hk.elim) ?aF ?aO ?aB ?aS ?aL ?_; (case aP => exact rfl); (case aB => exact (by repeat (first | (with_reducible first | exact HB.out | apply below_alloc | apply pw_below_drewN | apply below_drew1) | exact HB.out))); (case aF => exact (fun _ _ => trivial)); (case aO => exact (by (with_reducible repeat (first | apply Kd.R_alloc | apply Kd.R_drewN | apply Kd.R_drew)); exact HO_5.out)); (case aS => exact (below_size (by repeat (first | (with_reducible first | exact HB.out | apply below_alloc | apply pw_below_drewN | apply below_drew1) | exact HB.out)))); (case aL => have := LMc6.out; omega); intro v149 w7 ho hb hg hat; rw [← Ny148.out] at ho; have n0_ := Aside0.mk (hb); have n1_ := Aside0.mk (ho); clear HB; clear HO_5; have HB := n0_; have HO150 := n1_; clear n0_ n1_; clear ho hb hg hat))
     go_roundg k1
     case measure => have := HK1.out; omega
     case rel => exact ⟨(wrap64 (Int.tdiv x0_1 256)), (y148), (wrap64 (x6_1 + 1)), (by first | rfl | (simp; done) | (simp [*]; done)), (by first | rfl | (simp; done) | (simp [*]; done)), H', ⟨by have := HK1.out; omega⟩, ⟨by (with_reducible repeat (first | apply Kd.R_alloc | apply Kd.R_drewN | apply Kd.R_drew)); exact HO150.out⟩, ⟨by repeat (first | (with_reducible first | exact HB.out | apply below_alloc | apply pw_below_drewN | apply below_drew1) | exact HB.out)⟩⟩
    ·rw [if_neg c6] at H
     exact absurd H (by simp)
   ·rw [if_neg c5] at H
    have c5b0 : decide (x6_1 < a1) = false := decide_eq_false c5
    clear c5
    obtain rfl := Option.some.inj H
    have hcv8 := own_string (P := Tryz.prog) Tryz.underlying77 Tryz.underlying5 Tryz.underlying9 (Kd.own_of_R HO_5.out)
    go_wp2
    go_ret
    exact ⟨by first | rfl | (simp [errW_none, errW_some] <;> rfl) | (simp [*, errW_none, errW_some] <;> rfl), by repeat (first | (with_reducible first | exact HB.out | apply below_alloc | apply pw_below_drewN | apply below_drew1) | exact HB.out)⟩

/-! ### masterdiscref31_ranged: function 49 -/
def masterdiscref31_ranged.f (a0 : Int) (a1 : Int) (a2 : Int) : Option (Bool) := if a0 ≥ 0 then (if a0 < 65536 then (if a1 ≥ 0 then (if a1 < 65536 then (if a2 ≥ 0 then (some (decide (a2 < 4294967296))) else (some false)) else (some false)) else (some false)) else (some false)) else (some false)
set_option maxHeartbeats 8000000 in
set_option maxRecDepth 100000 in
theorem masterdiscref31_ranged.calls (a0 : Int) (a1 : Int) (a2 : Int) (r : Bool) (w : World) (h : masterdiscref31_ranged.f a0 a1 a2 = some r) :
  Calls Tryz.prog 49 #[.int .i64 a0, .int .i64 a1, .int .i64 a2] w fun e w' => e = .returned (.bool r) ∧ Drawn0 w w' := by
 have H : (if a0 ≥ 0 then (if a0 < 65536 then (if a1 ≥ 0 then (if a1 < 65536 then (if a2 ≥ 0 then (some (decide (a2 < 4294967296))) else (some false)) else (some false)) else (some false)) else (some false)) else (some false)) = some r := h
 clear h
 by_cases c4 : a0 ≥ 0
 ·rw [if_pos c4] at H
  have c4b0 : decide (0 ≤ a0) = true := decide_eq_true c4
  clear c4
  by_cases c5 : a0 < 65536
  ·rw [if_pos c5] at H
   have c5b0 : decide (a0 < 65536) = true := decide_eq_true c5
   clear c5
   by_cases c6 : a1 ≥ 0
   ·rw [if_pos c6] at H
    have c6b0 : decide (0 ≤ a1) = true := decide_eq_true c6
    clear c6
    by_cases c7 : a1 < 65536
    ·rw [if_pos c7] at H
     have c7b0 : decide (a1 < 65536) = true := decide_eq_true c7
     clear c7
     by_cases c8 : a2 ≥ 0
     ·rw [if_pos c8] at H
      have c8b0 : decide (0 ≤ a2) = true := decide_eq_true c8
      clear c8
      obtain rfl := Option.some.inj H
      go_enter Tryz.func49, Tryz.ntmps49
      go_wp2
      go_ret
      exact ⟨by first | rfl | (simp; done) | (simp [*]; done), by repeat (first | exact Drawn0.refl _ | apply Drawn0.step)⟩
     ·rw [if_neg c8] at H
      have c8b0 : decide (0 ≤ a2) = false := decide_eq_false c8
      clear c8
      obtain rfl := Option.some.inj H
      go_enter Tryz.func49, Tryz.ntmps49
      go_wp2
      go_ret
      exact ⟨by first | rfl | (simp; done) | (simp [*]; done), by repeat (first | exact Drawn0.refl _ | apply Drawn0.step)⟩
    ·rw [if_neg c7] at H
     have c7b0 : decide (a1 < 65536) = false := decide_eq_false c7
     clear c7
     obtain rfl := Option.some.inj H
     go_enter Tryz.func49, Tryz.ntmps49
     go_wp2
     go_ret
     exact ⟨by first | rfl | (simp; done) | (simp [*]; done), by repeat (first | exact Drawn0.refl _ | apply Drawn0.step)⟩
   ·rw [if_neg c6] at H
    have c6b0 : decide (0 ≤ a1) = false := decide_eq_false c6
    clear c6
    obtain rfl := Option.some.inj H
    go_enter Tryz.func49, Tryz.ntmps49
    go_wp2
    go_ret
    exact ⟨by first | rfl | (simp; done) | (simp [*]; done), by repeat (first | exact Drawn0.refl _ | apply Drawn0.step)⟩
  ·rw [if_neg c5] at H
   have c5b0 : decide (a0 < 65536) = false := decide_eq_false c5
   clear c5
   obtain rfl := Option.some.inj H
   go_enter Tryz.func49, Tryz.ntmps49
   go_wp2
   go_ret
   exact ⟨by first | rfl | (simp; done) | (simp [*]; done), by repeat (first | exact Drawn0.refl _ | apply Drawn0.step)⟩
 ·rw [if_neg c4] at H
  have c4b0 : decide (0 ≤ a0) = false := decide_eq_false c4
  clear c4
  obtain rfl := Option.some.inj H
  go_enter Tryz.func49, Tryz.ntmps49
  go_wp2
  go_ret
  exact ⟨by first | rfl | (simp; done) | (simp [*]; done), by repeat (first | exact Drawn0.refl _ | apply Drawn0.step)⟩

/-! ### masterdiscref31_Pad: function 50 -/
def masterdiscref31_Pad.f (k : Nat) (a0 : ByteArray) (a1 : Int) : Option (ByteArray) := (masterdiscref01_Repeat.f k 0 (wrap64 (a1 - (a0.size : Int)))).bind fun t151 => (if a0.size + t151.size ≤ 9223372036854775807 then (some (a0 ++ t151)) else (none))
set_option maxHeartbeats 8000000 in
set_option maxRecDepth 100000 in
theorem masterdiscref31_Pad.calls (k : Nat) (a0 : ByteArray) (a1 : Int) (r : ByteArray) (w : World) (h : masterdiscref31_Pad.f k a0 a1 = some r) :
  Calls Tryz.prog 50 #[.string a0, .int .i64 a1] w fun e w' => e = .returned (.string r) ∧ Below w.heap.size w w' := by
 have HB := Aside0.mk (Below.refl w.heap.size w)
 have H : ((masterdiscref01_Repeat.f k 0 (wrap64 (a1 - (a0.size : Int)))).bind fun t151 => (if a0.size + t151.size ≤ 9223372036854775807 then (some (a0 ++ t151)) else (none))) = some r := h
 clear h
 replace H := Option.bind_eq_some_iff.mp H
 obtain ⟨t151, A30, H⟩ := H
 replace H : (if a0.size + t151.size ≤ 9223372036854775807 then (some (a0 ++ t151)) else (none)) = some r := H
 have A3 := Aside0.mk A30
 clear A30
 by_cases c4 : a0.size + t151.size ≤ 9223372036854775807
 ·rw [if_pos c4] at H
  have c4b0 := eq_true c4
  have c4b1 : decide (a0.size + t151.size ≤ 9223372036854775807) = true := decide_eq_true c4
  try have c4b2 : (9223372036854775807 < a0.size + t151.size) = False := eq_false (Nat.not_lt.2 c4)
  obtain rfl := Option.some.inj H
  go_enter Tryz.func50, Tryz.ntmps50
  go_wp2_with (first | ((with_reducible refine gate_callee (f := 48) rfl ?_); refine goesL_ (some 10) rfl rfl Tryz.func48 (by kernel_rfl) rfl #[.int .u8 0, .int .i64 (wrap64 (a1 - (a0.size : Int)))] rfl (by (try simp only [List.map_toArray, List.map_cons, List.map_nil]); first | done | rfl | (simp only [List.length_drop, List.length_take]; rfl)) ?_; (with_reducible refine (masterdiscref01_Repeat.calls k 0 (wrap64 (a1 - (a0.size : Int))) t151 _ A3.out).mono ?_); rintro e w5 ⟨rfl, hb⟩; refine ⟨_, rfl, ?_⟩; have n0_ := Aside0.mk (below_step (by repeat (first | (with_reducible first | exact HB.out | apply below_alloc | apply pw_below_drewN | apply below_drew1) | exact HB.out)) hb); clear HB; have HB := n0_; clear n0_; (try clear hb); (try clear hb2); (try clear hk); (try clear hi)))
  go_ret
  exact ⟨by first | rfl | (simp [errW_none, errW_some] <;> rfl) | (simp [*, errW_none, errW_some] <;> rfl), by repeat (first | (with_reducible first | exact HB.out | apply below_alloc | apply pw_below_drewN | apply below_drew1) | exact HB.out)⟩
 ·rw [if_neg c4] at H
  exact absurd H (by simp)

/-! ### masterdiscref02_ExtendCRC16: function 103 -/
mutual
def masterdiscref02_ExtendCRC16.l0 : Nat → Int → ByteArray → Int → Option (Int)
 | 0, _, _, _ => none
 | k + 1, x0, x1, x5 => if x5 < (x1.size : Int) then (if 0 ≤ x5 then (masterdiscref02_ExtendCRC16.l1 k (Go.bits .xor .u16 x0 (IntKind.u16.wrap ((IntKind.u16.wrap (bt x1 x5)) * 256))) x1 x5 0) else (none)) else (some x0)
def masterdiscref02_ExtendCRC16.l1 : Nat → Int → ByteArray → Int → Int → Option (Int)
 | 0, _, _, _, _ => none
 | k + 1, x0, x1, x5, x6 => if x6 < 8 then (if (IntKind.u16.wrap (Int.tdiv x0 32768)) = 1 then (masterdiscref02_ExtendCRC16.l1 k (Go.bits .xor .u16 (IntKind.u16.wrap ((Int.tmod x0 32768) * 2)) 4129) x1 x5 (wrap64 (x6 + 1))) else (masterdiscref02_ExtendCRC16.l1 k (IntKind.u16.wrap ((Int.tmod x0 32768) * 2)) x1 x5 (wrap64 (x6 + 1)))) else (masterdiscref02_ExtendCRC16.l0 k x0 x1 (wrap64 (x5 + 1)))
end
def masterdiscref02_ExtendCRC16.f (k : Nat) (a0 : Int) (a1 : ByteArray) : Option (Int) := masterdiscref02_ExtendCRC16.l0 k a0 a1 0
set_option maxHeartbeats 8000000 in
set_option maxRecDepth 100000 in
theorem masterdiscref02_ExtendCRC16.calls (k : Nat) (a0 : Int) (a1 : ByteArray) (r : Int) (w : World) (h : masterdiscref02_ExtendCRC16.f k a0 a1 = some r) :
  Calls Tryz.prog 103 #[.int .u16 a0, .string a1] w fun e w' => e = .returned (.int .u16 r) ∧ Drawn0 w w' := by
 have H : (masterdiscref02_ExtendCRC16.l0 k a0 a1 0) = some r := h
 clear h
 have H' := Aside0.mk H
 clear H
 go_enter Tryz.func103, Tryz.ntmps103
 go_wp2
 go_loopg [0, 5] k (fun kq v0 v5 w' => ∃ (x0_1 : Int) (x5_1 : Int), v0 = .int .u16 x0_1 ∧ v5 = .int .i64 x5_1 ∧ Aside0 (masterdiscref02_ExtendCRC16.l0 kq x0_1 a1 x5_1 = some r) ∧ Aside0 (kq ≤ k) ∧ Drawn0 w w')
 case atStart => exact ⟨(a0), (0), (by first | rfl | (simp; done) | (simp [*]; done)), (by first | rfl | (simp; done) | (simp [*]; done)), H', ⟨Nat.le_refl _⟩, by repeat (first | exact Drawn0.refl _ | apply Drawn0.step)⟩
 case round =>
  clear H'
  try clear c1
  try clear p2
  obtain ⟨x0_1, x5_1, rfl, rfl, HA, HK1, ⟨m1, rfl⟩⟩ := hrel
  cases gk with
  | zero => exact absurd HA.out (by simp [masterdiscref02_ExtendCRC16.l0])
  | succ k1 =>
   have H := HA.out
   clear HA
   simp only [masterdiscref02_ExtendCRC16.l0] at H
   by_cases c3 : x5_1 < (a1.size : Int)
   ·rw [if_pos c3] at H
    have c3b0 : decide (x5_1 < (a1.size : Int)) = true := decide_eq_true c3
    clear c3
    by_cases c4 : 0 ≤ x5_1
    ·rw [if_pos c4] at H
     have c4b0 : decide (0 ≤ x5_1) = true := decide_eq_true c4
     clear c4
     have H' := Aside0.mk H
     clear H
     have p5 : 0 ≤ (x5_1 : Int) := of_decide_eq_true (by first | (with_reducible assumption) | assumption)
     have q5 : x5_1 < (a1.size : Int) := of_decide_eq_true (by first | (with_reducible assumption) | assumption)
     have hx5 := bt_at a1 x5_1
     replace p5 := eq_true p5
     replace q5 := eq_true q5
     go_wp2
     go_loopg [0, 6] k1 (fun kq v0 v6 w' => ∃ (x0_2 : Int) (x6_2 : Int), v0 = .int .u16 x0_2 ∧ v6 = .int .i64 x6_2 ∧ Aside0 (masterdiscref02_ExtendCRC16.l1 kq x0_2 a1 x5_1 x6_2 = some r) ∧ Aside0 (kq ≤ k1) ∧ Drawn0 w w')
     case atStart => exact ⟨(Go.bits .xor .u16 x0_1 (IntKind.u16.wrap ((IntKind.u16.wrap (bt a1 x5_1)) * 256))), (0), (by first | rfl | (simp; done) | (simp [*]; done)), (by first | rfl | (simp; done) | (simp [*]; done)), H', ⟨Nat.le_refl _⟩, by repeat (first | exact Drawn0.refl _ | apply Drawn0.step)⟩
     case round =>
      clear H'
      try clear c1
      try clear p2
      try clear c3
      try clear c3b0
      try clear c4
      try clear c4b0
      try clear p5
      try clear q5
      try clear hx5
      try clear p2
      try clear p5
      try clear q5
      obtain ⟨x0_2, x6_2, rfl, rfl, HA, HK2, ⟨m2, rfl⟩⟩ := hrel
      cases gk with
      | zero => exact absurd HA.out (by simp [masterdiscref02_ExtendCRC16.l1])
      | succ k2 =>
       have H := HA.out
       clear HA
       simp only [masterdiscref02_ExtendCRC16.l1] at H
       by_cases c6 : x6_2 < 8
       ·rw [if_pos c6] at H
        have c6b0 : decide (x6_2 < 8) = true := decide_eq_true c6
        clear c6
        by_cases c7 : (IntKind.u16.wrap (Int.tdiv x0_2 32768)) = 1
        ·rw [if_pos c7] at H
         have c7b0 : ((IntKind.u16.wrap (Int.tdiv x0_2 32768)) == 1) = true := beq_iff_eq.mpr c7
         have c7b1 : ((IntKind.u16.wrap (Int.tdiv x0_2 32768)) != 1) = false := bne_eq_false_iff_eq.mpr c7
         clear c7
         have H' := Aside0.mk H
         clear H
         go_wp2
         go_roundg k2
         case measure => have := HK1.out; have := HK2.out; omega
         case rel => exact ⟨(Go.bits .xor .u16 (IntKind.u16.wrap ((Int.tmod x0_2 32768) * 2)) 4129), (wrap64 (x6_2 + 1)), (by first | rfl | (simp; done) | (simp [*]; done)), (by first | rfl | (simp; done) | (simp [*]; done)), H', ⟨by have := HK1.out; have := HK2.out; omega⟩, by repeat (first | exact Drawn0.refl _ | apply Drawn0.step)⟩
        ·rw [if_neg c7] at H
         have c7b0 : ((IntKind.u16.wrap (Int.tdiv x0_2 32768)) == 1) = false := beq_eq_false_iff_ne.mpr c7
         have c7b1 : ((IntKind.u16.wrap (Int.tdiv x0_2 32768)) != 1) = true := bne_iff_ne.mpr c7
         have H' := Aside0.mk H
         clear H
         go_wp2
         go_roundg k2
         case measure => have := HK1.out; have := HK2.out; omega
         case rel => exact ⟨(IntKind.u16.wrap ((Int.tmod x0_2 32768) * 2)), (wrap64 (x6_2 + 1)), (by first | rfl | (simp; done) | (simp [*]; done)), (by first | rfl | (simp; done) | (simp [*]; done)), H', ⟨by have := HK1.out; have := HK2.out; omega⟩, by repeat (first | exact Drawn0.refl _ | apply Drawn0.step)⟩
       ·rw [if_neg c6] at H
        have c6b0 : decide (x6_2 < 8) = false := decide_eq_false c6
        clear c6
        have H' := Aside0.mk H
        clear H
        go_wp2
        go_roundg k2
        case measure => have := HK1.out; have := HK2.out; omega
        case rel => exact ⟨(x0_2), (wrap64 (x5_1 + 1)), (by first | rfl | (simp; done) | (simp [*]; done)), (by first | rfl | (simp; done) | (simp [*]; done)), H', ⟨by have := HK1.out; have := HK2.out; omega⟩, by repeat (first | exact Drawn0.refl _ | apply Drawn0.step)⟩
    ·rw [if_neg c4] at H
     exact absurd H (by simp)
   ·rw [if_neg c3] at H
    have c3b0 : decide (x5_1 < (a1.size : Int)) = false := decide_eq_false c3
    clear c3
    obtain rfl := Option.some.inj H
    go_wp2
    go_ret
    exact ⟨by first | rfl | (simp; done) | (simp [*]; done), by repeat (first | exact Drawn0.refl _ | apply Drawn0.step)⟩

/-! ### masterdiscref02_CRC16: function 73 -/
def masterdiscref02_CRC16.f (k : Nat) (a0 : ByteArray) : Option (Int) := (masterdiscref02_ExtendCRC16.f k 0 a0).bind fun t152 => (some t152)
set_option maxHeartbeats 8000000 in
set_option maxRecDepth 100000 in
theorem masterdiscref02_CRC16.calls (k : Nat) (a0 : ByteArray) (r : Int) (w : World) (h : masterdiscref02_CRC16.f k a0 = some r) :
  Calls Tryz.prog 73 #[.string a0] w fun e w' => e = .returned (.int .u16 r) ∧ Drawn0 w w' := by
 have H : ((masterdiscref02_ExtendCRC16.f k 0 a0).bind fun t152 => (some t152)) = some r := h
 clear h
 replace H := Option.bind_eq_some_iff.mp H
 obtain ⟨t152, A20, H⟩ := H
 replace H : (some t152) = some r := H
 have A2 := Aside0.mk A20
 clear A20
 obtain rfl := Option.some.inj H
 go_enter Tryz.func73, Tryz.ntmps73
 go_wp2_with (first | ((with_reducible refine gate_callee (f := 103) rfl ?_); refine goesL_ (some 4) rfl rfl Tryz.func103 (by kernel_rfl) rfl #[.int .u16 0, .string a0] rfl (by (try simp only [List.map_toArray, List.map_cons, List.map_nil]); first | done | rfl | (simp only [List.length_drop, List.length_take]; rfl)) ?_; (with_reducible refine (masterdiscref02_ExtendCRC16.calls k 0 a0 t152 _ A2.out).mono ?_); rintro e w' ⟨rfl, ⟨nd, rfl⟩⟩; refine ⟨_, rfl, ?_⟩))
 go_ret
 exact ⟨by first | rfl | (simp; done) | (simp [*]; done), by repeat (first | exact Drawn0.refl _ | apply Drawn0.step)⟩

/-! ### masterdiscref02_Sum8: function 114 -/
def masterdiscref02_Sum8.l0 : Nat → ByteArray → Int → Int → Option (Int)
 | 0, _, _, _ => none
 | k + 1, x0, x3, x4 => if x4 < (x0.size : Int) then (if 0 ≤ x4 then (masterdiscref02_Sum8.l0 k x0 (Int.tmod (wrap64 (x3 + (wrap64 (bt x0 x4)))) 256) (wrap64 (x4 + 1))) else (none)) else (some ((x3) % 256))
def masterdiscref02_Sum8.f (k : Nat) (a0 : ByteArray) : Option (Int) := masterdiscref02_Sum8.l0 k a0 0 0
set_option maxHeartbeats 8000000 in
set_option maxRecDepth 100000 in
theorem masterdiscref02_Sum8.calls (k : Nat) (a0 : ByteArray) (r : Int) (w : World) (h : masterdiscref02_Sum8.f k a0 = some r) :
  Calls Tryz.prog 114 #[.string a0] w fun e w' => e = .returned (.int .u8 r) ∧ Drawn0 w w' := by
 have H : (masterdiscref02_Sum8.l0 k a0 0 0) = some r := h
 clear h
 have H' := Aside0.mk H
 clear H
 go_enter Tryz.func114, Tryz.ntmps114
 go_wp2
 go_loopg [3, 4] k (fun kq v3 v4 w' => ∃ (x3_1 : Int) (x4_1 : Int), v3 = .int .i64 x3_1 ∧ v4 = .int .i64 x4_1 ∧ Aside0 (masterdiscref02_Sum8.l0 kq a0 x3_1 x4_1 = some r) ∧ Aside0 (kq ≤ k) ∧ Drawn0 w w')
 case atStart => exact ⟨(0), (0), (by first | rfl | (simp; done) | (simp [*]; done)), (by first | rfl | (simp; done) | (simp [*]; done)), H', ⟨Nat.le_refl _⟩, by repeat (first | exact Drawn0.refl _ | apply Drawn0.step)⟩
 case round =>
  clear H'
  try clear c1
  obtain ⟨x3_1, x4_1, rfl, rfl, HA, HK1, ⟨m1, rfl⟩⟩ := hrel
  cases gk with
  | zero => exact absurd HA.out (by simp [masterdiscref02_Sum8.l0])
  | succ k1 =>
   have H := HA.out
   clear HA
   simp only [masterdiscref02_Sum8.l0] at H
   by_cases c2 : x4_1 < (a0.size : Int)
   ·rw [if_pos c2] at H
    have c2b0 : decide (x4_1 < (a0.size : Int)) = true := decide_eq_true c2
    clear c2
    by_cases c3 : 0 ≤ x4_1
    ·rw [if_pos c3] at H
     have c3b0 : decide (0 ≤ x4_1) = true := decide_eq_true c3
     clear c3
     have H' := Aside0.mk H
     clear H
     have p4 : 0 ≤ (x4_1 : Int) := of_decide_eq_true (by first | (with_reducible assumption) | assumption)
     have q4 : x4_1 < (a0.size : Int) := of_decide_eq_true (by first | (with_reducible assumption) | assumption)
     have hx4 := bt_at a0 x4_1
     replace p4 := eq_true p4
     replace q4 := eq_true q4
     go_wp2
     go_roundg k1
     case measure => have := HK1.out; omega
     case rel => exact ⟨(Int.tmod (wrap64 (x3_1 + (wrap64 (bt a0 x4_1)))) 256), (wrap64 (x4_1 + 1)), (by first | rfl | (simp; done) | (simp [*]; done)), (by first | rfl | (simp; done) | (simp [*]; done)), H', ⟨by have := HK1.out; omega⟩, by repeat (first | exact Drawn0.refl _ | apply Drawn0.step)⟩
    ·rw [if_neg c3] at H
     exact absurd H (by simp)
   ·rw [if_neg c2] at H
    have c2b0 : decide (x4_1 < (a0.size : Int)) = false := decide_eq_false c2
    clear c2
    obtain rfl := Option.some.inj H
    go_wp2
    go_ret
    exact ⟨by first | rfl | (simp; done) | (simp [*]; done), by repeat (first | exact Drawn0.refl _ | apply Drawn0.step)⟩

/-! ### masterdiscref31_sum: function 104 -/
def masterdiscref31_sum.f (k : Nat) (a0 : ByteArray) : Option (Int) := if 0 ≤ 4 then (if 4 ≤ (a0.size : Int) then (if 5 ≤ 16 then (if 16 ≤ (a0.size : Int) then (if (a0.extract 0 4).size + (a0.extract 5 16).size ≤ 9223372036854775807 then ((masterdiscref02_Sum8.f k ((a0.extract 0 4) ++ (a0.extract 5 16))).bind fun t153 => (some t153)) else (none)) else (none)) else (none)) else (none)) else (none)
set_option maxHeartbeats 8000000 in
set_option maxRecDepth 100000 in
theorem masterdiscref31_sum.calls (k : Nat) (a0 : ByteArray) (r : Int) (w : World) (h : masterdiscref31_sum.f k a0 = some r) :
  Calls Tryz.prog 104 #[.string a0] w fun e w' => e = .returned (.int .u8 r) ∧ Drawn0 w w' := by
 have H : (if 0 ≤ 4 then (if 4 ≤ (a0.size : Int) then (if 5 ≤ 16 then (if 16 ≤ (a0.size : Int) then (if (a0.extract 0 4).size + (a0.extract 5 16).size ≤ 9223372036854775807 then ((masterdiscref02_Sum8.f k ((a0.extract 0 4) ++ (a0.extract 5 16))).bind fun t153 => (some t153)) else (none)) else (none)) else (none)) else (none)) else (none)) = some r := h
 clear h
 by_cases c2 : 0 ≤ 4
 ·rw [if_pos c2] at H
  have c2b0 := eq_true c2
  have c2b1 : decide (0 ≤ 4) = true := decide_eq_true c2
  clear c2
  by_cases c3 : 4 ≤ (a0.size : Int)
  ·rw [if_pos c3] at H
   have c3b0 := eq_true c3
   have c3b1 : decide (4 ≤ (a0.size : Int)) = true := decide_eq_true c3
   clear c3
   by_cases c4 : 5 ≤ 16
   ·rw [if_pos c4] at H
    have c4b0 := eq_true c4
    have c4b1 : decide (5 ≤ 16) = true := decide_eq_true c4
    clear c4
    by_cases c5 : 16 ≤ (a0.size : Int)
    ·rw [if_pos c5] at H
     have c5b0 := eq_true c5
     have c5b1 : decide (16 ≤ (a0.size : Int)) = true := decide_eq_true c5
     clear c5
     by_cases c6 : (a0.extract 0 4).size + (a0.extract 5 16).size ≤ 9223372036854775807
     ·rw [if_pos c6] at H
      have c6b0 := eq_true c6
      have c6b1 : decide ((a0.extract 0 4).size + (a0.extract 5 16).size ≤ 9223372036854775807) = true := decide_eq_true c6
      try have c6b2 : (9223372036854775807 < (a0.extract 0 4).size + (a0.extract 5 16).size) = False := eq_false (Nat.not_lt.2 c6)
      try have c6b3 : (9223372036854775807 < min 4 a0.size + (a0.extract 5 16).size) = False := by simpa using c6b2
      replace H := Option.bind_eq_some_iff.mp H
      obtain ⟨t153, A70, H⟩ := H
      replace H : (some t153) = some r := H
      have A7 := Aside0.mk A70
      clear A70
      obtain rfl := Option.some.inj H
      go_enter Tryz.func104, Tryz.ntmps104
      go_wp2_with (first | (go_at_call 114; (with_reducible refine (masterdiscref02_Sum8.calls k ((a0.extract 0 4) ++ (a0.extract 5 16)) t153 _ A7.out).mono ?_); rintro e w' ⟨rfl, ⟨nd, rfl⟩⟩; (try first | exact ⟨rfl, _, World.drewN_drewN _ _ _⟩ | exact ⟨rfl, _, Eq.trans (World.drewN_drewN _ _ _) (congrArg (World.drewN _) (Nat.add_assoc _ _ _))⟩)))
      repeat (go_quiet (first | (go_at_call 114; (with_reducible refine (masterdiscref02_Sum8.calls k ((a0.extract 0 4) ++ (a0.extract 5 16)) t153 _ A7.out).mono ?_); rintro e w' ⟨rfl, ⟨nd, rfl⟩⟩; (try first | exact ⟨rfl, _, World.drewN_drewN _ _ _⟩ | exact ⟨rfl, _, Eq.trans (World.drewN_drewN _ _ _) (congrArg (World.drewN _) (Nat.add_assoc _ _ _))⟩))); try go_wp2_with (first | (go_at_call 114; (with_reducible refine (masterdiscref02_Sum8.calls k ((a0.extract 0 4) ++ (a0.extract 5 16)) t153 _ A7.out).mono ?_); rintro e w' ⟨rfl, ⟨nd, rfl⟩⟩; (try first | exact ⟨rfl, _, World.drewN_drewN _ _ _⟩ | exact ⟨rfl, _, Eq.trans (World.drewN_drewN _ _ _) (congrArg (World.drewN _) (Nat.add_assoc _ _ _))⟩))))
      go_ret
      exact ⟨by first | rfl | (simp; done) | (simp [*]; done), by repeat (first | exact Drawn0.refl _ | apply Drawn0.step)⟩
     ·rw [if_neg c6] at H
      exact absurd H (by simp)
    ·rw [if_neg c5] at H
     exact absurd H (by simp)
   ·rw [if_neg c4] at H
    exact absurd H (by simp)
  ·rw [if_neg c3] at H
   exact absurd H (by simp)
 ·rw [if_neg c2] at H
  exact absurd H (by simp)

end Go.Proofs.YtdepicgdbealpaaGreat.V
