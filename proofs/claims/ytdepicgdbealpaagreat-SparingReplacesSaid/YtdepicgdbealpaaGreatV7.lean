/- Plain functions, contracts and rows, written by a program of this session out of the translation (hprint.sh, over the kit's print). Lean checks them. -/
import Derived.Test.YtdepicgdbealpaaGreatV0
import Derived.Test.YtdepicgdbealpaaGreatV6
namespace Go.Proofs.YtdepicgdbealpaaGreat.V
open Go.RowKit Go.Proofs.YtdepicgdbealpaaGreatW.PrintWords Go.Proofs.YtdepicgdbealpaaGreatW.PrintLast Go.Proofs.YtdepicgdbealpaaGreatW.PrintMore
attribute [local go_sem] max2_int min2_int max_two min_two max_three min_three max_four min_four   -- for this text's walks alone
set_option linter.unusedVariables false
set_option linter.unusedSimpArgs false

/-! ### masterdiscref31_summed: function 74 -/
def masterdiscref31_summed.f (k : Nat) (a0 : ByteArray) : Option (ByteArray) := if 0 ≤ 4 then (if 4 ≤ (a0.size : Int) then ((masterdiscref31_sum.f k a0).bind fun t154 => ((some (([t154] : List Int) : List Int)).bind fun y155 => (if (a0.extract 0 4).size + (strOfNums y155).size ≤ 9223372036854775807 then (if 5 ≤ (a0.size : Int) then (if ((a0.extract 0 4) ++ (strOfNums y155)).size + (a0.extract 5 a0.size).size ≤ 9223372036854775807 then (some (((a0.extract 0 4) ++ (strOfNums y155)) ++ (a0.extract 5 a0.size))) else (none)) else (none)) else (none)))) else (none)) else (none)
def masterdiscref31_summed.T1 : Bool × List (List Nat × List Nat) := (true, [([], []), ([0], [0]), ([], []), ([2], [2]), ([3], [3]), ([4], [4]), ([1, 5], [1, 5]), ([], []), ([7], [7]), ([6, 8], [6, 8]), ([9, 3, 0, 1, 2, 3, 4, 5, 6, 7, 8, 9], [9])])
def masterdiscref31_summed.B1 : List Nat := [0, 1, 0, 4, 12, 28, 63, 0, 128, 511, 1023]
theorem masterdiscref31_summed.tab1 : rtab .any (opsOf Tryz.f74 1) = masterdiscref31_summed.T1 := by kernel_rfl
theorem masterdiscref31_summed.bits1 : waitsOk masterdiscref31_summed.T1.2 masterdiscref31_summed.B1 = true := by kernel_rfl
set_option maxHeartbeats 8000000 in
set_option maxRecDepth 100000 in
theorem masterdiscref31_summed.calls (k : Nat) (a0 : ByteArray) (r : ByteArray) (w : World) (h : masterdiscref31_summed.f k a0 = some r) :
    Calls Tryz.prog 74 #[.string a0] w fun e w' => e = .returned (.string r) ∧ Below w.heap.size w w' := by
  have HB := Aside0.mk (Below.refl w.heap.size w)
  have H : (if 0 ≤ 4 then (if 4 ≤ (a0.size : Int) then ((masterdiscref31_sum.f k a0).bind fun t154 => ((some (([t154] : List Int) : List Int)).bind fun y155 => (if (a0.extract 0 4).size + (strOfNums y155).size ≤ 9223372036854775807 then (if 5 ≤ (a0.size : Int) then (if ((a0.extract 0 4) ++ (strOfNums y155)).size + (a0.extract 5 a0.size).size ≤ 9223372036854775807 then (some (((a0.extract 0 4) ++ (strOfNums y155)) ++ (a0.extract 5 a0.size))) else (none)) else (none)) else (none)))) else (none)) else (none)) = some r := h
  clear h
  by_cases c2 : 0 ≤ 4
  · rw [if_pos c2] at H
    have c2b0 := eq_true c2
    have c2b1 : decide (0 ≤ 4) = true := decide_eq_true c2
    clear c2
    by_cases c3 : 4 ≤ (a0.size : Int)
    · rw [if_pos c3] at H
      have c3b0 := eq_true c3
      have c3b1 : decide (4 ≤ (a0.size : Int)) = true := decide_eq_true c3
      clear c3
      replace H := Option.bind_eq_some_iff.mp H
      obtain ⟨t154, A40, H⟩ := H
      replace H : ((some (([t154] : List Int) : List Int)).bind fun y155 => (if (a0.extract 0 4).size + (strOfNums y155).size ≤ 9223372036854775807 then (if 5 ≤ (a0.size : Int) then (if ((a0.extract 0 4) ++ (strOfNums y155)).size + (a0.extract 5 a0.size).size ≤ 9223372036854775807 then (some (((a0.extract 0 4) ++ (strOfNums y155)) ++ (a0.extract 5 a0.size))) else (none)) else (none)) else (none))) = some r := H
      have A4 := Aside0.mk A40
      clear A40
      obtain ⟨y155, hy155⟩ : ∃ y_ : List Int, y_ = (([t154] : List Int)) := ⟨_, rfl⟩
      replace H : (if (a0.extract 0 4).size + (strOfNums y155).size ≤ 9223372036854775807 then (if 5 ≤ (a0.size : Int) then (if ((a0.extract 0 4) ++ (strOfNums y155)).size + (a0.extract 5 a0.size).size ≤ 9223372036854775807 then (some (((a0.extract 0 4) ++ (strOfNums y155)) ++ (a0.extract 5 a0.size))) else (none)) else (none)) else (none)) = some r := by first | (rw [hy155]; with_reducible exact H) | (have H2_ := (Option.bind_some _ _).symm.trans H; rw [hy155]; with_reducible exact H2_) | (have H2_ := (Option.bind_some _ _).symm.trans H; with_reducible exact H2_) | with_reducible exact H | (rw [hy155]; exact H) | exact H
      have Ny155 := Aside0.mk hy155
      clear hy155
      by_cases c5 : (a0.extract 0 4).size + (strOfNums y155).size ≤ 9223372036854775807
      · rw [if_pos c5] at H
        have c5b0 := eq_true c5
        have c5b1 : decide ((a0.extract 0 4).size + (strOfNums y155).size ≤ 9223372036854775807) = true := decide_eq_true c5
        try have c5b2 : (9223372036854775807 < (a0.extract 0 4).size + (strOfNums y155).size) = False := eq_false (Nat.not_lt.2 c5)
        try have c5b3 : (9223372036854775807 < min 4 a0.size + (strOfNums y155).size) = False := by simpa using c5b2
        by_cases c6 : 5 ≤ (a0.size : Int)
        · rw [if_pos c6] at H
          have c6b0 := eq_true c6
          have c6b1 : decide (5 ≤ (a0.size : Int)) = true := decide_eq_true c6
          clear c6
          by_cases c7 : ((a0.extract 0 4) ++ (strOfNums y155)).size + (a0.extract 5 a0.size).size ≤ 9223372036854775807
          · rw [if_pos c7] at H
            have c7b0 := eq_true c7
            have c7b1 : decide (((a0.extract 0 4) ++ (strOfNums y155)).size + (a0.extract 5 a0.size).size ≤ 9223372036854775807) = true := decide_eq_true c7
            try have c7b2 : (9223372036854775807 < ((a0.extract 0 4) ++ (strOfNums y155)).size + (a0.extract 5 a0.size).size) = False := eq_false (Nat.not_lt.2 c7)
            try have c7b3 : (9223372036854775807 < min 4 a0.size + (strOfNums y155).size + (a0.size - 5)) = False := eq_false (by have h := c7; simp only [ByteArray.size_append, ByteArray.size_extract] at h; omega)
            obtain rfl := Option.some.inj H
            go_enter Tryz.func74, Tryz.ntmps74
            try go_wp2
            have n0_ := Aside0.mk (below_drew1 HB.out)
            clear HB
            have HB := n0_
            clear n0_
            refine start_ (n := 11) (S := fun w' => True) (ds := []) #[false, false, false, false, false, false, false, false, false, false, false] (by kernel_rfl) rfl rfl trivial (fun hHeld => ?_); refine with_tabW masterdiscref31_summed.tab1 masterdiscref31_summed.bits1 (fun HT_ HW_ => ?_)
            generalize w.drew = w8 at HB hHeld ⊢
            refine pure_ (i := 0) (N := some 3) (v := ?_) (a' := ?_) #[true, false, false, false, false, false, false, false, false, false, false] rfl rfl (any_of HT_.out (by kernel_rfl)) (fun _ _ _ h => h) (Or.inl ⟨by rfl, ?_⟩) ?_ ?_
            rotate_left
            · intro w'
              go_simp
              with_reducible rfl
            rotate_left
            · simp only [Act.put, List.setIfInBounds_toArray, List.set_cons_zero, List.set_cons_succ, i64_w, i32_w]
              rfl
            refine pure_ (i := 1) (N := some 4) (v := ?_) (a' := ?_) #[true, true, false, false, false, false, false, false, false, false, false] rfl rfl (any_of HT_.out (by kernel_rfl)) (fun _ _ _ h => h) (Or.inl ⟨by rfl, ?_⟩) ?_ ?_
            rotate_left
            · intro w'
              go_simp
              with_reducible rfl
            rotate_left
            · simp only [Act.put, List.setIfInBounds_toArray, List.set_cons_zero, List.set_cons_succ, i64_w, i32_w]
              rfl
            refine pure_ (i := 2) (N := some 5) (v := ?_) (a' := ?_) #[true, true, true, false, false, false, false, false, false, false, false] rfl rfl (any_of HT_.out (by kernel_rfl)) (fun _ _ _ h => h) (Or.inl ⟨by rfl, ?_⟩) ?_ ?_
            rotate_left
            · intro w'
              go_simp
              with_reducible rfl
            rotate_left
            · simp only [Act.put, List.setIfInBounds_toArray, List.set_cons_zero, List.set_cons_succ, i64_w, i32_w]
              rfl
            refine pure_ (i := 7) (N := some 10) (v := ?_) (a' := ?_) #[true, true, true, false, false, false, false, true, false, false, false] rfl rfl (any_of HT_.out (by kernel_rfl)) (fun _ _ _ h => h) (Or.inl ⟨by rfl, ?_⟩) ?_ ?_
            rotate_left
            · intro w'
              go_simp
              with_reducible rfl
            rotate_left
            · simp only [Act.put, List.setIfInBounds_toArray, List.set_cons_zero, List.set_cons_succ, i64_w, i32_w]
              rfl
            refine pure_ (i := 8) (N := some 11) (v := ?_) (a' := ?_) #[true, true, true, false, false, false, false, true, true, false, false] rfl rfl (any_of HT_.out (by kernel_rfl)) (fun _ _ _ h => h) (Or.inl ⟨by rfl, ?_⟩) ?_ ?_
            rotate_left
            · intro w'
              go_simp
              with_reducible rfl
            rotate_left
            · simp only [Act.put, List.setIfInBounds_toArray, List.set_cons_zero, List.set_cons_succ, i64_w, i32_w]
              rfl
            refine one_ (i := 3) (N := some 6) #[true, true, true, true, false, false, false, true, true, false, false] rfl rfl (one_of HT_.out (by kernel_rfl)) (by decide) (fun K hK => ?_)
            refine goes_ Tryz.func104 (by kernel_rfl) rfl #[.string a0] (by rfl) rfl rfl (by (try simp only [List.map_toArray, List.map_cons, List.map_nil]); first | done | rfl | (simp only [List.length_drop, List.length_take]; rfl)) ?_
            with_reducible refine (masterdiscref31_sum.calls k a0 t154 _ A4.out).mono ?_
            rintro e w' ⟨rfl, ⟨nd, rfl⟩⟩
            refine ⟨_, rfl, ?_⟩
            refine hK.out _ _ trivial (fun hHeld => ?_)
            clear hK K
            refine norm_ (a' := ?_) ?_ ?_
            rotate_left
            · show Act.put _ (some 6) _ = _
              simp only [Act.put, List.setIfInBounds_toArray, List.set_cons_zero, List.set_cons_succ, i64_w, i32_w]
              rfl
            refine one_ (i := 4) (N := some 7) #[true, true, true, true, true, false, false, true, true, false, false] rfl rfl (one_of HT_.out (by kernel_rfl)) (by decide) (fun K hK => ?_)
            refine Kd.R_lit_step (Kd.int .u8) _ 5 ?hg (N := 7) ?hd (xs := ([t154] : List Int)) (inner := [.int .u8 t154]) (ok := fun _ => True) (okp := fun _ => True) ?hr ?hp (fun _ hk => hk) trivial (Below.refl _ _) (Nat.le_refl _) (by simp) ?_; (case hd => rfl); (case hg => rfl); (case hr => first | (go_simp; done) | (go_simp; rfl)); (case hp => exact (Reps.one (show Kd.M (Kd.int .u8) _ _ _ t154 [.int .u8 t154] from rfl) (Reps.none _ _)))
            intro v156 w9 ho10 hb hg_ hnew_
            clear hg_ hnew_
            (first | rw [← Ny155.out] at ho10 | (simp only [Int.reduceToNat] at ho10; rw [← Ny155.out] at ho10))
            have n0_ := Aside0.mk (Kd.R_lower ho10 (below_size (by repeat (first | (with_reducible first | exact HB.out | apply below_alloc | apply pw_below_drewN | apply below_drew1) | exact HB.out))))
            have n1_ := Aside0.mk (below_step (by repeat (first | (with_reducible first | exact HB.out | apply below_alloc | apply pw_below_drewN | apply below_drew1) | exact HB.out)) hb)
            clear HB
            have HO157 := n0_
            have HB := n1_
            clear n0_ n1_
            clear hb ho10
            refine hK.out _ _ trivial (fun hHeld => ?_)
            clear hK K
            refine norm_ (a' := ?_) ?_ ?_
            rotate_left
            · show Act.put _ (some 7) _ = _
              simp only [Act.put, List.setIfInBounds_toArray, List.set_cons_zero, List.set_cons_succ, i64_w, i32_w]
              rfl
            refine one_ (i := 5) (N := some 8) #[true, true, true, true, true, true, false, true, true, false, false] rfl rfl (one_of HT_.out (by kernel_rfl)) (by decide) (fun K hK => ?_)
            have hcv11 := own_string (P := Tryz.prog) Tryz.underlying77 Tryz.underlying5 Tryz.underlying9 (Kd.own_of_R HO157.out)
            refine value_ (w1 := ?_) (v := ?_) (by rfl) rfl ?_ ?_
            rotate_left 2
            · go_simp
              constructor
              · rfl
              · rfl
            clear hcv11
            refine hK.out _ _ trivial (fun hHeld => ?_)
            clear hK K
            refine norm_ (a' := ?_) ?_ ?_
            rotate_left
            · show Act.put _ (some 8) _ = _
              simp only [Act.put, List.setIfInBounds_toArray, List.set_cons_zero, List.set_cons_succ, i64_w, i32_w]
              rfl
            refine pure_ (i := 6) (N := some 9) (v := ?_) (a' := ?_) #[true, true, true, true, true, true, true, true, true, false, false] rfl rfl (any_of HT_.out (by kernel_rfl)) (fun _ _ _ h => h) (Or.inl ⟨by rfl, ?_⟩) ?_ ?_
            rotate_left
            · intro w'
              go_simp
              with_reducible rfl
            rotate_left
            · simp only [Act.put, List.setIfInBounds_toArray, List.set_cons_zero, List.set_cons_succ, i64_w, i32_w]
              rfl
            refine pure_ (i := 9) (N := some 12) (v := ?_) (a' := ?_) #[true, true, true, true, true, true, true, true, true, true, false] rfl rfl (any_of HT_.out (by kernel_rfl)) (fun _ _ _ h => h) (Or.inl ⟨by rfl, ?_⟩) ?_ ?_
            rotate_left
            · intro w'
              go_simp
              with_reducible rfl
            rotate_left
            · simp only [Act.put, List.setIfInBounds_toArray, List.set_cons_zero, List.set_cons_succ, i64_w, i32_w]
              rfl
            refine pure_ (i := 10) (N := some 2) (v := ?_) (a' := ?_) #[true, true, true, true, true, true, true, true, true, true, true] rfl rfl (any_of HT_.out (by kernel_rfl)) (fun _ _ _ h => h) (Or.inl ⟨by rfl, ?_⟩) ?_ ?_
            rotate_left
            · intro w'
              go_simp
              with_reducible rfl
            rotate_left
            · simp only [Act.put, List.setIfInBounds_toArray, List.set_cons_zero, List.set_cons_succ, i64_w, i32_w]
              rfl
            refine done_ (done_of HT_.out (by kernel_rfl)) ?_
            try go_wp2
            go_ret
            exact ⟨by first | rfl | (simp [errW_none, errW_some] <;> rfl) | (simp [*, errW_none, errW_some] <;> rfl), by repeat (first | (with_reducible first | exact HB.out | apply below_alloc | apply pw_below_drewN | apply below_drew1) | exact HB.out)⟩
          · rw [if_neg c7] at H
            exact absurd H (by simp)
        · rw [if_neg c6] at H
          exact absurd H (by simp)
      · rw [if_neg c5] at H
        exact absurd H (by simp)
    · rw [if_neg c3] at H
      exact absurd H (by simp)
  · rw [if_neg c2] at H
    exact absurd H (by simp)

/-! ### masterdiscref31_Make: function 51 -/
def masterdiscref31_Make.f (k : Nat) (a0 : Int) (a1 : Int) (a2 : Int) (a3 : ByteArray) : Option (ByteArray) := (masterdiscref01_Bytes.f k a0 2).bind fun t158 => (if t158.size + 4 ≤ 9223372036854775807 then ((masterdiscref01_Bytes.f k a1 2).bind fun t159 => (if (t158 ++ (⟨#[3, 0, 0, 0]⟩ : ByteArray)).size + t159.size ≤ 9223372036854775807 then ((masterdiscref02_CRC16.f k a3).bind fun t160 => ((masterdiscref01_Bytes.f k (wrap64 (t160)) 2).bind fun t161 => (if ((t158 ++ (⟨#[3, 0, 0, 0]⟩ : ByteArray)) ++ t159).size + t161.size ≤ 9223372036854775807 then ((masterdiscref01_Bytes.f k (a3.size : Int) 2).bind fun t162 => (if (((t158 ++ (⟨#[3, 0, 0, 0]⟩ : ByteArray)) ++ t159) ++ t161).size + t162.size ≤ 9223372036854775807 then ((masterdiscref01_Bytes.f k a2 4).bind fun t163 => (if ((((t158 ++ (⟨#[3, 0, 0, 0]⟩ : ByteArray)) ++ t159) ++ t161) ++ t162).size + t163.size ≤ 9223372036854775807 then ((masterdiscref31_summed.f k (((((t158 ++ (⟨#[3, 0, 0, 0]⟩ : ByteArray)) ++ t159) ++ t161) ++ t162) ++ t163)).bind fun t164 => (if t164.size + a3.size ≤ 9223372036854775807 then (some (t164 ++ a3)) else (none))) else (none))) else (none))) else (none)))) else (none))) else (none))
set_option maxHeartbeats 8000000 in
set_option maxRecDepth 100000 in
theorem masterdiscref31_Make.calls (k : Nat) (a0 : Int) (a1 : Int) (a2 : Int) (a3 : ByteArray) (r : ByteArray) (w : World) (h : masterdiscref31_Make.f k a0 a1 a2 a3 = some r) :
    Calls Tryz.prog 51 #[.int .i64 a0, .int .i64 a1, .int .i64 a2, .string a3] w fun e w' => e = .returned (.string r) ∧ Below w.heap.size w w' := by
  have HB := Aside0.mk (Below.refl w.heap.size w)
  have H : ((masterdiscref01_Bytes.f k a0 2).bind fun t158 => (if t158.size + 4 ≤ 9223372036854775807 then ((masterdiscref01_Bytes.f k a1 2).bind fun t159 => (if (t158 ++ (⟨#[3, 0, 0, 0]⟩ : ByteArray)).size + t159.size ≤ 9223372036854775807 then ((masterdiscref02_CRC16.f k a3).bind fun t160 => ((masterdiscref01_Bytes.f k (wrap64 (t160)) 2).bind fun t161 => (if ((t158 ++ (⟨#[3, 0, 0, 0]⟩ : ByteArray)) ++ t159).size + t161.size ≤ 9223372036854775807 then ((masterdiscref01_Bytes.f k (a3.size : Int) 2).bind fun t162 => (if (((t158 ++ (⟨#[3, 0, 0, 0]⟩ : ByteArray)) ++ t159) ++ t161).size + t162.size ≤ 9223372036854775807 then ((masterdiscref01_Bytes.f k a2 4).bind fun t163 => (if ((((t158 ++ (⟨#[3, 0, 0, 0]⟩ : ByteArray)) ++ t159) ++ t161) ++ t162).size + t163.size ≤ 9223372036854775807 then ((masterdiscref31_summed.f k (((((t158 ++ (⟨#[3, 0, 0, 0]⟩ : ByteArray)) ++ t159) ++ t161) ++ t162) ++ t163)).bind fun t164 => (if t164.size + a3.size ≤ 9223372036854775807 then (some (t164 ++ a3)) else (none))) else (none))) else (none))) else (none)))) else (none))) else (none))) = some r := h
  clear h
  replace H := Option.bind_eq_some_iff.mp H
  obtain ⟨t158, A50, H⟩ := H
  replace H : (if t158.size + 4 ≤ 9223372036854775807 then ((masterdiscref01_Bytes.f k a1 2).bind fun t159 => (if (t158 ++ (⟨#[3, 0, 0, 0]⟩ : ByteArray)).size + t159.size ≤ 9223372036854775807 then ((masterdiscref02_CRC16.f k a3).bind fun t160 => ((masterdiscref01_Bytes.f k (wrap64 (t160)) 2).bind fun t161 => (if ((t158 ++ (⟨#[3, 0, 0, 0]⟩ : ByteArray)) ++ t159).size + t161.size ≤ 9223372036854775807 then ((masterdiscref01_Bytes.f k (a3.size : Int) 2).bind fun t162 => (if (((t158 ++ (⟨#[3, 0, 0, 0]⟩ : ByteArray)) ++ t159) ++ t161).size + t162.size ≤ 9223372036854775807 then ((masterdiscref01_Bytes.f k a2 4).bind fun t163 => (if ((((t158 ++ (⟨#[3, 0, 0, 0]⟩ : ByteArray)) ++ t159) ++ t161) ++ t162).size + t163.size ≤ 9223372036854775807 then ((masterdiscref31_summed.f k (((((t158 ++ (⟨#[3, 0, 0, 0]⟩ : ByteArray)) ++ t159) ++ t161) ++ t162) ++ t163)).bind fun t164 => (if t164.size + a3.size ≤ 9223372036854775807 then (some (t164 ++ a3)) else (none))) else (none))) else (none))) else (none)))) else (none))) else (none)) = some r := H
  have A5 := Aside0.mk A50
  clear A50
  by_cases c6 : t158.size + 4 ≤ 9223372036854775807
  · rw [if_pos c6] at H
    have c6b0 := eq_true c6
    have c6b1 : decide (t158.size + 4 ≤ 9223372036854775807) = true := decide_eq_true c6
    try have c6b2 : (9223372036854775807 < t158.size + 4) = False := eq_false (Nat.not_lt.2 c6)
    replace H := Option.bind_eq_some_iff.mp H
    obtain ⟨t159, A70, H⟩ := H
    replace H : (if (t158 ++ (⟨#[3, 0, 0, 0]⟩ : ByteArray)).size + t159.size ≤ 9223372036854775807 then ((masterdiscref02_CRC16.f k a3).bind fun t160 => ((masterdiscref01_Bytes.f k (wrap64 (t160)) 2).bind fun t161 => (if ((t158 ++ (⟨#[3, 0, 0, 0]⟩ : ByteArray)) ++ t159).size + t161.size ≤ 9223372036854775807 then ((masterdiscref01_Bytes.f k (a3.size : Int) 2).bind fun t162 => (if (((t158 ++ (⟨#[3, 0, 0, 0]⟩ : ByteArray)) ++ t159) ++ t161).size + t162.size ≤ 9223372036854775807 then ((masterdiscref01_Bytes.f k a2 4).bind fun t163 => (if ((((t158 ++ (⟨#[3, 0, 0, 0]⟩ : ByteArray)) ++ t159) ++ t161) ++ t162).size + t163.size ≤ 9223372036854775807 then ((masterdiscref31_summed.f k (((((t158 ++ (⟨#[3, 0, 0, 0]⟩ : ByteArray)) ++ t159) ++ t161) ++ t162) ++ t163)).bind fun t164 => (if t164.size + a3.size ≤ 9223372036854775807 then (some (t164 ++ a3)) else (none))) else (none))) else (none))) else (none)))) else (none)) = some r := H
    have A7 := Aside0.mk A70
    clear A70
    by_cases c8 : (t158 ++ (⟨#[3, 0, 0, 0]⟩ : ByteArray)).size + t159.size ≤ 9223372036854775807
    · rw [if_pos c8] at H
      have c8b0 := eq_true c8
      have c8b1 : decide ((t158 ++ (⟨#[3, 0, 0, 0]⟩ : ByteArray)).size + t159.size ≤ 9223372036854775807) = true := decide_eq_true c8
      try have c8b2 : (9223372036854775807 < (t158 ++ (⟨#[3, 0, 0, 0]⟩ : ByteArray)).size + t159.size) = False := eq_false (Nat.not_lt.2 c8)
      try have c8b3 : (9223372036854775807 < t158.size + 4 + t159.size) = False := eq_false (by have h := c8; simp only [ByteArray.size_append] at h; have e0 : (⟨#[3, 0, 0, 0]⟩ : ByteArray).size = 4 := rfl; omega)
      replace H := Option.bind_eq_some_iff.mp H
      obtain ⟨t160, A90, H⟩ := H
      replace H : ((masterdiscref01_Bytes.f k (wrap64 (t160)) 2).bind fun t161 => (if ((t158 ++ (⟨#[3, 0, 0, 0]⟩ : ByteArray)) ++ t159).size + t161.size ≤ 9223372036854775807 then ((masterdiscref01_Bytes.f k (a3.size : Int) 2).bind fun t162 => (if (((t158 ++ (⟨#[3, 0, 0, 0]⟩ : ByteArray)) ++ t159) ++ t161).size + t162.size ≤ 9223372036854775807 then ((masterdiscref01_Bytes.f k a2 4).bind fun t163 => (if ((((t158 ++ (⟨#[3, 0, 0, 0]⟩ : ByteArray)) ++ t159) ++ t161) ++ t162).size + t163.size ≤ 9223372036854775807 then ((masterdiscref31_summed.f k (((((t158 ++ (⟨#[3, 0, 0, 0]⟩ : ByteArray)) ++ t159) ++ t161) ++ t162) ++ t163)).bind fun t164 => (if t164.size + a3.size ≤ 9223372036854775807 then (some (t164 ++ a3)) else (none))) else (none))) else (none))) else (none))) = some r := H
      have A9 := Aside0.mk A90
      clear A90
      replace H := Option.bind_eq_some_iff.mp H
      obtain ⟨t161, A100, H⟩ := H
      replace H : (if ((t158 ++ (⟨#[3, 0, 0, 0]⟩ : ByteArray)) ++ t159).size + t161.size ≤ 9223372036854775807 then ((masterdiscref01_Bytes.f k (a3.size : Int) 2).bind fun t162 => (if (((t158 ++ (⟨#[3, 0, 0, 0]⟩ : ByteArray)) ++ t159) ++ t161).size + t162.size ≤ 9223372036854775807 then ((masterdiscref01_Bytes.f k a2 4).bind fun t163 => (if ((((t158 ++ (⟨#[3, 0, 0, 0]⟩ : ByteArray)) ++ t159) ++ t161) ++ t162).size + t163.size ≤ 9223372036854775807 then ((masterdiscref31_summed.f k (((((t158 ++ (⟨#[3, 0, 0, 0]⟩ : ByteArray)) ++ t159) ++ t161) ++ t162) ++ t163)).bind fun t164 => (if t164.size + a3.size ≤ 9223372036854775807 then (some (t164 ++ a3)) else (none))) else (none))) else (none))) else (none)) = some r := H
      have A10 := Aside0.mk A100
      clear A100
      by_cases c11 : ((t158 ++ (⟨#[3, 0, 0, 0]⟩ : ByteArray)) ++ t159).size + t161.size ≤ 9223372036854775807
      · rw [if_pos c11] at H
        have c11b0 := eq_true c11
        have c11b1 : decide (((t158 ++ (⟨#[3, 0, 0, 0]⟩ : ByteArray)) ++ t159).size + t161.size ≤ 9223372036854775807) = true := decide_eq_true c11
        try have c11b2 : (9223372036854775807 < ((t158 ++ (⟨#[3, 0, 0, 0]⟩ : ByteArray)) ++ t159).size + t161.size) = False := eq_false (Nat.not_lt.2 c11)
        try have c11b3 : (9223372036854775807 < t158.size + 4 + t159.size + t161.size) = False := eq_false (by have h := c11; simp only [ByteArray.size_append] at h; have e0 : (⟨#[3, 0, 0, 0]⟩ : ByteArray).size = 4 := rfl; omega)
        replace H := Option.bind_eq_some_iff.mp H
        obtain ⟨t162, A120, H⟩ := H
        replace H : (if (((t158 ++ (⟨#[3, 0, 0, 0]⟩ : ByteArray)) ++ t159) ++ t161).size + t162.size ≤ 9223372036854775807 then ((masterdiscref01_Bytes.f k a2 4).bind fun t163 => (if ((((t158 ++ (⟨#[3, 0, 0, 0]⟩ : ByteArray)) ++ t159) ++ t161) ++ t162).size + t163.size ≤ 9223372036854775807 then ((masterdiscref31_summed.f k (((((t158 ++ (⟨#[3, 0, 0, 0]⟩ : ByteArray)) ++ t159) ++ t161) ++ t162) ++ t163)).bind fun t164 => (if t164.size + a3.size ≤ 9223372036854775807 then (some (t164 ++ a3)) else (none))) else (none))) else (none)) = some r := H
        have A12 := Aside0.mk A120
        clear A120
        by_cases c13 : (((t158 ++ (⟨#[3, 0, 0, 0]⟩ : ByteArray)) ++ t159) ++ t161).size + t162.size ≤ 9223372036854775807
        · rw [if_pos c13] at H
          have c13b0 := eq_true c13
          have c13b1 : decide ((((t158 ++ (⟨#[3, 0, 0, 0]⟩ : ByteArray)) ++ t159) ++ t161).size + t162.size ≤ 9223372036854775807) = true := decide_eq_true c13
          try have c13b2 : (9223372036854775807 < (((t158 ++ (⟨#[3, 0, 0, 0]⟩ : ByteArray)) ++ t159) ++ t161).size + t162.size) = False := eq_false (Nat.not_lt.2 c13)
          try have c13b3 : (9223372036854775807 < t158.size + 4 + t159.size + t161.size + t162.size) = False := eq_false (by have h := c13; simp only [ByteArray.size_append] at h; have e0 : (⟨#[3, 0, 0, 0]⟩ : ByteArray).size = 4 := rfl; omega)
          replace H := Option.bind_eq_some_iff.mp H
          obtain ⟨t163, A140, H⟩ := H
          replace H : (if ((((t158 ++ (⟨#[3, 0, 0, 0]⟩ : ByteArray)) ++ t159) ++ t161) ++ t162).size + t163.size ≤ 9223372036854775807 then ((masterdiscref31_summed.f k (((((t158 ++ (⟨#[3, 0, 0, 0]⟩ : ByteArray)) ++ t159) ++ t161) ++ t162) ++ t163)).bind fun t164 => (if t164.size + a3.size ≤ 9223372036854775807 then (some (t164 ++ a3)) else (none))) else (none)) = some r := H
          have A14 := Aside0.mk A140
          clear A140
          by_cases c15 : ((((t158 ++ (⟨#[3, 0, 0, 0]⟩ : ByteArray)) ++ t159) ++ t161) ++ t162).size + t163.size ≤ 9223372036854775807
          · rw [if_pos c15] at H
            have c15b0 := eq_true c15
            have c15b1 : decide (((((t158 ++ (⟨#[3, 0, 0, 0]⟩ : ByteArray)) ++ t159) ++ t161) ++ t162).size + t163.size ≤ 9223372036854775807) = true := decide_eq_true c15
            try have c15b2 : (9223372036854775807 < ((((t158 ++ (⟨#[3, 0, 0, 0]⟩ : ByteArray)) ++ t159) ++ t161) ++ t162).size + t163.size) = False := eq_false (Nat.not_lt.2 c15)
            try have c15b3 : (9223372036854775807 < t158.size + 4 + t159.size + t161.size + t162.size + t163.size) = False := eq_false (by have h := c15; simp only [ByteArray.size_append] at h; have e0 : (⟨#[3, 0, 0, 0]⟩ : ByteArray).size = 4 := rfl; omega)
            replace H := Option.bind_eq_some_iff.mp H
            obtain ⟨t164, A160, H⟩ := H
            replace H : (if t164.size + a3.size ≤ 9223372036854775807 then (some (t164 ++ a3)) else (none)) = some r := H
            have A16 := Aside0.mk A160
            clear A160
            by_cases c17 : t164.size + a3.size ≤ 9223372036854775807
            · rw [if_pos c17] at H
              have c17b0 := eq_true c17
              have c17b1 : decide (t164.size + a3.size ≤ 9223372036854775807) = true := decide_eq_true c17
              try have c17b2 : (9223372036854775807 < t164.size + a3.size) = False := eq_false (Nat.not_lt.2 c17)
              obtain rfl := Option.some.inj H
              go_enter Tryz.func51, Tryz.ntmps51
              go_wp2_with (first | ((with_reducible refine gate_callee (f := 30) rfl ?_); refine goesL_ (some 11) rfl rfl Tryz.func30 (by kernel_rfl) rfl #[.int .i64 a0, .int .i64 2] rfl (by (try simp only [List.map_toArray, List.map_cons, List.map_nil]); first | done | rfl | (simp only [List.length_drop, List.length_take]; rfl)) ?_; (with_reducible refine (masterdiscref01_Bytes.calls k a0 2 t158 _ A5.out).mono ?_); rintro e w18 ⟨rfl, hb⟩; refine ⟨_, rfl, ?_⟩; have n0_ := Aside0.mk (below_step (by repeat (first | (with_reducible first | exact HB.out | apply below_alloc | apply pw_below_drewN | apply below_drew1) | exact HB.out)) hb); clear HB; have HB := n0_; clear n0_; (try clear hb); (try clear hb2); (try clear hk); (try clear hi)) | ((with_reducible refine gate_callee (f := 30) rfl ?_); refine goesL_ (some 14) rfl rfl Tryz.func30 (by kernel_rfl) rfl #[.int .i64 a1, .int .i64 2] rfl (by (try simp only [List.map_toArray, List.map_cons, List.map_nil]); first | done | rfl | (simp only [List.length_drop, List.length_take]; rfl)) ?_; (with_reducible refine (masterdiscref01_Bytes.calls k a1 2 t159 _ A7.out).mono ?_); rintro e w19 ⟨rfl, hb⟩; refine ⟨_, rfl, ?_⟩; have n0_ := Aside0.mk (below_step (by repeat (first | (with_reducible first | exact HB.out | apply below_alloc | apply pw_below_drewN | apply below_drew1) | exact HB.out)) hb); clear HB; have HB := n0_; clear n0_; (try clear hb); (try clear hb2); (try clear hk); (try clear hi)) | ((with_reducible refine gate_callee (f := 73) rfl ?_); refine goesL_ (some 18) rfl rfl Tryz.func73 (by kernel_rfl) rfl #[.string a3] rfl (by (try simp only [List.map_toArray, List.map_cons, List.map_nil]); first | done | rfl | (simp only [List.length_drop, List.length_take]; rfl)) ?_; (with_reducible refine (masterdiscref02_CRC16.calls k a3 t160 _ A9.out).mono ?_); rintro e w' ⟨rfl, ⟨nd, rfl⟩⟩; refine ⟨_, rfl, ?_⟩) | ((with_reducible refine gate_callee (f := 30) rfl ?_); refine goesL_ (some 20) rfl rfl Tryz.func30 (by kernel_rfl) rfl #[.int .i64 (wrap64 (t160)), .int .i64 2] rfl (by (try simp only [List.map_toArray, List.map_cons, List.map_nil]); first | done | rfl | (simp only [List.length_drop, List.length_take]; rfl)) ?_; (with_reducible refine (masterdiscref01_Bytes.calls k (wrap64 (t160)) 2 t161 _ A10.out).mono ?_); rintro e w20 ⟨rfl, hb⟩; refine ⟨_, rfl, ?_⟩; have n0_ := Aside0.mk (below_step (by repeat (first | (with_reducible first | exact HB.out | apply below_alloc | apply pw_below_drewN | apply below_drew1) | exact HB.out)) hb); clear HB; have HB := n0_; clear n0_; (try clear hb); (try clear hb2); (try clear hk); (try clear hi)) | ((with_reducible refine gate_callee (f := 30) rfl ?_); refine goesL_ (some 24) rfl rfl Tryz.func30 (by kernel_rfl) rfl #[.int .i64 (a3.size : Int), .int .i64 2] rfl (by (try simp only [List.map_toArray, List.map_cons, List.map_nil]); first | done | rfl | (simp only [List.length_drop, List.length_take]; rfl)) ?_; (with_reducible refine (masterdiscref01_Bytes.calls k (a3.size : Int) 2 t162 _ A12.out).mono ?_); rintro e w21 ⟨rfl, hb⟩; refine ⟨_, rfl, ?_⟩; have n0_ := Aside0.mk (below_step (by repeat (first | (with_reducible first | exact HB.out | apply below_alloc | apply pw_below_drewN | apply below_drew1) | exact HB.out)) hb); clear HB; have HB := n0_; clear n0_; (try clear hb); (try clear hb2); (try clear hk); (try clear hi)) | ((with_reducible refine gate_callee (f := 30) rfl ?_); refine goesL_ (some 27) rfl rfl Tryz.func30 (by kernel_rfl) rfl #[.int .i64 a2, .int .i64 4] rfl (by (try simp only [List.map_toArray, List.map_cons, List.map_nil]); first | done | rfl | (simp only [List.length_drop, List.length_take]; rfl)) ?_; (with_reducible refine (masterdiscref01_Bytes.calls k a2 4 t163 _ A14.out).mono ?_); rintro e w22 ⟨rfl, hb⟩; refine ⟨_, rfl, ?_⟩; have n0_ := Aside0.mk (below_step (by repeat (first | (with_reducible first | exact HB.out | apply below_alloc | apply pw_below_drewN | apply below_drew1) | exact HB.out)) hb); clear HB; have HB := n0_; clear n0_; (try clear hb); (try clear hb2); (try clear hk); (try clear hi)) | ((with_reducible refine gate_callee (f := 74) rfl ?_); refine goesL_ (some 30) rfl rfl Tryz.func74 (by kernel_rfl) rfl #[.string (((((t158 ++ (⟨#[3, 0, 0, 0]⟩ : ByteArray)) ++ t159) ++ t161) ++ t162) ++ t163)] rfl (by (try simp only [List.map_toArray, List.map_cons, List.map_nil]); first | done | rfl | (simp only [List.length_drop, List.length_take]; rfl)) ?_; (with_reducible refine (masterdiscref31_summed.calls k (((((t158 ++ (⟨#[3, 0, 0, 0]⟩ : ByteArray)) ++ t159) ++ t161) ++ t162) ++ t163) t164 _ A16.out).mono ?_); rintro e w23 ⟨rfl, hb⟩; refine ⟨_, rfl, ?_⟩; have n0_ := Aside0.mk (below_step (by repeat (first | (with_reducible first | exact HB.out | apply below_alloc | apply pw_below_drewN | apply below_drew1) | exact HB.out)) hb); clear HB; have HB := n0_; clear n0_; (try clear hb); (try clear hb2); (try clear hk); (try clear hi)))
              go_ret
              exact ⟨by first | rfl | (simp [errW_none, errW_some] <;> rfl) | (simp [*, errW_none, errW_some] <;> rfl), by repeat (first | (with_reducible first | exact HB.out | apply below_alloc | apply pw_below_drewN | apply below_drew1) | exact HB.out)⟩
            · rw [if_neg c17] at H
              exact absurd H (by simp)
          · rw [if_neg c15] at H
            exact absurd H (by simp)
        · rw [if_neg c13] at H
          exact absurd H (by simp)
      · rw [if_neg c11] at H
        exact absurd H (by simp)
    · rw [if_neg c8] at H
      exact absurd H (by simp)
  · rw [if_neg c6] at H
    exact absurd H (by simp)

/-! ### masterdiscref31_Block: function 31 -/
def masterdiscref31_Block.f (k : Nat) (a0 : Int) (a1 : Int) (a2 : Int) (a3 : ByteArray) : Option (ByteArray × Int) := (masterdiscref31_ranged.f a0 a1 a2).bind fun t165 => (if t165 = true then (if (a3.size : Int) > 2032 then (some ((⟨#[]⟩ : ByteArray), 7)) else ((masterdiscref31_Make.f k a0 a1 a2 a3).bind fun t166 => ((masterdiscref31_Pad.f k t166 2048).bind fun t167 => (some (t167, 0))))) else (some ((⟨#[]⟩ : ByteArray), 2)))
set_option maxHeartbeats 8000000 in
set_option maxRecDepth 100000 in
theorem masterdiscref31_Block.calls (k : Nat) (a0 : Int) (a1 : Int) (a2 : Int) (a3 : ByteArray) (r1 : ByteArray) (r2 : Int) (w : World) (h : masterdiscref31_Block.f k a0 a1 a2 a3 = some (r1, r2)) :
    Calls Tryz.prog 31 #[.int .i64 a0, .int .i64 a1, .int .i64 a2, .string a3] w fun e w' => e = .returned (.tuple #[.string r1, .int .i64 r2]) ∧ Below w.heap.size w w' := by
  have HB := Aside0.mk (Below.refl w.heap.size w)
  have H : ((masterdiscref31_ranged.f a0 a1 a2).bind fun t165 => (if t165 = true then (if (a3.size : Int) > 2032 then (some ((⟨#[]⟩ : ByteArray), 7)) else ((masterdiscref31_Make.f k a0 a1 a2 a3).bind fun t166 => ((masterdiscref31_Pad.f k t166 2048).bind fun t167 => (some (t167, 0))))) else (some ((⟨#[]⟩ : ByteArray), 2)))) = some (r1, r2) := h
  clear h
  replace H := Option.bind_eq_some_iff.mp H
  obtain ⟨t165, A50, H⟩ := H
  replace H : (if t165 = true then (if (a3.size : Int) > 2032 then (some ((⟨#[]⟩ : ByteArray), 7)) else ((masterdiscref31_Make.f k a0 a1 a2 a3).bind fun t166 => ((masterdiscref31_Pad.f k t166 2048).bind fun t167 => (some (t167, 0))))) else (some ((⟨#[]⟩ : ByteArray), 2))) = some (r1, r2) := H
  have A5 := Aside0.mk A50
  clear A50
  by_cases c6 : t165 = true
  · subst c6
    have H1 : (if (a3.size : Int) > 2032 then (some ((⟨#[]⟩ : ByteArray), 7)) else ((masterdiscref31_Make.f k a0 a1 a2 a3).bind fun t166 => ((masterdiscref31_Pad.f k t166 2048).bind fun t167 => (some (t167, 0))))) = some (r1, r2) := by rw [if_pos rfl] at H; exact H
    clear H
    have H := H1
    clear H1
    by_cases c7 : (a3.size : Int) > 2032
    · rw [if_pos c7] at H
      have c7b0 : decide (2032 < (a3.size : Int)) = true := decide_eq_true c7
      have c7b1 : decide (2032 < a3.size) = true := decide_eq_true (by omega)
      clear c7
      simp only [Option.some.injEq, Prod.mk.injEq] at H
      obtain ⟨rfl, rfl⟩ := H
      go_enter Tryz.func31, Tryz.ntmps31
      go_wp2_with (first | ((with_reducible refine gate_callee (f := 49) rfl ?_); refine goesL_ (some 13) rfl rfl Tryz.func49 (by kernel_rfl) rfl #[.int .i64 a0, .int .i64 a1, .int .i64 a2] rfl (by (try simp only [List.map_toArray, List.map_cons, List.map_nil]); first | done | rfl | (simp only [List.length_drop, List.length_take]; rfl)) ?_; (with_reducible refine (masterdiscref31_ranged.calls a0 a1 a2 true _ A5.out).mono ?_); rintro e w' ⟨rfl, ⟨nd, rfl⟩⟩; refine ⟨_, rfl, ?_⟩))
      go_ret2
      exact ⟨by first | rfl | (simp [errW_none, errW_some] <;> rfl) | (simp [*, errW_none, errW_some] <;> rfl), by repeat (first | (with_reducible first | exact HB.out | apply below_alloc | apply pw_below_drewN | apply below_drew1) | exact HB.out)⟩
    · rw [if_neg c7] at H
      have c7b0 : decide (2032 < (a3.size : Int)) = false := decide_eq_false c7
      have c7b1 : decide (2032 < a3.size) = false := decide_eq_false (by omega)
      clear c7
      replace H := Option.bind_eq_some_iff.mp H
      obtain ⟨t166, A80, H⟩ := H
      replace H : ((masterdiscref31_Pad.f k t166 2048).bind fun t167 => (some (t167, 0))) = some (r1, r2) := H
      have A8 := Aside0.mk A80
      clear A80
      replace H := Option.bind_eq_some_iff.mp H
      obtain ⟨t167, A90, H⟩ := H
      replace H : (some (t167, 0)) = some (r1, r2) := H
      have A9 := Aside0.mk A90
      clear A90
      simp only [Option.some.injEq, Prod.mk.injEq] at H
      obtain ⟨rfl, rfl⟩ := H
      go_enter Tryz.func31, Tryz.ntmps31
      go_wp2_with (first | ((with_reducible refine gate_callee (f := 49) rfl ?_); refine goesL_ (some 13) rfl rfl Tryz.func49 (by kernel_rfl) rfl #[.int .i64 a0, .int .i64 a1, .int .i64 a2] rfl (by (try simp only [List.map_toArray, List.map_cons, List.map_nil]); first | done | rfl | (simp only [List.length_drop, List.length_take]; rfl)) ?_; (with_reducible refine (masterdiscref31_ranged.calls a0 a1 a2 true _ A5.out).mono ?_); rintro e w' ⟨rfl, ⟨nd, rfl⟩⟩; refine ⟨_, rfl, ?_⟩) | ((with_reducible refine gate_callee (f := 51) rfl ?_); refine goesL_ (some 22) rfl rfl Tryz.func51 (by kernel_rfl) rfl #[.int .i64 a0, .int .i64 a1, .int .i64 a2, .string a3] rfl (by (try simp only [List.map_toArray, List.map_cons, List.map_nil]); first | done | rfl | (simp only [List.length_drop, List.length_take]; rfl)) ?_; (with_reducible refine (masterdiscref31_Make.calls k a0 a1 a2 a3 t166 _ A8.out).mono ?_); rintro e w10 ⟨rfl, hb⟩; refine ⟨_, rfl, ?_⟩; have n0_ := Aside0.mk (below_step (by repeat (first | (with_reducible first | exact HB.out | apply below_alloc | apply pw_below_drewN | apply below_drew1) | exact HB.out)) hb); clear HB; have HB := n0_; clear n0_; (try clear hb); (try clear hb2); (try clear hk); (try clear hi)) | ((with_reducible refine gate_callee (f := 50) rfl ?_); refine goesL_ (some 23) rfl rfl Tryz.func50 (by kernel_rfl) rfl #[.string t166, .int .i64 2048] rfl (by (try simp only [List.map_toArray, List.map_cons, List.map_nil]); first | done | rfl | (simp only [List.length_drop, List.length_take]; rfl)) ?_; (with_reducible refine (masterdiscref31_Pad.calls k t166 2048 t167 _ A9.out).mono ?_); rintro e w11 ⟨rfl, hb⟩; refine ⟨_, rfl, ?_⟩; have n0_ := Aside0.mk (below_step (by repeat (first | (with_reducible first | exact HB.out | apply below_alloc | apply pw_below_drewN | apply below_drew1) | exact HB.out)) hb); clear HB; have HB := n0_; clear n0_; (try clear hb); (try clear hb2); (try clear hk); (try clear hi)))
      go_ret2
      exact ⟨by first | rfl | (simp [errW_none, errW_some] <;> rfl) | (simp [*, errW_none, errW_some] <;> rfl), by repeat (first | (with_reducible first | exact HB.out | apply below_alloc | apply pw_below_drewN | apply below_drew1) | exact HB.out)⟩
  · replace c6 := Bool.eq_false_iff.mpr c6
    subst c6
    have H1 : (some ((⟨#[]⟩ : ByteArray), 2)) = some (r1, r2) := by rw [if_neg (show ¬ (false = true) by decide)] at H; exact H
    clear H
    have H := H1
    clear H1
    simp only [Option.some.injEq, Prod.mk.injEq] at H
    obtain ⟨rfl, rfl⟩ := H
    go_enter Tryz.func31, Tryz.ntmps31
    go_wp2_with (first | ((with_reducible refine gate_callee (f := 49) rfl ?_); refine goesL_ (some 13) rfl rfl Tryz.func49 (by kernel_rfl) rfl #[.int .i64 a0, .int .i64 a1, .int .i64 a2] rfl (by (try simp only [List.map_toArray, List.map_cons, List.map_nil]); first | done | rfl | (simp only [List.length_drop, List.length_take]; rfl)) ?_; (with_reducible refine (masterdiscref31_ranged.calls a0 a1 a2 false _ A5.out).mono ?_); rintro e w' ⟨rfl, ⟨nd, rfl⟩⟩; refine ⟨_, rfl, ?_⟩))
    go_ret2
    exact ⟨by first | rfl | (simp [errW_none, errW_some] <;> rfl) | (simp [*, errW_none, errW_some] <;> rfl), by repeat (first | (with_reducible first | exact HB.out | apply below_alloc | apply pw_below_drewN | apply below_drew1) | exact HB.out)⟩

end Go.Proofs.YtdepicgdbealpaaGreat.V
