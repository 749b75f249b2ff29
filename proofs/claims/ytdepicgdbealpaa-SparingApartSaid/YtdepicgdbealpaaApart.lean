/- The law SparingApart returns true. -/
import Derived.Test.YtdepicgdbealpaaAwake
import Derived.Test.YtdepicgdbealpaaPlainB
import Derived.StillTailTactics
import Derived.Deep.CutBlock
namespace Go.Proofs.Ytdepicgdbealpaa.Spare
open Go.RowKit Go.Lib Go.Proofs.YtdepicgdbealpaaW.PrintWords Go.Proofs.YtdepicgdbealpaaW.PrintLast Go.Proofs.YtdepicgdbealpaaW.PrintMore
open Go.Proofs.Ytdepicgdbealpaa.V
open Go.Proofs.Ytdepicgdbealpaa

def ap_T11 : Bool × List (List Nat × List Nat) := (true, [([], []), ([], []), ([1], [1]), ([], []), ([3], [3]), ([2, 4], [2, 4]), ([0, 5], [0, 5]), ([6], [6]), ([7], [7]), ([7], [7]), ([7], [7]), ([], []), ([11, 8, 6, 0, 1, 2, 3, 4, 5, 6, 7, 8, 11], [8, 11]), ([9, 12, 0, 1, 2, 3, 4, 5, 6, 7, 8, 9, 11, 12], [9]), ([10, 13, 0, 1, 2, 3, 4, 5, 6, 7, 8, 9, 10, 11, 12, 13], [10])])
def ap_B11 : List Nat := [0, 0, 2, 0, 8, 30, 63, 127, 255, 255, 255, 0, 2559, 7167, 16383]
theorem ap_tab11 : rtab .any (opsOf Try.f3 11) = ap_T11 := by kernel_rfl
theorem ap_bits11 : waitsOk ap_T11.2 ap_B11 = true := by kernel_rfl
set_option maxHeartbeats 8000000 in
set_option maxRecDepth 100000 in
theorem apart_calls (a0_0 a0_1 a1_0 a1_1 : Int) (A : Option Addr) (c : Nat) (l2 : List Int) (a b : Int) (w : World) (hr : ReadsInt w .u16 A l2.length l2) (hc : l2.length ≤ c)
    (hk : ∀ x ∈ l2, 0 ≤ x ∧ x < 65536) (ha : 0 ≤ a ∧ a < 65536) (hb : 0 ≤ b ∧ b < 65536) :
    Calls Try.prog 3 #[.agg #[.int .i64 a0_0, .int .i64 a0_1], .agg #[.int .i64 a1_0, .int .i64 a1_1], .slice A l2.length c, .int .u16 a, .int .u16 b] w fun e w' => e = .returned (.bool true) ∧ Below w.heap.size w w' := by
  have hu42 := Try.underlying42
  have hu29 := Try.underlying29
  have hu27 := Try.underlying27
  have hu23 := Try.underlying23
  have hn : l2.length ≤ 9223372036854775807 := hr.2.1
  have HR := Aside0.mk hr
  have HK := Aside0.mk hk
  clear hr hk
  go_enter Try.func3, Try.ntmps3
  go_wp2_with fail
  refine (awake_calls _).mono ?_
  rintro e w1 ⟨rfl, hb1⟩
  have hb0 := blk_below (blk_alloc (heap_alloc_new w (.cells #[.int .i64 a0_0, .int .i64 a0_1] 23)) (.cells #[.int .i64 a1_0, .int .i64 a1_1] 23)) hb1
  have hb2 : w1.heap[w.heap.size + 1]? = some (.cells #[.int .i64 a1_0, .int .i64 a1_1] 23 (0, 0)) := by
    have := blk_below (heap_alloc_new (w.alloc (.cells #[.int .i64 a0_0, .int .i64 a0_1] 23)) (.cells #[.int .i64 a1_0, .int .i64 a1_1] 23)) hb1
    simpa using this
  have HB : Aside0 (Below w.heap.size w w1) := ⟨below_step (below_alloc (below_alloc (Below.refl _ w) _) _) hb1⟩
  have p0 : w1.cell? ⟨w.heap.size, 0, none⟩ = some (.int .i64 a0_0) := (blk_cell hb0 0).trans rfl
  have p1 : w1.cell? ⟨w.heap.size, 1, none⟩ = some (.int .i64 a0_1) := (blk_cell hb0 1).trans rfl
  have s0 : w1.cell? ⟨w.heap.size + 1, 0, none⟩ = some (.int .i64 a1_0) := (blk_cell hb2 0).trans rfl
  have s1 : w1.cell? ⟨w.heap.size + 1, 1, none⟩ = some (.int .i64 a1_1) := (blk_cell hb2 1).trans rfl
  have HP := Aside0.mk hb0
  have HS := Aside0.mk hb2
  clear hb1 hb0 hb2
  -- the guards
  by_cases g1 : a0_0 < 0
  · have g1d : decide (a0_0 < 0) = true := decide_eq_true g1
    go_wp2
    go_ret
    exact ⟨rfl, HB.out⟩
  have g1d : decide (a0_0 < 0) = false := decide_eq_false g1
  by_cases g2 : a0_0 > 4096
  · have g2d : decide (a0_0 > 4096) = true := decide_eq_true g2
    go_wp2
    go_ret
    exact ⟨rfl, HB.out⟩
  have g2d : decide (a0_0 > 4096) = false := decide_eq_false g2
  by_cases g3 : a0_1 < 1
  · have g3d : decide (a0_1 < 1) = true := decide_eq_true g3
    go_wp2
    go_ret
    exact ⟨rfl, HB.out⟩
  have g3d : decide (a0_1 < 1) = false := decide_eq_false g3
  by_cases g4 : a0_1 > 4096
  · have g4d : decide (a0_1 > 4096) = true := decide_eq_true g4
    go_wp2
    go_ret
    exact ⟨rfl, HB.out⟩
  have g4d : decide (a0_1 > 4096) = false := decide_eq_false g4
  by_cases g5 : (l2.length : Int) > 20
  · have g5d : decide ((l2.length : Int) > 20) = true := decide_eq_true g5
    go_wp2
    go_ret
    exact ⟨rfl, HB.out⟩
  have g5d : decide ((l2.length : Int) > 20) = false := decide_eq_false g5
  have HG := Aside0.mk (And.intro g1 (And.intro g2 (And.intro g3 (And.intro g4 g5))))
  clear g1 g2 g3 g4 g5
  go_wp2_with fail
  obtain ⟨r1, r2, r3, hN⟩ : ∃ r1 r2 r3, newF a1_0 a1_1 = (r1, r2, r3) := ⟨_, _, _, rfl⟩
  refine (Ext.New.calls a1_0 a1_1 r1 r2 r3 _ (congrArg some hN)).mono ?_
  rintro e w2 ⟨v1, rfl, hR1, hb2⟩
  obtain ⟨a1, c1, rfl, hc1, hC1⟩ := Kd.R_reads hR1
  have HP2 := Aside0.mk (blk_alloc (blk_below HP.out hb2) (.cells #[.int .i64 r1, .slice a1 r2.length c1] 29))
  have HS2 := Aside0.mk (blk_alloc (blk_below HS.out hb2) (.cells #[.int .i64 r1, .slice a1 r2.length c1] 29))
  have HB2 : Aside0 (Below w.heap.size w (w2.alloc (.cells #[.int .i64 r1, .slice a1 r2.length c1] 29))) := ⟨below_alloc (below_step HB.out hb2) _⟩
  have HT2 := Aside0.mk (heap_alloc_new w2 (.cells #[.int .i64 r1, .slice a1 r2.length c1] 29))
  have HC2 := Aside0.mk (Kd.C_alloc hC1 (.cells #[.int .i64 r1, .slice a1 r2.length c1] 29))
  have HL2 : Aside0 (w.heap.size + 2 ≤ w2.heap.size) := ⟨by have := blk_lt (blk_below HS.out hb2); omega⟩
  have HN := Aside0.mk hN
  have HVV : Aside0 (Kd.R k42 42 (w2.alloc (.cells #[.int .i64 r1, .slice a1 r2.length c1] 29)) w.heap.size (fun _ => True) (.slice a1 r2.length c1) r2) := ⟨Kd.R_lower (Kd.R_below hR1 (below_alloc (Below.refl _ w2) _)) HB.out.size⟩
  clear hR1 hb2 hC1 p0 p1 s0 s1 HP HS HB hN
  have p0 : (w2.alloc (.cells #[.int .i64 r1, .slice a1 r2.length c1] 29)).cell? ⟨w.heap.size, 0, none⟩ = some (.int .i64 a0_0) := (blk_cell HP2.out 0).trans rfl
  have p1 : (w2.alloc (.cells #[.int .i64 r1, .slice a1 r2.length c1] 29)).cell? ⟨w.heap.size, 1, none⟩ = some (.int .i64 a0_1) := (blk_cell HP2.out 1).trans rfl
  have s0 : (w2.alloc (.cells #[.int .i64 r1, .slice a1 r2.length c1] 29)).cell? ⟨w.heap.size + 1, 0, none⟩ = some (.int .i64 a1_0) := (blk_cell HS2.out 0).trans rfl
  have s1 : (w2.alloc (.cells #[.int .i64 r1, .slice a1 r2.length c1] 29)).cell? ⟨w.heap.size + 1, 1, none⟩ = some (.int .i64 a1_1) := (blk_cell HS2.out 1).trans rfl
  cases g6 : (r3 != 0) with
  | true =>
    go_wp2
    go_ret
    exact ⟨rfl, HB2.out⟩
  | false =>
    have g6' : r3 = 0 := by simpa using g6
    obtain ⟨n1, n2, n3, n4, n5, n6⟩ := inv_new HN.out g6'
    subst g6'
    obtain ⟨g1, g2, g3, g4, g5⟩ := HG.out
    have q1 : wrap64 (a0_0 + a0_1) = a0_0 + a0_1 := w64 _ (by omega)
    have q2 : wrap64 (a1_0 + a1_1) = a1_0 + a1_1 := w64 _ (by omega)
    have HI : Aside0 (Inv a1_0 a1_1 r1 r2) := ⟨n2⟩
    have HM : Aside0 (r1 = 1) := ⟨n1⟩
    have HX := Aside0.mk (And.intro n3 (And.intro n4 (And.intro n5 n6)))
    clear n1 n2 n3 n4 n5 n6 g1 g2 g3 g4 g5
    have HV2 : Aside0 (Kd.R k42 42 (w2.alloc (.cells #[.int .i64 r1, .slice a1 r2.length c1] 29)) w.heap.size (fun _ => True) (.slice a1 r2.length c1) r2) := HVV
    have HRK : Aside0 (ReadsInt (w2.alloc (.cells #[.int .i64 r1, .slice a1 r2.length c1] 29)) .u16 A l2.length l2) := ⟨HR.out.below HB2.out⟩
    have GE101 : Aside0 (w.heap.size ≤ w.heap.size) := ⟨Nat.le_refl _⟩
    have GE102 : Aside0 (w.heap.size ≤ w.heap.size + 1) := ⟨Nat.le_succ _⟩
    have GE109 : Aside0 (w.heap.size ≤ w2.heap.size) := ⟨by have := HL2.out; omega⟩
    clear HVV HC2
    go_upto_region 6 with fail
    generalize w2.alloc (.cells #[.int .i64 r1, .slice a1 r2.length c1] 29) = w3 at p0 p1 s0 s1 HP2 HS2 HB2 HT2 HRK HV2 ⊢
    generalize w2.heap.size = gb109 at HT2 HL2 GE109 ⊢
    go_cut [74] from 24 (fun s wx => s = .bool (decide (a1_0 < a0_0 + a0_1) && decide (a0_0 < a1_0 + a1_1)) ∧ wx = w3)
    case first =>
      have hcase : (decide (a1_0 < a0_0 + a0_1) = true ∧ decide (a0_0 < a1_0 + a1_1) = true) ∨ (decide (a1_0 < a0_0 + a0_1) = true ∧ decide (a0_0 < a1_0 + a1_1) = false) ∨ decide (a1_0 < a0_0 + a0_1) = false := by
        cases decide (a1_0 < a0_0 + a0_1) <;> cases decide (a0_0 < a1_0 + a1_1) <;> simp
      rcases hcase with ⟨g7, g8⟩ | ⟨g7, g8⟩ | g7
      all_goals
        go_wp2_with fail
        go_meet
        case rel => simp [*]
    case rest =>
    obtain ⟨hs74, rfl⟩ := hcut
    subst hs74
    cases hov : (decide (a1_0 < a0_0 + a0_1) && decide (a0_0 < a1_0 + a1_1)) with
    | true =>
      go_wp2
      go_ret
      exact ⟨rfl, HB2.out⟩
    | false =>
    have HD : Aside0 (¬ (a1_0 < a0_0 + a0_1 ∧ a0_0 < a1_0 + a1_1)) := ⟨by simpa using hov⟩
    go_upto_block 0 with fail
    go_cut [] from 24 (fun wx => ∃ (x110000_3 : Int) (x110001_3 : List S42) (v : Value), Aside0 (wx.heap[gb109]? = some (.cells #[.int .i64 x110000_3, v] 29 (0, 0))) ∧
      Aside0 (Kd.R k42 42 wx w.heap.size (fun _ => True) v x110001_3) ∧ Aside0 (Inv a1_0 a1_1 x110000_3 x110001_3) ∧ Aside0 (wx.heap[w.heap.size]? = some (.cells #[.int .i64 a0_0, .int .i64 a0_1] 23 (0, 0))) ∧
        Aside0 (wx.heap[w.heap.size + 1]? = some (.cells #[.int .i64 a1_0, .int .i64 a1_1] 23 (0, 0))) ∧ Aside0 (Below w.heap.size w wx))
    case first =>
      go_wp2_with fail
      go_loopg [77] l2.length (fun gg s77 wr => ∃ (x77_3 x110000_3 : Int) (x110001_3 : List S42) (v : Value), s77 = .int .i64 x77_3 ∧ Aside0 (0 ≤ x77_3 ∧ x77_3 ≤ l2.length ∧ (l2.length - x77_3).toNat ≤ gg) ∧ Aside0 (wr.heap[gb109]? = some (.cells #[.int .i64 x110000_3, v] 29 (0, 0))) ∧
        Aside0 (Kd.R k42 42 wr w.heap.size (fun _ => True) v x110001_3) ∧ Aside0 (Inv a1_0 a1_1 x110000_3 x110001_3) ∧ Aside0 (x110000_3 ≤ 1 + x77_3) ∧ Aside0 (wr.heap[w.heap.size]? = some (.cells #[.int .i64 a0_0, .int .i64 a0_1] 23 (0, 0))) ∧
        Aside0 (wr.heap[w.heap.size + 1]? = some (.cells #[.int .i64 a1_0, .int .i64 a1_1] 23 (0, 0))) ∧ Aside0 (Below w.heap.size w wr))
      case atStart => exact ⟨0, r1, r2, _, rfl, ⟨by omega, by omega, by omega⟩, HT2, HV2, HI, ⟨by have := HM.out; omega⟩, HP2, HS2, HB2⟩
      case round =>
        clear HT2 HV2 HP2 HS2 HB2 HRK HI HM p0 p1 s0 s1
        obtain ⟨x77_3, x110000_3, x110001_3, v, rfl, HZ, BK109, HO_110001, HI, HM, BK101, BK102, HB⟩ := hrel
        by_cases hlt : x77_3 < (l2.length : Int)
        · have hlt0 : decide (x77_3 < (l2.length : Int)) = true := decide_eq_true hlt
          obtain ⟨ad, hA, hx⟩ := (HR.out.below HB.out).at_ x77_3 (by have := HZ.out; omega) hlt
          have hx0 : (0 : Int) ≤ x77_3 := by have := HZ.out; omega
          have hxm : rd l2 x77_3 ∈ l2 := by
            unfold rd
            rw [List.getD_eq_getElem?_getD, List.getElem?_eq_getElem (show x77_3.toNat < l2.length by omega)]
            exact List.getElem_mem _
          have hx2 := HK.out _ hxm
          subst hA
          obtain ⟨g1, g2, g3, g4, g5⟩ := HG.out
          have hpz : (a0_1 == 0) = false := by simp; omega
          have hpz' : a0_1 ≠ 0 := by omega
          have hcv : wrap64 (rd l2 x77_3) = rd l2 x77_3 := w64 _ (by omega)
          have hm0 : 0 ≤ Int.tmod (wrap64 (rd l2 x77_3)) a0_1 := by rw [hcv]; exact Int.tmod_nonneg _ hx2.1
          have hm1 : Int.tmod (wrap64 (rd l2 x77_3)) a0_1 < a0_1 := by rw [hcv]; exact Int.tmod_lt_of_pos _ (by omega)
          have HMM := Aside0.mk (And.intro hm0 (And.intro hm1 (And.intro g3 g4)))
          clear hm0 hm1 g1 g2 g3 g4 g5 hxm hcv hx2
          obtain ⟨t115, t116, t119, t120, hrep⟩ : ∃ t115 t116 t119 t120, replaceF x110000_3 x110001_3 (Int.tmod (wrap64 (rd l2 x77_3)) a0_1) = (t115, t116, t119, t120) := ⟨_, _, _, _, rfl⟩
          have A54 : Aside0 (Ext.Replace.f x110000_3 x110001_3 (Int.tmod (wrap64 (rd l2 x77_3)) a0_1) = some (t115, t116, t119, t120)) := ⟨congrArg some hrep⟩
          have HRP := Aside0.mk hrep
          clear hrep
          obtain ⟨Ao63, co63, eo63⟩ := Kd.R_slice HO_110001.out
          subst eo63
          try go_wp2
          have n0_ := Aside0.mk (Kd.R_drew HO_110001.out)
          have n1_ := Aside0.mk (blk_drew BK101.out)
          have n2_ := Aside0.mk (blk_drew BK102.out)
          have n3_ := Aside0.mk (blk_drew BK109.out)
          have n4_ := Aside0.mk (below_drew1 HB.out)
          clear HO_110001
          clear BK101
          clear BK102
          clear BK109
          clear HB
          have HO_110001 := n0_
          have BK101 := n1_
          have BK102 := n2_
          have BK109 := n3_
          have HB := n4_
          clear n0_ n1_ n2_ n3_ n4_
          refine start_ (n := 15) (S := fun w' => w'.cell? ⟨gb109, 0, none⟩ = some (.int .i64 x110000_3) ∧ w'.cell? ⟨gb109, 1, none⟩ = some (.slice Ao63 x110001_3.length co63) ∧ w'.cell? ⟨w.heap.size, 0, none⟩ = some (.int .i64 a0_0) ∧ w'.cell? ⟨w.heap.size, 1, none⟩ = some (.int .i64 a0_1)) (ds := []) #[false, false, false, false, false, false, false, false, false, false, false, false, false, false, false] (by kernel_rfl) rfl rfl ⟨(blk_cell BK109.out 0).trans rfl, (blk_cell BK109.out 1).trans rfl, (blk_cell BK101.out 0).trans rfl, (blk_cell BK101.out 1).trans rfl⟩ (fun hHeld => ?_); refine with_tabW ap_tab11 ap_bits11 (fun HT_ HW_ => ?_)
          generalize wr.drew = w64 at HO_110001 BK101 BK102 BK109 HB hHeld ⊢
          refine pure_ (i := 1) (N := some 83) (v := ?_) (a' := ?_) #[false, true, false, false, false, false, false, false, false, false, false, false, false, false, false] rfl rfl (any_of HT_.out (by kernel_rfl)) (fun _ _ _ h => h) (Or.inl ⟨by rfl, ?_⟩) ?_ ?_
          rotate_left
          · intro w'
            go_simp
            with_reducible rfl
          rotate_left
          · simp only [Act.put, List.setIfInBounds_toArray, List.set_cons_zero, List.set_cons_succ, i64_w, i32_w]
            rfl
          refine pure_ (i := 2) (N := some 84) (v := ?_) (a' := ?_) #[false, true, true, false, false, false, false, false, false, false, false, false, false, false, false] rfl rfl (any_of HT_.out (by kernel_rfl)) (fun _ _ _ h => h) (Or.inl ⟨by rfl, ?_⟩) ?_ ?_
          rotate_left
          · intro w'
            go_simp
            with_reducible rfl
          rotate_left
          · simp only [Act.put, List.setIfInBounds_toArray, List.set_cons_zero, List.set_cons_succ, i64_w, i32_w]
            rfl
          refine pure_ (i := 3) (N := some 85) (v := ?_) (a' := ?_) #[false, true, true, true, false, false, false, false, false, false, false, false, false, false, false] rfl rfl (any_of HT_.out (by kernel_rfl)) (fun _ _ _ h => h) (Or.inl ⟨by rfl, ?_⟩) ?_ ?_
          rotate_left
          · intro w'
            go_simp
            with_reducible rfl
          rotate_left
          · simp only [Act.put, List.setIfInBounds_toArray, List.set_cons_zero, List.set_cons_succ, i64_w, i32_w]
            rfl
          refine take_ (i := 0) (N := some 82) (v := ?_) (a' := ?_) #[true, true, true, true, false, false, false, false, false, false, false, false, false, false, false] rfl rfl (take_ofW HT_.out HW_.out (by kernel_rfl)) (fun _ _ _ h => h) (Or.inl ⟨by rfl, ?_⟩) hHeld ?_ ?_
          rotate_left
          · rintro w' ⟨s0, s1, s2, s3⟩
            go_simp
            with_reducible rfl
          rotate_left
          · simp only [Act.put, List.setIfInBounds_toArray, List.set_cons_zero, List.set_cons_succ, i64_w, i32_w]
            rfl
          refine take_ (i := 4) (N := some 86) (v := ?_) (a' := ?_) #[true, true, true, true, true, false, false, false, false, false, false, false, false, false, false] rfl rfl (take_ofW HT_.out HW_.out (by kernel_rfl)) (fun _ _ _ h => h) (Or.inl ⟨by rfl, ?_⟩) hHeld ?_ ?_
          rotate_left
          · rintro w' ⟨s0, s1, s2, s3⟩
            go_simp
            with_reducible rfl
          rotate_left
          · simp only [Act.put, List.setIfInBounds_toArray, List.set_cons_zero, List.set_cons_succ, i64_w, i32_w]
            rfl
          refine pure_ (i := 5) (N := some 87) (v := ?_) (a' := ?_) #[true, true, true, true, true, true, false, false, false, false, false, false, false, false, false] rfl rfl (any_of HT_.out (by kernel_rfl)) (fun _ _ _ h => h) (Or.inl ⟨by rfl, ?_⟩) ?_ ?_
          rotate_left
          · intro w'
            go_simp
            with_reducible rfl
          rotate_left
          · simp only [Act.put, List.setIfInBounds_toArray, List.set_cons_zero, List.set_cons_succ, i64_w, i32_w]
            rfl
          refine join_ (σ := Value × Nat) 3 #[true, true, true, true, true, true, true, true, true, true, true, true, false, false, false] (fun s_ => [(88, .tuple #[.agg #[.int .i64 t115, s_.1], .int .i64 t119, .int .i64 t120]), (15, .pointer (some ⟨s_.2, 0, none⟩)), (81, .tuple #[.agg #[.int .i64 t115, s_.1], .int .i64 t119, .int .i64 t120]), (89, .agg #[.int .i64 t115, s_.1]), (90, .int .i64 t119), (91, .int .i64 t120)]) (fun s_ w' => (w'.cell? ⟨gb109, 0, none⟩ = some (.int .i64 x110000_3) ∧ w'.cell? ⟨gb109, 1, none⟩ = some (.slice Ao63 x110001_3.length co63) ∧ w'.cell? ⟨w.heap.size, 0, none⟩ = some (.int .i64 a0_0) ∧ w'.cell? ⟨w.heap.size, 1, none⟩ = some (.int .i64 a0_1)) ∧ (Kd.R k42 42 w' w.heap.size (fun k_ => some k_ ≠ (.slice Ao63 x110001_3.length co63 : Value).ownBlock) s_.1 t116) ∧ (Kd.R k42 42 w' w.heap.size (fun k_ => some k_ ≠ (s_.1 : Value).ownBlock) (.slice Ao63 x110001_3.length co63) x110001_3) ∧ (w'.heap[w.heap.size]? = some (.cells #[.int .i64 a0_0, .int .i64 a0_1] 23 (0, 0))) ∧ (w'.heap[(w.heap.size + 1)]? = some (.cells #[.int .i64 a1_0, .int .i64 a1_1] 23 (0, 0))) ∧ (w'.heap[gb109]? = some (.cells #[.int .i64 x110000_3, .slice Ao63 x110001_3.length co63] 29 (0, 0))) ∧ (w'.heap[s_.2]? = some (.cells #[.int .i64 0, .slice none 0 0] 29 (0, 0))) ∧ (w.heap.size ≤ s_.2) ∧ (w.heap.size ≤ s_.2) ∧ (w.heap.size ≠ s_.2) ∧ (s_.2 ≠ w.heap.size) ∧ ((w.heap.size + 1) ≠ s_.2) ∧ (s_.2 ≠ (w.heap.size + 1)) ∧ (gb109 ≠ s_.2) ∧ (s_.2 ≠ gb109) ∧ (Below w.heap.size w w')) ?_ ?_
          rotate_left
          · intro hCont
            refine two_ (i := 6) (j := 11) (Ni := some 88) (Nj := some 15) #[true, true, true, true, true, true, true, false, false, false, false, false, false, false, false] #[true, true, true, true, true, true, false, false, false, false, false, true, false, false, false] rfl rfl rfl rfl (two_of HT_.out (by kernel_rfl)) (by decide) (by decide) (fun K hK => ?_) (fun K hK => ?_)
            · skip
              refine goes_ Try.func7 (by kernel_rfl) rfl #[.agg #[.int .i64 x110000_3, .slice Ao63 x110001_3.length co63], .int .i64 (Int.tmod (wrap64 (rd l2 x77_3)) a0_1)] (by rfl) rfl rfl (by (try simp only [List.map_toArray, List.map_cons, List.map_nil]); first | done | rfl | (simp only [List.length_drop, List.length_take]; rfl)) ?_
              with_reducible refine (Ext.Replace.calls x110000_3 _ _ x110001_3 (Int.tmod (wrap64 (rd l2 x77_3)) a0_1) t115 t116 t119 t120 _ ?side1 ?side2 A54.out).mono ?_
              (case side1 => repeat (first | exact (Kd.R_reads' HO_110001.out).2.2 | (with_reducible refine Kd.C_alloc ?_ _) | (with_reducible refine Kd.C_drewN ?_ _) | (with_reducible refine Kd.C_drew ?_)))
              (case side2 => exact (Kd.R_reads' HO_110001.out).2.1)
              rintro e w65 ⟨v117, rfl, ho0, hb⟩
              refine ⟨_, rfl, ?_⟩
              have n0_ := Aside0.mk (Kd.R_elder' (by (with_reducible repeat (first | apply Kd.R_alloc | apply Kd.R_drewN | apply Kd.R_drew)); exact HO_110001.out) (Kd.R_base ho0) hb)
              have n1_ := Aside0.mk (Kd.R_lower (Kd.R_new' ho0 (Kd.R_lt (by (with_reducible repeat (first | apply Kd.R_alloc | apply Kd.R_drewN | apply Kd.R_drew)); exact HO_110001.out))) (below_size (by repeat (first | (with_reducible first | exact HB.out | apply below_alloc | apply pw_below_drewN | apply below_drew1 | refine below_set ?_ GE101.out | refine below_set ?_ GE102.out | refine below_set ?_ GE109.out) | exact HB.out))))
              have n2_ := Aside0.mk (blk_below (g := w.heap.size) (o := .cells #[.int .i64 a0_0, .int .i64 a0_1] 23 (0, 0)) (by (with_reducible repeat (first | refine blk_drewN ?_ _ | refine blk_drew ?_ | refine blk_alloc ?_ _)); exact BK101.out) hb)
              have n3_ := Aside0.mk (blk_below (g := (w.heap.size + 1)) (o := .cells #[.int .i64 a1_0, .int .i64 a1_1] 23 (0, 0)) (by (with_reducible repeat (first | refine blk_drewN ?_ _ | refine blk_drew ?_ | refine blk_alloc ?_ _)); exact BK102.out) hb)
              have n4_ := Aside0.mk (blk_below (g := gb109) (o := .cells #[.int .i64 x110000_3, .slice Ao63 x110001_3.length co63] 29 (0, 0)) (by (with_reducible repeat (first | refine blk_drewN ?_ _ | refine blk_drew ?_ | refine blk_alloc ?_ _)); exact BK109.out) hb)
              have n5_ := Aside0.mk (below_step (by repeat (first | (with_reducible first | exact HB.out | apply below_alloc | apply pw_below_drewN | apply below_drew1 | refine below_set ?_ GE101.out | refine below_set ?_ GE102.out | refine below_set ?_ GE109.out) | exact HB.out)) hb)
              clear HO_110001
              clear BK101
              clear BK102
              clear BK109
              clear HB
              have HO_110001 := n0_
              have HO118 := n1_
              have BK101 := n2_
              have BK102 := n3_
              have BK109 := n4_
              have HB := n5_
              clear n0_ n1_ n2_ n3_ n4_ n5_
              (try clear hb)
              (try clear hb2)
              (try clear hk)
              (try clear hi)
              (try clear ho0)
              refine hK.out _ _ ⟨(blk_cell BK109.out 0).trans rfl, (blk_cell BK109.out 1).trans rfl, (blk_cell BK101.out 0).trans rfl, (blk_cell BK101.out 1).trans rfl⟩ (fun hHeld => ?_)
              clear hK K
              refine norm_ (a' := ?_) ?_ ?_
              rotate_left
              · show Act.put _ (some 88) _ = _
                simp only [Act.put, List.setIfInBounds_toArray, List.set_cons_zero, List.set_cons_succ, i64_w, i32_w]
                rfl
              refine pure_ (i := 7) (N := some 81) (v := ?_) (a' := ?_) #[true, true, true, true, true, true, true, true, false, false, false, false, false, false, false] rfl rfl (any_of HT_.out (by kernel_rfl)) (fun _ _ _ h => h) (Or.inl ⟨by rfl, ?_⟩) ?_ ?_
              rotate_left
              · intro w'
                go_simp
                with_reducible rfl
              rotate_left
              · simp only [Act.put, List.setIfInBounds_toArray, List.set_cons_zero, List.set_cons_succ, i64_w, i32_w]
                rfl
              refine pure_ (i := 8) (N := some 89) (v := ?_) (a' := ?_) #[true, true, true, true, true, true, true, true, true, false, false, false, false, false, false] rfl rfl (any_of HT_.out (by kernel_rfl)) (fun _ _ _ h => h) (Or.inl ⟨by rfl, ?_⟩) ?_ ?_
              rotate_left
              · intro w'
                go_simp
                with_reducible rfl
              rotate_left
              · simp only [Act.put, List.setIfInBounds_toArray, List.set_cons_zero, List.set_cons_succ, i64_w, i32_w]
                rfl
              refine pure_ (i := 9) (N := some 90) (v := ?_) (a' := ?_) #[true, true, true, true, true, true, true, true, true, true, false, false, false, false, false] rfl rfl (any_of HT_.out (by kernel_rfl)) (fun _ _ _ h => h) (Or.inl ⟨by rfl, ?_⟩) ?_ ?_
              rotate_left
              · intro w'
                go_simp
                with_reducible rfl
              rotate_left
              · simp only [Act.put, List.setIfInBounds_toArray, List.set_cons_zero, List.set_cons_succ, i64_w, i32_w]
                rfl
              refine pure_ (i := 10) (N := some 91) (v := ?_) (a' := ?_) #[true, true, true, true, true, true, true, true, true, true, true, false, false, false, false] rfl rfl (any_of HT_.out (by kernel_rfl)) (fun _ _ _ h => h) (Or.inl ⟨by rfl, ?_⟩) ?_ ?_
              rotate_left
              · intro w'
                go_simp
                with_reducible rfl
              rotate_left
              · simp only [Act.put, List.setIfInBounds_toArray, List.set_cons_zero, List.set_cons_succ, i64_w, i32_w]
                rfl
              refine one_ (i := 11) (N := some 15) #[true, true, true, true, true, true, true, true, true, true, true, true, false, false, false] rfl rfl (one_of HT_.out (by kernel_rfl)) (by decide) (fun K hK => ?_)
              refine box_step ?hg (N := 15) ?hd (cs := #[.int .i64 0, .slice none 0 0]) (t := 29) ?hr ?_; (case hd => rfl); (case hg => rfl); (case hr => first | (go_simp; done) | (go_simp; rfl))
              intro gb121 hg w66 hbox hb
              have n0_ := Aside0.mk (Kd.R_below (by (with_reducible repeat (first | apply Kd.R_alloc | apply Kd.R_drewN | apply Kd.R_drew)); exact HO_110001.out) hb)
              have n1_ := Aside0.mk (Kd.R_below (by (with_reducible repeat (first | apply Kd.R_alloc | apply Kd.R_drewN | apply Kd.R_drew)); exact HO118.out) hb)
              have n2_ := Aside0.mk (blk_below (g := w.heap.size) (o := .cells #[.int .i64 a0_0, .int .i64 a0_1] 23 (0, 0)) (by (with_reducible repeat (first | refine blk_drewN ?_ _ | refine blk_drew ?_ | refine blk_alloc ?_ _)); exact BK101.out) hb)
              have n3_ := Aside0.mk (blk_below (g := (w.heap.size + 1)) (o := .cells #[.int .i64 a1_0, .int .i64 a1_1] 23 (0, 0)) (by (with_reducible repeat (first | refine blk_drewN ?_ _ | refine blk_drew ?_ | refine blk_alloc ?_ _)); exact BK102.out) hb)
              have n4_ := Aside0.mk (blk_below (g := gb109) (o := .cells #[.int .i64 x110000_3, .slice Ao63 x110001_3.length co63] 29 (0, 0)) (by (with_reducible repeat (first | refine blk_drewN ?_ _ | refine blk_drew ?_ | refine blk_alloc ?_ _)); exact BK109.out) hb)
              have n5_ := Aside0.mk (below_step (by repeat (first | (with_reducible first | exact HB.out | apply below_alloc | apply pw_below_drewN | apply below_drew1 | refine below_set ?_ GE101.out | refine below_set ?_ GE102.out | refine below_set ?_ GE109.out) | exact HB.out)) hb)
              have n6_ := Aside0.mk (hbox)
              have n7_ := Aside0.mk ((by rw [hg]; exact (below_size (by repeat (first | (with_reducible first | exact HB.out | apply below_alloc | apply pw_below_drewN | apply below_drew1 | refine below_set ?_ GE101.out | refine below_set ?_ GE102.out | refine below_set ?_ GE109.out) | exact HB.out))) : w.heap.size ≤ gb121))
              have n8_ := Aside0.mk ((by rw [hg]; exact (below_size (by repeat (first | (with_reducible first | exact HB.out | apply below_alloc | apply pw_below_drewN | apply below_drew1 | refine below_set ?_ GE101.out | refine below_set ?_ GE102.out | refine below_set ?_ GE109.out) | exact HB.out))) : w.heap.size ≤ gb121))
              have n9_ := Aside0.mk ((by rw [hg]; exact Nat.ne_of_lt (blk_lt (g := w.heap.size) (o := .cells #[.int .i64 a0_0, .int .i64 a0_1] 23 (0, 0)) (by (with_reducible repeat (first | refine blk_drewN ?_ _ | refine blk_drew ?_ | refine blk_alloc ?_ _)); exact BK101.out)) : w.heap.size ≠ gb121))
              have n10_ := Aside0.mk ((by rw [hg]; exact Nat.ne_of_gt (blk_lt (g := w.heap.size) (o := .cells #[.int .i64 a0_0, .int .i64 a0_1] 23 (0, 0)) (by (with_reducible repeat (first | refine blk_drewN ?_ _ | refine blk_drew ?_ | refine blk_alloc ?_ _)); exact BK101.out)) : gb121 ≠ w.heap.size))
              have n11_ := Aside0.mk ((by rw [hg]; exact Nat.ne_of_lt (blk_lt (g := (w.heap.size + 1)) (o := .cells #[.int .i64 a1_0, .int .i64 a1_1] 23 (0, 0)) (by (with_reducible repeat (first | refine blk_drewN ?_ _ | refine blk_drew ?_ | refine blk_alloc ?_ _)); exact BK102.out)) : (w.heap.size + 1) ≠ gb121))
              have n12_ := Aside0.mk ((by rw [hg]; exact Nat.ne_of_gt (blk_lt (g := (w.heap.size + 1)) (o := .cells #[.int .i64 a1_0, .int .i64 a1_1] 23 (0, 0)) (by (with_reducible repeat (first | refine blk_drewN ?_ _ | refine blk_drew ?_ | refine blk_alloc ?_ _)); exact BK102.out)) : gb121 ≠ (w.heap.size + 1)))
              have n13_ := Aside0.mk ((by rw [hg]; exact Nat.ne_of_lt (blk_lt (g := gb109) (o := .cells #[.int .i64 x110000_3, .slice Ao63 x110001_3.length co63] 29 (0, 0)) (by (with_reducible repeat (first | refine blk_drewN ?_ _ | refine blk_drew ?_ | refine blk_alloc ?_ _)); exact BK109.out)) : gb109 ≠ gb121))
              have n14_ := Aside0.mk ((by rw [hg]; exact Nat.ne_of_gt (blk_lt (g := gb109) (o := .cells #[.int .i64 x110000_3, .slice Ao63 x110001_3.length co63] 29 (0, 0)) (by (with_reducible repeat (first | refine blk_drewN ?_ _ | refine blk_drew ?_ | refine blk_alloc ?_ _)); exact BK109.out)) : gb121 ≠ gb109))
              clear HO_110001
              clear HO118
              clear BK101
              clear BK102
              clear BK109
              clear HB
              have HO_110001 := n0_
              have HO118 := n1_
              have BK101 := n2_
              have BK102 := n3_
              have BK109 := n4_
              have HB := n5_
              have BK121 := n6_
              have GW121 := n7_
              have GE121 := n8_
              have NB101_121 := n9_
              have NB121_101 := n10_
              have NB102_121 := n11_
              have NB121_102 := n12_
              have NB109_121 := n13_
              have NB121_109 := n14_
              clear n0_ n1_ n2_ n3_ n4_ n5_ n6_ n7_ n8_ n9_ n10_ n11_ n12_ n13_ n14_
              clear hb hbox hg
              refine hK.out _ _ ⟨(blk_cell BK109.out 0).trans rfl, (blk_cell BK109.out 1).trans rfl, (blk_cell BK101.out 0).trans rfl, (blk_cell BK101.out 1).trans rfl⟩ (fun hHeld => ?_)
              clear hK K
              refine norm_ (a' := ?_) ?_ ?_
              rotate_left
              · show Act.put _ (some 15) _ = _
                simp only [Act.put, List.setIfInBounds_toArray, List.set_cons_zero, List.set_cons_succ, i64_w, i32_w]
                rfl
              exact norm_ (by simp only [putAll, Act.put, List.setIfInBounds_toArray, List.set_cons_zero, List.set_cons_succ]) (hCont (v117, gb121) _ ⟨hHeld, (by (with_reducible repeat (first | apply Kd.R_alloc | apply Kd.R_drewN | apply Kd.R_drew)); exact Kd.R_mono HO118.out (fun _ hk => hk.2)), (by (with_reducible repeat (first | apply Kd.R_alloc | apply Kd.R_drewN | apply Kd.R_drew)); exact Kd.R_mono HO_110001.out (fun _ hk => hk.2)), (by (with_reducible repeat (first | refine blk_drewN ?_ _ | refine blk_drew ?_ | refine blk_alloc ?_ _)); exact BK101.out), (by (with_reducible repeat (first | refine blk_drewN ?_ _ | refine blk_drew ?_ | refine blk_alloc ?_ _)); exact BK102.out), (by (with_reducible repeat (first | refine blk_drewN ?_ _ | refine blk_drew ?_ | refine blk_alloc ?_ _)); exact BK109.out), (by (with_reducible repeat (first | refine blk_drewN ?_ _ | refine blk_drew ?_ | refine blk_alloc ?_ _)); exact BK121.out), GW121.out, GE121.out, NB101_121.out, NB121_101.out, NB102_121.out, NB121_102.out, NB109_121.out, NB121_109.out, (by repeat (first | (with_reducible first | exact HB.out | apply below_alloc | apply pw_below_drewN | apply below_drew1 | refine below_set ?_ GE101.out | refine below_set ?_ GE102.out | refine below_set ?_ GE109.out | refine below_set ?_ GE121.out) | exact HB.out))⟩)
            · skip
              refine box_step ?hg (N := 15) ?hd (cs := #[.int .i64 0, .slice none 0 0]) (t := 29) ?hr ?_; (case hd => rfl); (case hg => rfl); (case hr => first | (go_simp; done) | (go_simp; rfl))
              intro gb121 hg w65 hbox hb
              have n0_ := Aside0.mk (Kd.R_below (by (with_reducible repeat (first | apply Kd.R_alloc | apply Kd.R_drewN | apply Kd.R_drew)); exact HO_110001.out) hb)
              have n1_ := Aside0.mk (blk_below (g := w.heap.size) (o := .cells #[.int .i64 a0_0, .int .i64 a0_1] 23 (0, 0)) (by (with_reducible repeat (first | refine blk_drewN ?_ _ | refine blk_drew ?_ | refine blk_alloc ?_ _)); exact BK101.out) hb)
              have n2_ := Aside0.mk (blk_below (g := (w.heap.size + 1)) (o := .cells #[.int .i64 a1_0, .int .i64 a1_1] 23 (0, 0)) (by (with_reducible repeat (first | refine blk_drewN ?_ _ | refine blk_drew ?_ | refine blk_alloc ?_ _)); exact BK102.out) hb)
              have n3_ := Aside0.mk (blk_below (g := gb109) (o := .cells #[.int .i64 x110000_3, .slice Ao63 x110001_3.length co63] 29 (0, 0)) (by (with_reducible repeat (first | refine blk_drewN ?_ _ | refine blk_drew ?_ | refine blk_alloc ?_ _)); exact BK109.out) hb)
              have n4_ := Aside0.mk (below_step (by repeat (first | (with_reducible first | exact HB.out | apply below_alloc | apply pw_below_drewN | apply below_drew1 | refine below_set ?_ GE101.out | refine below_set ?_ GE102.out | refine below_set ?_ GE109.out) | exact HB.out)) hb)
              have n5_ := Aside0.mk (hbox)
              have n6_ := Aside0.mk ((by rw [hg]; exact (below_size (by repeat (first | (with_reducible first | exact HB.out | apply below_alloc | apply pw_below_drewN | apply below_drew1 | refine below_set ?_ GE101.out | refine below_set ?_ GE102.out | refine below_set ?_ GE109.out) | exact HB.out))) : w.heap.size ≤ gb121))
              have n7_ := Aside0.mk ((by rw [hg]; exact (below_size (by repeat (first | (with_reducible first | exact HB.out | apply below_alloc | apply pw_below_drewN | apply below_drew1 | refine below_set ?_ GE101.out | refine below_set ?_ GE102.out | refine below_set ?_ GE109.out) | exact HB.out))) : w.heap.size ≤ gb121))
              have n8_ := Aside0.mk ((by rw [hg]; exact Nat.ne_of_lt (blk_lt (g := w.heap.size) (o := .cells #[.int .i64 a0_0, .int .i64 a0_1] 23 (0, 0)) (by (with_reducible repeat (first | refine blk_drewN ?_ _ | refine blk_drew ?_ | refine blk_alloc ?_ _)); exact BK101.out)) : w.heap.size ≠ gb121))
              have n9_ := Aside0.mk ((by rw [hg]; exact Nat.ne_of_gt (blk_lt (g := w.heap.size) (o := .cells #[.int .i64 a0_0, .int .i64 a0_1] 23 (0, 0)) (by (with_reducible repeat (first | refine blk_drewN ?_ _ | refine blk_drew ?_ | refine blk_alloc ?_ _)); exact BK101.out)) : gb121 ≠ w.heap.size))
              have n10_ := Aside0.mk ((by rw [hg]; exact Nat.ne_of_lt (blk_lt (g := (w.heap.size + 1)) (o := .cells #[.int .i64 a1_0, .int .i64 a1_1] 23 (0, 0)) (by (with_reducible repeat (first | refine blk_drewN ?_ _ | refine blk_drew ?_ | refine blk_alloc ?_ _)); exact BK102.out)) : (w.heap.size + 1) ≠ gb121))
              have n11_ := Aside0.mk ((by rw [hg]; exact Nat.ne_of_gt (blk_lt (g := (w.heap.size + 1)) (o := .cells #[.int .i64 a1_0, .int .i64 a1_1] 23 (0, 0)) (by (with_reducible repeat (first | refine blk_drewN ?_ _ | refine blk_drew ?_ | refine blk_alloc ?_ _)); exact BK102.out)) : gb121 ≠ (w.heap.size + 1)))
              have n12_ := Aside0.mk ((by rw [hg]; exact Nat.ne_of_lt (blk_lt (g := gb109) (o := .cells #[.int .i64 x110000_3, .slice Ao63 x110001_3.length co63] 29 (0, 0)) (by (with_reducible repeat (first | refine blk_drewN ?_ _ | refine blk_drew ?_ | refine blk_alloc ?_ _)); exact BK109.out)) : gb109 ≠ gb121))
              have n13_ := Aside0.mk ((by rw [hg]; exact Nat.ne_of_gt (blk_lt (g := gb109) (o := .cells #[.int .i64 x110000_3, .slice Ao63 x110001_3.length co63] 29 (0, 0)) (by (with_reducible repeat (first | refine blk_drewN ?_ _ | refine blk_drew ?_ | refine blk_alloc ?_ _)); exact BK109.out)) : gb121 ≠ gb109))
              clear HO_110001
              clear BK101
              clear BK102
              clear BK109
              clear HB
              have HO_110001 := n0_
              have BK101 := n1_
              have BK102 := n2_
              have BK109 := n3_
              have HB := n4_
              have BK121 := n5_
              have GW121 := n6_
              have GE121 := n7_
              have NB101_121 := n8_
              have NB121_101 := n9_
              have NB102_121 := n10_
              have NB121_102 := n11_
              have NB109_121 := n12_
              have NB121_109 := n13_
              clear n0_ n1_ n2_ n3_ n4_ n5_ n6_ n7_ n8_ n9_ n10_ n11_ n12_ n13_
              clear hb hbox hg
              refine hK.out _ _ ⟨(blk_cell BK109.out 0).trans rfl, (blk_cell BK109.out 1).trans rfl, (blk_cell BK101.out 0).trans rfl, (blk_cell BK101.out 1).trans rfl⟩ (fun hHeld => ?_)
              clear hK K
              refine norm_ (a' := ?_) ?_ ?_
              rotate_left
              · show Act.put _ (some 15) _ = _
                simp only [Act.put, List.setIfInBounds_toArray, List.set_cons_zero, List.set_cons_succ, i64_w, i32_w]
                rfl
              refine one_ (i := 6) (N := some 88) #[true, true, true, true, true, true, true, false, false, false, false, true, false, false, false] rfl rfl (one_of HT_.out (by kernel_rfl)) (by decide) (fun K hK => ?_)
              refine goes_ Try.func7 (by kernel_rfl) rfl #[.agg #[.int .i64 x110000_3, .slice Ao63 x110001_3.length co63], .int .i64 (Int.tmod (wrap64 (rd l2 x77_3)) a0_1)] (by rfl) rfl rfl (by (try simp only [List.map_toArray, List.map_cons, List.map_nil]); first | done | rfl | (simp only [List.length_drop, List.length_take]; rfl)) ?_
              with_reducible refine (Ext.Replace.calls x110000_3 _ _ x110001_3 (Int.tmod (wrap64 (rd l2 x77_3)) a0_1) t115 t116 t119 t120 _ ?side1 ?side2 A54.out).mono ?_
              (case side1 => repeat (first | exact (Kd.R_reads' HO_110001.out).2.2 | (with_reducible refine Kd.C_alloc ?_ _) | (with_reducible refine Kd.C_drewN ?_ _) | (with_reducible refine Kd.C_drew ?_)))
              (case side2 => exact (Kd.R_reads' HO_110001.out).2.1)
              rintro e w66 ⟨v117, rfl, ho0, hb⟩
              refine ⟨_, rfl, ?_⟩
              have n0_ := Aside0.mk (Kd.R_elder' (by (with_reducible repeat (first | apply Kd.R_alloc | apply Kd.R_drewN | apply Kd.R_drew)); exact HO_110001.out) (Kd.R_base ho0) hb)
              have n1_ := Aside0.mk (Kd.R_lower (Kd.R_new' ho0 (Kd.R_lt (by (with_reducible repeat (first | apply Kd.R_alloc | apply Kd.R_drewN | apply Kd.R_drew)); exact HO_110001.out))) (below_size (by repeat (first | (with_reducible first | exact HB.out | apply below_alloc | apply pw_below_drewN | apply below_drew1 | refine below_set ?_ GE101.out | refine below_set ?_ GE102.out | refine below_set ?_ GE109.out | refine below_set ?_ GE121.out) | exact HB.out))))
              have n2_ := Aside0.mk (blk_below (g := w.heap.size) (o := .cells #[.int .i64 a0_0, .int .i64 a0_1] 23 (0, 0)) (by (with_reducible repeat (first | refine blk_drewN ?_ _ | refine blk_drew ?_ | refine blk_alloc ?_ _)); exact BK101.out) hb)
              have n3_ := Aside0.mk (blk_below (g := (w.heap.size + 1)) (o := .cells #[.int .i64 a1_0, .int .i64 a1_1] 23 (0, 0)) (by (with_reducible repeat (first | refine blk_drewN ?_ _ | refine blk_drew ?_ | refine blk_alloc ?_ _)); exact BK102.out) hb)
              have n4_ := Aside0.mk (blk_below (g := gb109) (o := .cells #[.int .i64 x110000_3, .slice Ao63 x110001_3.length co63] 29 (0, 0)) (by (with_reducible repeat (first | refine blk_drewN ?_ _ | refine blk_drew ?_ | refine blk_alloc ?_ _)); exact BK109.out) hb)
              have n5_ := Aside0.mk (blk_below (g := gb121) (o := .cells #[.int .i64 0, .slice none 0 0] 29 (0, 0)) (by (with_reducible repeat (first | refine blk_drewN ?_ _ | refine blk_drew ?_ | refine blk_alloc ?_ _)); exact BK121.out) hb)
              have n6_ := Aside0.mk (below_step (by repeat (first | (with_reducible first | exact HB.out | apply below_alloc | apply pw_below_drewN | apply below_drew1 | refine below_set ?_ GE101.out | refine below_set ?_ GE102.out | refine below_set ?_ GE109.out | refine below_set ?_ GE121.out) | exact HB.out)) hb)
              clear HO_110001
              clear BK101
              clear BK102
              clear BK109
              clear BK121
              clear HB
              have HO_110001 := n0_
              have HO118 := n1_
              have BK101 := n2_
              have BK102 := n3_
              have BK109 := n4_
              have BK121 := n5_
              have HB := n6_
              clear n0_ n1_ n2_ n3_ n4_ n5_ n6_
              (try clear hb)
              (try clear hb2)
              (try clear hk)
              (try clear hi)
              (try clear ho0)
              refine hK.out _ _ ⟨(blk_cell BK109.out 0).trans rfl, (blk_cell BK109.out 1).trans rfl, (blk_cell BK101.out 0).trans rfl, (blk_cell BK101.out 1).trans rfl⟩ (fun hHeld => ?_)
              clear hK K
              refine norm_ (a' := ?_) ?_ ?_
              rotate_left
              · show Act.put _ (some 88) _ = _
                simp only [Act.put, List.setIfInBounds_toArray, List.set_cons_zero, List.set_cons_succ, i64_w, i32_w]
                rfl
              refine pure_ (i := 7) (N := some 81) (v := ?_) (a' := ?_) #[true, true, true, true, true, true, true, true, false, false, false, true, false, false, false] rfl rfl (any_of HT_.out (by kernel_rfl)) (fun _ _ _ h => h) (Or.inl ⟨by rfl, ?_⟩) ?_ ?_
              rotate_left
              · intro w'
                go_simp
                with_reducible rfl
              rotate_left
              · simp only [Act.put, List.setIfInBounds_toArray, List.set_cons_zero, List.set_cons_succ, i64_w, i32_w]
                rfl
              refine pure_ (i := 8) (N := some 89) (v := ?_) (a' := ?_) #[true, true, true, true, true, true, true, true, true, false, false, true, false, false, false] rfl rfl (any_of HT_.out (by kernel_rfl)) (fun _ _ _ h => h) (Or.inl ⟨by rfl, ?_⟩) ?_ ?_
              rotate_left
              · intro w'
                go_simp
                with_reducible rfl
              rotate_left
              · simp only [Act.put, List.setIfInBounds_toArray, List.set_cons_zero, List.set_cons_succ, i64_w, i32_w]
                rfl
              refine pure_ (i := 9) (N := some 90) (v := ?_) (a' := ?_) #[true, true, true, true, true, true, true, true, true, true, false, true, false, false, false] rfl rfl (any_of HT_.out (by kernel_rfl)) (fun _ _ _ h => h) (Or.inl ⟨by rfl, ?_⟩) ?_ ?_
              rotate_left
              · intro w'
                go_simp
                with_reducible rfl
              rotate_left
              · simp only [Act.put, List.setIfInBounds_toArray, List.set_cons_zero, List.set_cons_succ, i64_w, i32_w]
                rfl
              refine pure_ (i := 10) (N := some 91) (v := ?_) (a' := ?_) #[true, true, true, true, true, true, true, true, true, true, true, true, false, false, false] rfl rfl (any_of HT_.out (by kernel_rfl)) (fun _ _ _ h => h) (Or.inl ⟨by rfl, ?_⟩) ?_ ?_
              rotate_left
              · intro w'
                go_simp
                with_reducible rfl
              rotate_left
              · simp only [Act.put, List.setIfInBounds_toArray, List.set_cons_zero, List.set_cons_succ, i64_w, i32_w]
                rfl
              exact norm_ (by simp only [putAll, Act.put, List.setIfInBounds_toArray, List.set_cons_zero, List.set_cons_succ]) (hCont (v117, gb121) _ ⟨hHeld, (by (with_reducible repeat (first | apply Kd.R_alloc | apply Kd.R_drewN | apply Kd.R_drew)); exact Kd.R_mono HO118.out (fun _ hk => hk.2)), (by (with_reducible repeat (first | apply Kd.R_alloc | apply Kd.R_drewN | apply Kd.R_drew)); exact Kd.R_mono HO_110001.out (fun _ hk => hk.2)), (by (with_reducible repeat (first | refine blk_drewN ?_ _ | refine blk_drew ?_ | refine blk_alloc ?_ _)); exact BK101.out), (by (with_reducible repeat (first | refine blk_drewN ?_ _ | refine blk_drew ?_ | refine blk_alloc ?_ _)); exact BK102.out), (by (with_reducible repeat (first | refine blk_drewN ?_ _ | refine blk_drew ?_ | refine blk_alloc ?_ _)); exact BK109.out), (by (with_reducible repeat (first | refine blk_drewN ?_ _ | refine blk_drew ?_ | refine blk_alloc ?_ _)); exact BK121.out), GW121.out, GE121.out, NB101_121.out, NB121_101.out, NB102_121.out, NB121_102.out, NB109_121.out, NB121_109.out, (by repeat (first | (with_reducible first | exact HB.out | apply below_alloc | apply pw_below_drewN | apply below_drew1 | refine below_set ?_ GE101.out | refine below_set ?_ GE102.out | refine below_set ?_ GE109.out | refine below_set ?_ GE121.out) | exact HB.out))⟩)
          rintro ⟨v117, gb121⟩ w67 ⟨hS_, h0_, h1_, h2_, h3_, h4_, h5_, h6_, h7_, h8_, h9_, h10_, h11_, h12_, h13_, h14_⟩
          have n0_ : Aside0 (Kd.R k42 42 w67 w.heap.size (fun k_ => some k_ ≠ (.slice Ao63 x110001_3.length co63 : Value).ownBlock) v117 t116) := ⟨h0_⟩
          have n1_ : Aside0 (Kd.R k42 42 w67 w.heap.size (fun k_ => some k_ ≠ (v117 : Value).ownBlock) (.slice Ao63 x110001_3.length co63) x110001_3) := ⟨h1_⟩
          have n2_ : Aside0 (w67.heap[w.heap.size]? = some (.cells #[.int .i64 a0_0, .int .i64 a0_1] 23 (0, 0))) := ⟨h2_⟩
          have n3_ : Aside0 (w67.heap[(w.heap.size + 1)]? = some (.cells #[.int .i64 a1_0, .int .i64 a1_1] 23 (0, 0))) := ⟨h3_⟩
          have n4_ : Aside0 (w67.heap[gb109]? = some (.cells #[.int .i64 x110000_3, .slice Ao63 x110001_3.length co63] 29 (0, 0))) := ⟨h4_⟩
          have n5_ : Aside0 (w67.heap[gb121]? = some (.cells #[.int .i64 0, .slice none 0 0] 29 (0, 0))) := ⟨h5_⟩
          have n6_ : Aside0 (w.heap.size ≤ gb121) := ⟨h6_⟩
          have n7_ : Aside0 (w.heap.size ≤ gb121) := ⟨h7_⟩
          have n8_ : Aside0 (w.heap.size ≠ gb121) := ⟨h8_⟩
          have n9_ : Aside0 (gb121 ≠ w.heap.size) := ⟨h9_⟩
          have n10_ : Aside0 ((w.heap.size + 1) ≠ gb121) := ⟨h10_⟩
          have n11_ : Aside0 (gb121 ≠ (w.heap.size + 1)) := ⟨h11_⟩
          have n12_ : Aside0 (gb109 ≠ gb121) := ⟨h12_⟩
          have n13_ : Aside0 (gb121 ≠ gb109) := ⟨h13_⟩
          have n14_ : Aside0 (Below w.heap.size w w67) := ⟨h14_⟩
          clear HO_110001
          clear BK101
          clear BK102
          clear BK109
          clear HB
          clear h0_ h1_ h2_ h3_ h4_ h5_ h6_ h7_ h8_ h9_ h10_ h11_ h12_ h13_ h14_
          have HO118 := n0_
          have HO_110001 := n1_
          have BK101 := n2_
          have BK102 := n3_
          have BK109 := n4_
          have BK121 := n5_
          have GW121 := n6_
          have GE121 := n7_
          have NB101_121 := n8_
          have NB121_101 := n9_
          have NB102_121 := n10_
          have NB121_102 := n11_
          have NB109_121 := n12_
          have NB121_109 := n13_
          have HB := n14_
          clear n0_ n1_ n2_ n3_ n4_ n5_ n6_ n7_ n8_ n9_ n10_ n11_ n12_ n13_ n14_
          have hHeld : w67.cell? ⟨gb109, 0, none⟩ = some (.int .i64 x110000_3) ∧ w67.cell? ⟨gb109, 1, none⟩ = some (.slice Ao63 x110001_3.length co63) ∧ w67.cell? ⟨w.heap.size, 0, none⟩ = some (.int .i64 a0_0) ∧ w67.cell? ⟨w.heap.size, 1, none⟩ = some (.int .i64 a0_1) := hS_
          obtain ⟨Ao69, co69, eo69⟩ := Kd.R_slice HO118.out
          (first | subst eo69 | (injection eo69 with f1_ f2_ f3_; have f4_ := f1_.symm; have f5_ := f3_.symm; clear f1_ f2_ f3_; subst f4_; subst f5_))
          refine norm_ (a' := ?_) ?_ ?_
          rotate_left
          · simp only [putAll, Act.put, List.setIfInBounds_toArray, List.set_cons_zero, List.set_cons_succ]
            rfl
          refine one_ (i := 12) (N := none) #[true, true, true, true, true, true, true, true, true, true, true, true, true, false, false] rfl rfl (one_of HT_.out (by kernel_rfl)) (by decide) (fun K hK => ?_)
          have hs68 : w67.cell? ⟨gb121, 0, none⟩ = some (.int .i64 0) := (blk_cell BK121.out 0).trans rfl
          have hfs68 := blk_frozen BK121.out 0
          have hns68_0 := NB101_121.out
          have hns68_1 := NB102_121.out
          have hns68_2 := NB109_121.out
          have hms68_0 := NB121_101.out
          have hms68_1 := NB121_102.out
          have hms68_2 := NB121_109.out
          have hs70 : w67.cell? ⟨gb121, 1, none⟩ = some (.slice none 0 0) := (blk_cell BK121.out 1).trans rfl
          have hfs70 := blk_frozen BK121.out 1
          have hns70_0 := NB101_121.out
          have hns70_1 := NB102_121.out
          have hns70_2 := NB109_121.out
          have hms70_0 := NB121_101.out
          have hms70_1 := NB121_102.out
          have hms70_2 := NB121_109.out
          refine skip_ (w1 := ?_) (by rfl) rfl ?_ ?_
          rotate_left
          · go_simp
            rfl
          refine hK.out _ _ ⟨((cell_far (p := ⟨gb121, _, none⟩) NB109_121.out _).trans (((cell_far (p := ⟨gb121, _, none⟩) NB109_121.out _).trans (hHeld.1)))), ((cell_far (p := ⟨gb121, _, none⟩) NB109_121.out _).trans (((cell_far (p := ⟨gb121, _, none⟩) NB109_121.out _).trans (hHeld.2.1)))), ((cell_far (p := ⟨gb121, _, none⟩) NB101_121.out _).trans (((cell_far (p := ⟨gb121, _, none⟩) NB101_121.out _).trans (hHeld.2.2.1)))), ((cell_far (p := ⟨gb121, _, none⟩) NB101_121.out _).trans (((cell_far (p := ⟨gb121, _, none⟩) NB101_121.out _).trans (hHeld.2.2.2))))⟩ (fun hHeld => ?_)
          clear hK K
          refine pure_ (i := 13) (N := some 16) (v := ?_) (a' := ?_) #[true, true, true, true, true, true, true, true, true, true, true, true, true, true, false] rfl rfl (any_of HT_.out (by kernel_rfl)) (fun _ _ _ h => h) (Or.inl ⟨by rfl, ?_⟩) ?_ ?_
          rotate_left
          · intro w'
            go_simp
            with_reducible rfl
          rotate_left
          · simp only [Act.put, List.setIfInBounds_toArray, List.set_cons_zero, List.set_cons_succ, i64_w, i32_w]
            rfl
          refine pure_ (i := 14) (N := some 17) (v := ?_) (a' := ?_) #[true, true, true, true, true, true, true, true, true, true, true, true, true, true, true] rfl rfl (any_of HT_.out (by kernel_rfl)) (fun _ _ _ h => h) (Or.inl ⟨by rfl, ?_⟩) ?_ ?_
          rotate_left
          · intro w'
            go_simp
            with_reducible rfl
          rotate_left
          · simp only [Act.put, List.setIfInBounds_toArray, List.set_cons_zero, List.set_cons_succ, i64_w, i32_w]
            rfl
          refine done_ (done_of HT_.out (by kernel_rfl)) ?_
          have n0_ : Aside0 (Kd.R k42 42 ((w67.setCell ⟨gb121, 0, none⟩ (.int .i64 t115)).setCell ⟨gb121, 1, none⟩ (.slice Ao69 t116.length co69)) w.heap.size (fun k_ => some k_ ≠ (.slice Ao69 t116.length co69 : Value).ownBlock) (.slice Ao63 x110001_3.length co63) x110001_3) := ⟨by (with_reducible repeat (first | apply Kd.R_alloc | apply Kd.R_drewN | apply Kd.R_drew)); exact Kd.R_mono (Kd.R_far (p := ⟨gb121, 1, none⟩) (Kd.R_far (p := ⟨gb121, 0, none⟩) (Kd.R_types HO_110001.out BK121.out (by decide)) (fun _ hk => hk.2) (.int .i64 t115)) (fun _ hk => hk.2) (.slice Ao69 t116.length co69)) (fun _ hk => hk.1)⟩
          have n1_ : Aside0 (Kd.R k42 42 ((w67.setCell ⟨gb121, 0, none⟩ (.int .i64 t115)).setCell ⟨gb121, 1, none⟩ (.slice Ao69 t116.length co69)) w.heap.size (fun k_ => some k_ ≠ (.slice Ao63 x110001_3.length co63 : Value).ownBlock) (.slice Ao69 t116.length co69) t116) := ⟨by (with_reducible repeat (first | apply Kd.R_alloc | apply Kd.R_drewN | apply Kd.R_drew)); exact Kd.R_mono (Kd.R_far (p := ⟨gb121, 1, none⟩) (Kd.R_far (p := ⟨gb121, 0, none⟩) (Kd.R_types HO118.out BK121.out (by decide)) (fun _ hk => hk.2) (.int .i64 t115)) (fun _ hk => hk.2) (.slice Ao69 t116.length co69)) (fun _ hk => hk.1)⟩
          have n2_ : Aside0 (((w67.setCell ⟨gb121, 0, none⟩ (.int .i64 t115)).setCell ⟨gb121, 1, none⟩ (.slice Ao69 t116.length co69)).heap[w.heap.size]? = some (.cells #[.int .i64 a0_0, .int .i64 a0_1] 23 (0, 0))) := ⟨by (with_reducible repeat (first | refine blk_drewN ?_ _ | refine blk_drew ?_ | refine blk_alloc ?_ _)); refine blk_far ?_ NB101_121.out _; (with_reducible repeat (first | refine blk_drewN ?_ _ | refine blk_drew ?_ | refine blk_alloc ?_ _)); refine blk_far ?_ NB101_121.out _; (with_reducible repeat (first | refine blk_drewN ?_ _ | refine blk_drew ?_ | refine blk_alloc ?_ _)); exact BK101.out⟩
          have n3_ : Aside0 (((w67.setCell ⟨gb121, 0, none⟩ (.int .i64 t115)).setCell ⟨gb121, 1, none⟩ (.slice Ao69 t116.length co69)).heap[(w.heap.size + 1)]? = some (.cells #[.int .i64 a1_0, .int .i64 a1_1] 23 (0, 0))) := ⟨by (with_reducible repeat (first | refine blk_drewN ?_ _ | refine blk_drew ?_ | refine blk_alloc ?_ _)); refine blk_far ?_ NB102_121.out _; (with_reducible repeat (first | refine blk_drewN ?_ _ | refine blk_drew ?_ | refine blk_alloc ?_ _)); refine blk_far ?_ NB102_121.out _; (with_reducible repeat (first | refine blk_drewN ?_ _ | refine blk_drew ?_ | refine blk_alloc ?_ _)); exact BK102.out⟩
          have n4_ : Aside0 (((w67.setCell ⟨gb121, 0, none⟩ (.int .i64 t115)).setCell ⟨gb121, 1, none⟩ (.slice Ao69 t116.length co69)).heap[gb109]? = some (.cells #[.int .i64 x110000_3, .slice Ao63 x110001_3.length co63] 29 (0, 0))) := ⟨by (with_reducible repeat (first | refine blk_drewN ?_ _ | refine blk_drew ?_ | refine blk_alloc ?_ _)); refine blk_far ?_ NB109_121.out _; (with_reducible repeat (first | refine blk_drewN ?_ _ | refine blk_drew ?_ | refine blk_alloc ?_ _)); refine blk_far ?_ NB109_121.out _; (with_reducible repeat (first | refine blk_drewN ?_ _ | refine blk_drew ?_ | refine blk_alloc ?_ _)); exact BK109.out⟩
          have n5_ : Aside0 (((w67.setCell ⟨gb121, 0, none⟩ (.int .i64 t115)).setCell ⟨gb121, 1, none⟩ (.slice Ao69 t116.length co69)).heap[gb121]? = some (.cells #[.int .i64 t115, .slice Ao69 t116.length co69] 29 (0, 0))) := ⟨by (with_reducible repeat (first | refine blk_drewN ?_ _ | refine blk_drew ?_ | refine blk_alloc ?_ _)); refine blk_put (cs := #[.int .i64 t115, .slice none 0 0]) ?_ 1 _ rfl; (with_reducible repeat (first | refine blk_drewN ?_ _ | refine blk_drew ?_ | refine blk_alloc ?_ _)); refine blk_put (cs := #[.int .i64 0, .slice none 0 0]) ?_ 0 _ rfl; (with_reducible repeat (first | refine blk_drewN ?_ _ | refine blk_drew ?_ | refine blk_alloc ?_ _)); exact BK121.out⟩
          have n6_ : Aside0 (Below w.heap.size w ((w67.setCell ⟨gb121, 0, none⟩ (.int .i64 t115)).setCell ⟨gb121, 1, none⟩ (.slice Ao69 t116.length co69))) := ⟨by repeat (first | (with_reducible first | exact HB.out | apply below_alloc | apply pw_below_drewN | apply below_drew1 | refine below_set ?_ GE101.out | refine below_set ?_ GE102.out | refine below_set ?_ GE109.out | refine below_set ?_ GE121.out) | exact HB.out)⟩
          (try clear HO_110001)
          (try clear HO118)
          (try clear BK101)
          (try clear BK102)
          (try clear BK109)
          (try clear BK121)
          (try clear HB)
          generalize ((w67.setCell ⟨gb121, 0, none⟩ (.int .i64 t115)).setCell ⟨gb121, 1, none⟩ (.slice Ao69 t116.length co69)) = w71 at n0_ n1_ n2_ n3_ n4_ n5_ n6_ ⊢
          have HO_110001 := n0_
          have HO118 := n1_
          have BK101 := n2_
          have BK102 := n3_
          have BK109 := n4_
          have BK121 := n5_
          have HB := n6_
          clear n0_ n1_ n2_ n3_ n4_ n5_ n6_
          have hx0 := Aside0.mk hx0
          have hstep := inv_step HI.out HMM.out.1 (by have := HMM.out; omega) (by have := HM.out; have := HZ.out; have := HG.out.2.2.2.2; omega)
          rw [HRP.out] at hstep
          simp only at hstep
          rcases hstep with h12 | ⟨h120, hs1, hI2⟩
          · subst h12
            clear hHeld hx
            go_wp2_with fail
            go_meet
            case rel => exact ⟨x110000_3, x110001_3, _, BK109, ⟨Kd.R_mono HO_110001.out fun _ _ => trivial⟩, HI, BK101, BK102, HB⟩
          · subst h120
            have HI2 := Aside0.mk hI2
            have HS1 := Aside0.mk hs1
            clear hI2 hs1 hHeld hx
            have hu0 : w71.cell? ⟨gb121, 0, none⟩ = some (.int .i64 t115) := (blk_cell BK121.out 0).trans rfl
            have hu1 : w71.cell? ⟨gb121, 1, none⟩ = some (.slice Ao69 t116.length co69) := (blk_cell BK121.out 1).trans rfl
            have hv0 : w71.cell? ⟨gb109, 0, none⟩ = some (.int .i64 x110000_3) := (blk_cell BK109.out 0).trans rfl
            have hv1 : w71.cell? ⟨gb109, 1, none⟩ = some (.slice Ao63 x110001_3.length co63) := (blk_cell BK109.out 1).trans rfl
            have hvf0 := blk_frozen BK109.out 0
            have hvf1 := blk_frozen BK109.out 1
            have hnw : wrap64 (x77_3 + 1) = x77_3 + 1 := Spare.w64 _ (by have := HZ.out; omega)
            have N1 : w.heap.size ≠ gb109 := by have := HL2.out; omega
            have N2 : w.heap.size + 1 ≠ gb109 := by have := HL2.out; omega
            have N1 := Aside0.mk N1
            have N2 := Aside0.mk N2
            go_wp2
            go_roundg (l2.length - (x77_3 + 1)).toNat
            case measure => have := HZ.out; omega
            case rel =>
              refine ⟨x77_3 + 1, t115, t116, _, by first | rfl | rw [hnw], ⟨by have := HZ.out; omega⟩, ⟨blk_put (cs := #[.int .i64 t115, .slice Ao63 x110001_3.length co63]) (blk_put (cs := #[.int .i64 x110000_3, .slice Ao63 x110001_3.length co63]) BK109.out 0 _ rfl) 1 _ rfl⟩, ⟨?_⟩, HI2, ⟨by have := HM.out; have := HS1.out; omega⟩, ⟨blk_far (blk_far BK101.out N1.out _) N1.out _⟩, ⟨blk_far (blk_far BK102.out N2.out _) N2.out _⟩, ⟨(HB.out.setCell GE109.out _).setCell GE109.out _⟩⟩
              exact Kd.R_mono (Kd.R_set (Kd.R_set HO118.out BK109.out (by decide) 0 _) (blk_put (cs := #[.int .i64 x110000_3, .slice Ao63 x110001_3.length co63]) BK109.out 0 _ rfl) (by decide) 1 _) (fun _ _ => trivial)
        · have hlt0 : decide (x77_3 < (l2.length : Int)) = false := decide_eq_false hlt
          go_wp2_with fail
          go_meet
          case rel => exact ⟨x110000_3, x110001_3, _, BK109, HO_110001, HI, BK101, BK102, HB⟩
    case rest =>
    clear HT2 HV2 HP2 HS2 HB2 HRK HI HM p0 p1 s0 s1 g6
    obtain ⟨x110000_3, x110001_3, v, BK109, HO_110001, HI, BK101, BK102, HB⟩ := hcut
    obtain ⟨Ao63, co63, eo63⟩ := Kd.R_slice HO_110001.out
    subst eo63
    obtain ⟨g1, g2, g3, g4, g5⟩ := HG.out
    have p0 : wc.cell? ⟨w.heap.size, 0, none⟩ = some (.int .i64 a0_0) := (blk_cell BK101.out 0).trans rfl
    have p1 : wc.cell? ⟨w.heap.size, 1, none⟩ = some (.int .i64 a0_1) := (blk_cell BK101.out 1).trans rfl
    have v1 : wc.cell? ⟨gb109, 1, none⟩ = some (.slice Ao63 x110001_3.length co63) := (blk_cell BK109.out 1).trans rfl
    have hpz : (a0_1 == 0) = false := by simp; omega
    have hpz' : a0_1 ≠ 0 := by omega
    have hca : wrap64 a = a := Spare.w64 _ (by omega)
    have hcb : wrap64 b = b := Spare.w64 _ (by omega)
    have hca' : IntKind.i64.wrap a = a := by rw [IntWalk.i64_left, hca]
    have hcb' : IntKind.i64.wrap b = b := by rw [IntWalk.i64_left, hcb]
    have hi0 : 0 ≤ (a % a0_1) ∧ (a % a0_1) < a0_1 := ⟨Int.emod_nonneg _ hpz', Int.emod_lt_of_pos _ (by omega)⟩
    have hk0 : 0 ≤ (b % a0_1) ∧ (b % a0_1) < a0_1 := ⟨Int.emod_nonneg _ hpz', Int.emod_lt_of_pos _ (by omega)⟩
    obtain ⟨x, y, ex, ey, hxy, hrng⟩ := apart_plain HI.out HX.out (by omega) HD.out hi0 hk0
    have EX := Aside0.mk ex
    have EY := Aside0.mk ey
    obtain ⟨B, hB1, hB2⟩ : ∃ B : Bool, (x == y) = B ∧ ((a % a0_1) == (b % a0_1)) = B := by
      refine ⟨decide (x = y), rfl, ?_⟩
      by_cases h : x = y
      · rw [decide_eq_true h]; simpa using hxy.1 h
      · rw [decide_eq_false h]; simpa using fun e => h (hxy.2 e)
    have HRNG := Aside0.mk hrng
    clear g1 g2 g3 g4 g5 hi0 hk0 ex ey hxy hrng
    go_wp2
    go_quiet (fail)
    go_wp2_with fail
    refine (Ext.Lookup.calls Ao63 co63 x110001_3 a0_0 a0_1 (a % a0_1) x 0 _ (Kd.C_drewN (Kd.R_reads' HO_110001.out).2.2 _) (Kd.R_reads' HO_110001.out).2.1 (congrArg some EX.out)).mono ?_
    rintro e w8 ⟨rfl, hb8⟩
    have v1 : w8.cell? ⟨gb109, 1, none⟩ = some (.slice Ao63 x110001_3.length co63) := (blk_cell (blk_below (blk_drewN BK109.out _) hb8) 1).trans rfl
    have p0 : w8.cell? ⟨w.heap.size, 0, none⟩ = some (.int .i64 a0_0) := (blk_cell (blk_below (blk_drewN BK101.out _) hb8) 0).trans rfl
    have p1 : w8.cell? ⟨w.heap.size, 1, none⟩ = some (.int .i64 a0_1) := (blk_cell (blk_below (blk_drewN BK101.out _) hb8) 1).trans rfl
    have hC8 := Kd.C_below (Kd.C_drewN (Kd.R_reads' HO_110001.out).2.2 _) hb8
    have HC8 := Aside0.mk hC8
    have B1 := Aside0.mk (blk_below (blk_drewN BK101.out _) hb8)
    have B2 := Aside0.mk (blk_below (blk_drewN BK102.out _) hb8)
    have HB8 := Aside0.mk (below_step (pw_below_drewN HB.out _) hb8)
    clear hb8 hC8
    go_wp2_with fail
    refine (Ext.Lookup.calls Ao63 co63 x110001_3 a0_0 a0_1 (b % a0_1) y 0 _ HC8.out (Kd.R_reads' HO_110001.out).2.1 (congrArg some EY.out)).mono ?_
    rintro e w9 ⟨rfl, hb9⟩
    have p0 : w9.cell? ⟨w.heap.size, 0, none⟩ = some (.int .i64 a0_0) := (blk_cell (blk_below B1.out hb9) 0).trans rfl
    have p1 : w9.cell? ⟨w.heap.size, 1, none⟩ = some (.int .i64 a0_1) := (blk_cell (blk_below B1.out hb9) 1).trans rfl
    have s0 : w9.cell? ⟨w.heap.size + 1, 0, none⟩ = some (.int .i64 a1_0) := (blk_cell (blk_below B2.out hb9) 0).trans rfl
    have s1 : w9.cell? ⟨w.heap.size + 1, 1, none⟩ = some (.int .i64 a1_1) := (blk_cell (blk_below B2.out hb9) 1).trans rfl
    have HB9 := Aside0.mk (below_step HB8.out hb9)
    clear hb9
    rcases HRNG.out with ⟨h1, h2⟩ | ⟨h1, h2⟩
    · have d1 : decide (x ≥ a0_0) = true := decide_eq_true h1
      have d2 : decide (x < a0_0 + a0_1) = true := decide_eq_true h2
      clear h1 h2
      go_wp2
      go_ret
      exact ⟨by simp, HB9.out⟩
    · have d3 : decide (x ≥ a1_0) = true := decide_eq_true h1
      have d4 : decide (x < a1_0 + a1_1) = true := decide_eq_true h2
      clear h1 h2
      cases d1 : decide (x ≥ a0_0) <;> cases d2 : decide (x < a0_0 + a0_1)
      all_goals
        go_wp2
        go_ret
        exact ⟨by simp, HB9.out⟩

end Go.Proofs.Ytdepicgdbealpaa.Spare
