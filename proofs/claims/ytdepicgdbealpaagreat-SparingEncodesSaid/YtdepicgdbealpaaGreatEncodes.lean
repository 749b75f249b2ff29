/- The law SparingEncodes returns true. -/
import Derived.Test.YtdepicgdbealpaaGreatFew
import Derived.Test.YtdepicgdbealpaaGreatRefE
import Derived.Deep.CutBlock
import Derived.Deep.RegionHeld3
namespace Go.Proofs.YtdepicgdbealpaaGreat.Spare
set_option linter.unusedVariables false
set_option linter.unusedSimpArgs false
open Go.RowKit Go.Lib Go.Proofs.YtdepicgdbealpaaGreatW.PrintWords Go.Proofs.YtdepicgdbealpaaGreatW.PrintLast Go.Proofs.YtdepicgdbealpaaGreatW.PrintMore
open Go.Proofs.YtdepicgdbealpaaGreat.V Go.Proofs.YtdepicgdbealpaaGreat.Enc
open Go.Proofs.YtdepicgdbealpaaGreat

/-- What the law's last statement reads, in each world that it may meet. -/
theorem held6 {w8 W : World} {gu gv gt : Nat} {r1 s : Int} {v1 v2 v3 : Value} (h1 : w8.heap[gu]? = some (.cells #[.int .i64 r1, v1] 26 (0, 0))) (h2 : w8.heap[gv]? = some (.cells #[.int .i64 r1, v2] 26 (0, 0)))
    (h3 : w8.heap[gt]? = some (.cells #[.int .i64 s, v3] 26 (0, 0))) (hb : Below w8.heap.size w8 W) :
    Aside0 (Below w8.heap.size w8 W) ∧ W.cell? ⟨gu, 0, none⟩ = some (.int .i64 r1) ∧ W.cell? ⟨gu, 1, none⟩ = some v1 ∧ W.cell? ⟨gv, 0, none⟩ = some (.int .i64 r1) ∧ W.cell? ⟨gv, 1, none⟩ = some v2 ∧ W.cell? ⟨gt, 0, none⟩ = some (.int .i64 s) ∧ W.cell? ⟨gt, 1, none⟩ = some v3 :=
  ⟨⟨hb⟩, (blk_cell (blk_below h1 hb) 0).trans rfl, (blk_cell (blk_below h1 hb) 1).trans rfl, (blk_cell (blk_below h2 hb) 0).trans rfl, (blk_cell (blk_below h2 hb) 1).trans rfl, (blk_cell (blk_below h3 hb) 0).trans rfl, (blk_cell (blk_below h3 hb) 1).trans rfl⟩

set_option maxHeartbeats 8000000 in
set_option maxRecDepth 100000 in
theorem encodes_calls (p0 p1 s : Int) (A : Option Addr) (c : Nat) (l : List S48) (loc : Int) (w : World) (hr : Kd.C k48 w A l.length l) (hc : l.length ≤ c) (hm : l.length ≤ maxLen) :
    Calls Tryz.prog 3 #[.agg #[.int .i64 p0, .int .i64 p1], .agg #[.int .i64 s, .slice A l.length c], .int .i64 loc] w fun e w' => e = .returned (.bool true) ∧ Below w.heap.size w w' := by
  have hu48 := Tryz.underlying48
  have hu26 := Tryz.underlying26
  have hu24 := Tryz.underlying24
  have hu23 := Tryz.underlying23
  have hu49 := Tryz.underlying49
  have hn : l.length ≤ 9223372036854775807 := hr.2.1
  have HC := Aside0.mk hr
  have HM := Aside0.mk hm
  clear hr hm
  go_enter Tryz.func3, Tryz.ntmps3
  go_wp2_with fail
  refine (awake_calls _).mono ?_
  rintro e w1 ⟨rfl, hb1⟩
  have hb0 := blk_below (blk_alloc (heap_alloc_new w (.cells #[.int .i64 p0, .int .i64 p1] 23)) (.cells #[.int .i64 s, .slice A l.length c] 26)) hb1
  have hb2 : w1.heap[w.heap.size + 1]? = some (.cells #[.int .i64 s, .slice A l.length c] 26 (0, 0)) := by
    have := blk_below (heap_alloc_new (w.alloc (.cells #[.int .i64 p0, .int .i64 p1] 23)) (.cells #[.int .i64 s, .slice A l.length c] 26)) hb1
    simpa using this
  have HB : Aside0 (Below w.heap.size w w1) := ⟨below_step (below_alloc (below_alloc (Below.refl _ w) _) _) hb1⟩
  have t0 : w1.cell? ⟨w.heap.size + 1, 0, none⟩ = some (.int .i64 s) := (blk_cell hb2 0).trans rfl
  have t1 : w1.cell? ⟨w.heap.size + 1, 1, none⟩ = some (.slice A l.length c) := (blk_cell hb2 1).trans rfl
  have HS := Aside0.mk hb0
  have HT := Aside0.mk hb2
  clear hb1 hb0 hb2
  go_wp2_with fail
  refine (few_calls w1.heap.size s A l.length c _ (heap_alloc_new w1 _) HM.out).mono ?_
  rintro e w2 ⟨rfl, hb3⟩
  have HS2 := Aside0.mk (blk_below (blk_alloc HS.out (.cells #[.int .i64 s, .slice A l.length c] 26)) hb3)
  have HT2 := Aside0.mk (blk_below (blk_alloc HT.out (.cells #[.int .i64 s, .slice A l.length c] 26)) hb3)
  have HB2 : Aside0 (Below w.heap.size w w2) := ⟨below_step (below_alloc HB.out _) hb3⟩
  clear hb3 t0 t1 HT HS HB
  have s0 : w2.cell? ⟨w.heap.size, 0, none⟩ = some (.int .i64 p0) := (blk_cell HS2.out 0).trans rfl
  have s1 : w2.cell? ⟨w.heap.size, 1, none⟩ = some (.int .i64 p1) := (blk_cell HS2.out 1).trans rfl
  by_cases g1 : l.length ≤ 20
  rotate_left 1
  · have g1d : decide (l.length ≤ 20) = false := decide_eq_false g1
    go_wp2
    go_ret
    exact ⟨rfl, HB2.out⟩
  have g1d : decide (l.length ≤ 20) = true := decide_eq_true g1
  clear g1
  obtain ⟨r1, r2, r3, hN⟩ : ∃ r1 r2 r3, newF p0 p1 = (r1, r2, r3) := ⟨_, _, _, rfl⟩
  have HN := Aside0.mk hN
  clear hN
  go_wp2_with fail
  refine (Ext.New.calls p0 p1 r1 r2 r3 _ (congrArg some HN.out)).mono ?_
  rintro e w3 ⟨v1, rfl, hR1, hb3⟩
  obtain ⟨a1, c1, rfl, hc1, hC1⟩ := Kd.R_reads hR1
  have HO := Aside0.mk (Kd.C_alloc hC1 (.cells #[.int .i64 r1, .slice a1 r2.length c1] 26))
  have HU := Aside0.mk (heap_alloc_new w3 (.cells #[.int .i64 r1, .slice a1 r2.length c1] 26))
  have HT3 := Aside0.mk (blk_alloc (blk_below HT2.out hb3) (.cells #[.int .i64 r1, .slice a1 r2.length c1] 26))
  have HS3 := Aside0.mk (blk_alloc (blk_below HS2.out hb3) (.cells #[.int .i64 r1, .slice a1 r2.length c1] 26))
  have HB3 : Aside0 (Below w.heap.size w (w3.alloc (.cells #[.int .i64 r1, .slice a1 r2.length c1] 26))) := ⟨below_alloc (below_step HB2.out hb3) _⟩
  clear hR1 hb3 hC1 s0 s1 HT2 HS2 HB2
  have s0 : (w3.alloc (.cells #[.int .i64 r1, .slice a1 r2.length c1] 26)).cell? ⟨w.heap.size, 0, none⟩ = some (.int .i64 p0) := (blk_cell HS3.out 0).trans rfl
  have s1 : (w3.alloc (.cells #[.int .i64 r1, .slice a1 r2.length c1] 26)).cell? ⟨w.heap.size, 1, none⟩ = some (.int .i64 p1) := (blk_cell HS3.out 1).trans rfl
  go_wp2_with fail
  generalize w3.alloc (.cells #[.int .i64 r1, .slice a1 r2.length c1] 26) = w4 at HO HU HT3 HS3 HB3 s0 s1 ⊢
  generalize w3.heap.size = gu at HU ⊢
  refine (V.masterdiscref39_New.calls 20 p0 p1 r1 r2 r3 _ (by rw [rnew_K p0 p1 20 (by omega), HN.out])).mono ?_
  rintro e w5 ⟨v2, rfl, hR1, hb3⟩
  obtain ⟨a2, c2, rfl, hc2, hC1⟩ := Kd.R_reads hR1
  have HO5 := Aside0.mk (Kd.C_alloc (Kd.C_below HO.out hb3) (.cells #[.int .i64 r1, .slice a2 r2.length c2] 26))
  have HP5 := Aside0.mk (Kd.C_alloc hC1 (.cells #[.int .i64 r1, .slice a2 r2.length c2] 26))
  have HU5 := Aside0.mk (blk_alloc (blk_below HU.out hb3) (.cells #[.int .i64 r1, .slice a2 r2.length c2] 26))
  have HW5 := Aside0.mk (heap_alloc_new w5 (.cells #[.int .i64 r1, .slice a2 r2.length c2] 26))
  have HT5 := Aside0.mk (blk_alloc (blk_below HT3.out hb3) (.cells #[.int .i64 r1, .slice a2 r2.length c2] 26))
  have HB5 : Aside0 (Below w.heap.size w (w5.alloc (.cells #[.int .i64 r1, .slice a2 r2.length c2] 26))) := ⟨below_alloc (below_step HB3.out hb3) _⟩
  clear hR1 hb3 hC1 s0 s1 HO HU HT3 HS3 HB3
  have t0 : (w5.alloc (.cells #[.int .i64 r1, .slice a2 r2.length c2] 26)).cell? ⟨w.heap.size + 1, 0, none⟩ = some (.int .i64 s) := (blk_cell HT5.out 0).trans rfl
  have t1 : (w5.alloc (.cells #[.int .i64 r1, .slice a2 r2.length c2] 26)).cell? ⟨w.heap.size + 1, 1, none⟩ = some (.slice A l.length c) := (blk_cell HT5.out 1).trans rfl
  go_wp2_with fail
  generalize w5.alloc (.cells #[.int .i64 r1, .slice a2 r2.length c2] 26) = w6 at HO5 HP5 HU5 HW5 HT5 HB5 t0 t1 ⊢
  generalize w5.heap.size = gv at HW5 ⊢
  obtain ⟨e1, e2, hE⟩ : ∃ e1 e2, encF s l loc (blockB 0 1 loc (bodyF s l), 0) = (e1, e2) := ⟨_, _, rfl⟩
  have hbody : (bodyF s l).size ≤ 2032 ∨ validB s l = false := by
    cases hv : validB s l with
    | false => exact .inr rfl
    | true =>
      refine .inl ?_
      have h8 := ((validB_iff s l).1 hv).2.1
      have h1 := entries_size l (headF s l)
      have h2 := head_size s l
      unfold bodyF
      omega
  have HEN := encode_calls s A c l loc 20 (blockB 0 1 loc (bodyF s l), 0) (fun hv hw => block_prog 0 1 loc _ ⟨by omega, by omega, (word_iff loc).1 hw⟩ (hbody.resolve_right (by rw [hv]; decide)) 20 (by omega)) w6 (Kd.C_below HC.out HB5.out) hc
  rw [hE] at HEN
  refine HEN.mono ?_
  rintro e w7 ⟨rfl, hb7⟩
  have HO7 := Aside0.mk (Kd.C_below HO5.out hb7)
  have HP7 := Aside0.mk (Kd.C_below HP5.out hb7)
  have HU7 := Aside0.mk (blk_below HU5.out hb7)
  have HW7 := Aside0.mk (blk_below HW5.out hb7)
  have HT7 := Aside0.mk (blk_below HT5.out hb7)
  have HB7 := Aside0.mk (below_step HB5.out hb7)
  have HE := Aside0.mk hE
  clear hb7 hE HEN hbody t0 t1 HO5 HP5 HU5 HW5 HT5 HB5
  have t0 : w7.cell? ⟨w.heap.size + 1, 0, none⟩ = some (.int .i64 s) := (blk_cell HT7.out 0).trans rfl
  have t1 : w7.cell? ⟨w.heap.size + 1, 1, none⟩ = some (.slice A l.length c) := (blk_cell HT7.out 1).trans rfl
  obtain ⟨K, hK⟩ : ∃ K : Nat, 40000 ≤ K := ⟨_, Nat.le_refl _⟩
  have HK := Aside0.mk hK
  clear hK
  go_wp2_with fail
  refine (V.masterdiscref39_Encode.calls K s A c l loc e1 e2 _ (Kd.C_below HC.out HB7.out) hc (by rw [renc_K s l loc K HK.out, HE.out])).mono ?_
  rintro e w8 ⟨rfl, hb8⟩
  have HO8 := Aside0.mk (Kd.C_below HO7.out hb8)
  have HP8 := Aside0.mk (Kd.C_below HP7.out hb8)
  have HU8 := Aside0.mk (blk_below HU7.out hb8)
  have HW8 := Aside0.mk (blk_below HW7.out hb8)
  have HT8 := Aside0.mk (blk_below HT7.out hb8)
  have HB8 := Aside0.mk (below_step HB7.out hb8)
  clear hb8 t0 t1 HO7 HP7 HU7 HW7 HT7 HB7
  go_upto_region 9 with fail
  have h11 : ∀ W, Below w8.heap.size w8 W → Calls Tryz.prog 11 #[.agg #[.int .i64 r1, .slice a1 r2.length c1], .agg #[.int .i64 r1, .slice a2 r2.length c2]] W fun e w' => e = .returned (.bool true) ∧ Below W.heap.size W w' := fun W hb =>
    Ext.Same.calls r1 a1 c1 r2 r1 a2 c2 r2 true W (Kd.C_below HO8.out hb) hc1 (Kd.C_below HP8.out hb) hc2 (congrArg some (same_self r1 r2))
  have h12 : ∀ W, Below w8.heap.size w8 W → Calls Tryz.prog 12 #[.agg #[.int .i64 s, .slice A l.length c]] W fun e w' => e = .returned (.bool (validB s l)) ∧ Below W.heap.size W w' := fun W hb =>
    valid_calls s A c l W (Kd.C_below (Kd.C_below HC.out HB8.out) hb) hc
  have h13 : ∀ W, Below w8.heap.size w8 W → Calls Tryz.prog 13 #[.agg #[.int .i64 s, .slice A l.length c]] W fun e w' => e = .returned (.bool (validB s l)) ∧ Below W.heap.size W w' := fun W hb =>
    V.masterdiscref39_Valid.calls 200 s A c l _ W (Kd.C_below (Kd.C_below HC.out HB8.out) hb) hc (rvalid_K s l 200 (by omega))
  generalize validB s l = vb at h12 h13
  have H11 := Aside0.mk h11
  have H12 := Aside0.mk h12
  have H13 := Aside0.mk h13
  clear h11 h12 h13
  generalize Value.slice a1 r2.length c1 = v1 at HU8 H11
  generalize Value.slice a2 r2.length c2 = v2 at HW8 H11
  go_region_held3 (fun w' => Aside0 (Below w8.heap.size w8 w') ∧ w'.cell? ⟨gu, 0, none⟩ = some (.int .i64 r1) ∧ w'.cell? ⟨gu, 1, none⟩ = some v1 ∧ w'.cell? ⟨gv, 0, none⟩ = some (.int .i64 r1) ∧ w'.cell? ⟨gv, 1, none⟩ = some v2 ∧ w'.cell? ⟨w.heap.size + 1, 0, none⟩ = some (.int .i64 s) ∧ w'.cell? ⟨w.heap.size + 1, 1, none⟩ = some (.slice A l.length c))
    (first | exact held6 HU8.out HW8.out HT8.out (below_drew1 (Below.refl _ _)) | exact held6 HU8.out HW8.out HT8.out (below_step (Aside0.out (And.left ‹Aside0 (Below w8.heap.size w8 _) ∧ _›)) ‹Below _ _ _›))
    (first | (go_at_call 11; refine (H11.out _ (Aside0.out (And.left ‹Aside0 (Below w8.heap.size w8 _) ∧ _›))).mono ?_; rintro e w' ⟨rfl, hb⟩) | (go_at_call 12; refine (H12.out _ (Aside0.out (And.left ‹Aside0 (Below w8.heap.size w8 _) ∧ _›))).mono ?_; rintro e w' ⟨rfl, hb⟩) | (go_at_call 13; refine (H13.out _ (Aside0.out (And.left ‹Aside0 (Below w8.heap.size w8 _) ∧ _›))).mono ?_; rintro e w' ⟨rfl, hb⟩))
  all_goals
    go_wp2
    go_ret
    exact ⟨rfl, below_step HB8.out (Aside0.out (And.left ‹Aside0 (Below w8.heap.size w8 _) ∧ _›))⟩

end Go.Proofs.YtdepicgdbealpaaGreat.Spare
