/- The law SparingReplaces returns true. -/
import Derived.Test.YtdepicgdbealpaaGreatFew
import Derived.Test.YtdepicgdbealpaaGreatRefE
import Derived.Deep.CutBlock
import Derived.Deep.RegionHeld3
import Derived.Test.YtdepicgdbealpaaGreatWrites
namespace Go.Proofs.YtdepicgdbealpaaGreat.Spare
set_option linter.unusedVariables false
set_option linter.unusedSimpArgs false
open Go.RowKit Go.Lib Go.Proofs.YtdepicgdbealpaaGreatW.PrintWords Go.Proofs.YtdepicgdbealpaaGreatW.PrintLast Go.Proofs.YtdepicgdbealpaaGreatW.PrintMore
open Go.Proofs.YtdepicgdbealpaaGreat.V Go.Proofs.YtdepicgdbealpaaGreat.Enc
open Go.Proofs.YtdepicgdbealpaaGreat

set_option maxHeartbeats 8000000 in
set_option maxRecDepth 100000 in
theorem replaces_calls (s : Int) (A : Option Addr) (c : Nat) (l : List S48) (ps pc block : Int) (A3 : Option Addr) (c3 : Nat) (ls : List Int) (w : World) (hr : Kd.C k48 w A l.length l) (hc : l.length ≤ c) (hm : l.length ≤ maxLen)
    (hr3 : Kd.C (Kd.int .i64) w A3 ls.length ls) (hc3 : ls.length ≤ c3) (hbl : block ≤ 9223372036854775807) :
    Calls Tryz.prog 4 #[.agg #[.int .i64 s, .slice A l.length c], .agg #[.int .i64 ps, .int .i64 pc], .int .i64 block, .slice A3 ls.length c3] w fun e w' => e = .returned (.bool true) ∧ Below w.heap.size w w' := by
  have hu48 := Tryz.underlying48
  have hu26 := Tryz.underlying26
  have hu24 := Tryz.underlying24
  have hu23 := Tryz.underlying23
  have hu49 := Tryz.underlying49
  have hn : l.length ≤ 9223372036854775807 := hr.2.1
  have hn3 : ls.length ≤ 9223372036854775807 := hr3.2.1
  have HC := Aside0.mk hr
  have HC3 := Aside0.mk hr3
  have HM := Aside0.mk hm
  have HBL := Aside0.mk hbl
  clear hr hm hr3 hbl
  obtain ⟨K, hK⟩ : ∃ K : Nat, 60000 ≤ K := ⟨_, Nat.le_refl _⟩
  have HK := Aside0.mk hK
  clear hK
  go_enter Tryz.func4, Tryz.ntmps4
  go_wp2_with fail
  refine (awake_calls _).mono ?_
  rintro e w1 ⟨rfl, hb1⟩
  have hb0 := blk_below (blk_alloc (heap_alloc_new w (.cells #[.int .i64 s, .slice A l.length c] 26)) (.cells #[.int .i64 ps, .int .i64 pc] 23)) hb1
  have hb2 : w1.heap[w.heap.size + 1]? = some (.cells #[.int .i64 ps, .int .i64 pc] 23 (0, 0)) := by
    have := blk_below (heap_alloc_new (w.alloc (.cells #[.int .i64 s, .slice A l.length c] 26)) (.cells #[.int .i64 ps, .int .i64 pc] 23)) hb1
    simpa using this
  have HB : Aside0 (Below w.heap.size w w1) := ⟨below_step (below_alloc (below_alloc (Below.refl _ w) _) _) hb1⟩
  have t0 : w1.cell? ⟨w.heap.size, 0, none⟩ = some (.int .i64 s) := (blk_cell hb0 0).trans rfl
  have t1 : w1.cell? ⟨w.heap.size, 1, none⟩ = some (.slice A l.length c) := (blk_cell hb0 1).trans rfl
  have HT := Aside0.mk hb0
  have HS := Aside0.mk hb2
  clear hb1 hb0 hb2
  go_wp2_with fail
  refine (few_calls w1.heap.size s A l.length c _ (heap_alloc_new w1 _) HM.out).mono ?_
  rintro e w2 ⟨rfl, hb3⟩
  have HT2 := Aside0.mk (blk_below (blk_alloc HT.out (.cells #[.int .i64 s, .slice A l.length c] 26)) hb3)
  have HS2 := Aside0.mk (blk_below (blk_alloc HS.out (.cells #[.int .i64 s, .slice A l.length c] 26)) hb3)
  have HB2 : Aside0 (Below w.heap.size w w2) := ⟨below_step (below_alloc HB.out _) hb3⟩
  clear hb3 t0 t1 HT HS HB
  by_cases g1 : l.length ≤ 20
  rotate_left 1
  · have g1d : decide (l.length ≤ 20) = false := decide_eq_false g1
    go_wp2
    go_ret
    exact ⟨rfl, HB2.out⟩
  have g1d : decide (l.length ≤ 20) = true := decide_eq_true g1
  by_cases g2 : (ls.length : Int) > 6
  · have g2d : decide ((ls.length : Int) > 6) = true := decide_eq_true g2
    go_wp2
    go_ret
    exact ⟨rfl, HB2.out⟩
  have g2d : decide ((ls.length : Int) > 6) = false := decide_eq_false g2
  have HG := Aside0.mk (And.intro g1 g2)
  clear g1 g2
  have t1 : w2.cell? ⟨w.heap.size, 1, none⟩ = some (.slice A l.length c) := (blk_cell HT2.out 1).trans rfl
  have s0 : w2.cell? ⟨w.heap.size + 1, 0, none⟩ = some (.int .i64 ps) := (blk_cell HS2.out 0).trans rfl
  have s1 : w2.cell? ⟨w.heap.size + 1, 1, none⟩ = some (.int .i64 pc) := (blk_cell HS2.out 1).trans rfl
  obtain ⟨x1, x2, hL⟩ : ∃ x1 x2, lookF l ps pc block = (x1, x2) := ⟨_, _, rfl⟩
  have HL := Aside0.mk hL
  clear hL
  go_wp2_with fail
  refine (Ext.Lookup.calls A c l ps pc block x1 x2 _ (Kd.C_below HC.out HB2.out) hc (congrArg some HL.out)).mono ?_
  rintro e w3 ⟨rfl, hb3⟩
  have HT3 := Aside0.mk (blk_below HT2.out hb3)
  have HS3 := Aside0.mk (blk_below HS2.out hb3)
  have HB3 := Aside0.mk (below_step HB2.out hb3)
  clear hb3 t1 s0 s1 HT2 HS2 HB2
  have t1 : w3.cell? ⟨w.heap.size, 1, none⟩ = some (.slice A l.length c) := (blk_cell HT3.out 1).trans rfl
  have s0 : w3.cell? ⟨w.heap.size + 1, 0, none⟩ = some (.int .i64 ps) := (blk_cell HS3.out 0).trans rfl
  have s1 : w3.cell? ⟨w.heap.size + 1, 1, none⟩ = some (.int .i64 pc) := (blk_cell HS3.out 1).trans rfl
  go_wp2_with fail
  refine (V.masterdiscref39_Lookup.calls K A c l ps pc block x1 x2 _ (Kd.C_below HC.out HB3.out) hc (by rw [rlook_K l ps pc block HBL.out hn K (by have := HK.out; have := HG.out; omega), HL.out])).mono ?_
  rintro e w4 ⟨rfl, hb3⟩
  have HT4 := Aside0.mk (blk_below HT3.out hb3)
  have HB4 := Aside0.mk (below_step HB3.out hb3)
  clear hb3 t1 s0 s1 HT3 HS3 HB3
  have t0 : w4.cell? ⟨w.heap.size, 0, none⟩ = some (.int .i64 s) := (blk_cell HT4.out 0).trans rfl
  have t1 : w4.cell? ⟨w.heap.size, 1, none⟩ = some (.slice A l.length c) := (blk_cell HT4.out 1).trans rfl
  obtain ⟨r1, r2, r3, r4, hrep⟩ : ∃ r1 r2 r3 r4, replaceF s l block = (r1, r2, r3, r4) := ⟨_, _, _, _, rfl⟩
  have HR := Aside0.mk hrep
  clear hrep
  go_wp2_with fail
  refine (Ext.Replace.calls s A c l block r1 r2 r3 r4 _ (Kd.C_below HC.out HB4.out) hc (congrArg some HR.out)).mono ?_
  rintro e w5 ⟨v1, rfl, hR1, hb3⟩
  obtain ⟨a1, c1, rfl, hc1, hC1⟩ := Kd.R_reads hR1
  have HO := Aside0.mk (Kd.C_alloc hC1 (.cells #[.int .i64 r1, .slice a1 r2.length c1] 26))
  have HU := Aside0.mk (heap_alloc_new w5 (.cells #[.int .i64 r1, .slice a1 r2.length c1] 26))
  have HT5 := Aside0.mk (blk_alloc (blk_below HT4.out hb3) (.cells #[.int .i64 r1, .slice a1 r2.length c1] 26))
  have HB5 : Aside0 (Below w.heap.size w (w5.alloc (.cells #[.int .i64 r1, .slice a1 r2.length c1] 26))) := ⟨below_alloc (below_step HB4.out hb3) _⟩
  clear hR1 hb3 hC1 t0 t1 HT4 HB4
  have t0 : (w5.alloc (.cells #[.int .i64 r1, .slice a1 r2.length c1] 26)).cell? ⟨w.heap.size, 0, none⟩ = some (.int .i64 s) := (blk_cell HT5.out 0).trans rfl
  have t1 : (w5.alloc (.cells #[.int .i64 r1, .slice a1 r2.length c1] 26)).cell? ⟨w.heap.size, 1, none⟩ = some (.slice A l.length c) := (blk_cell HT5.out 1).trans rfl
  go_wp2_with fail
  generalize w5.alloc (.cells #[.int .i64 r1, .slice a1 r2.length c1] 26) = w6 at HO HU HT5 HB5 t0 t1 ⊢
  generalize w5.heap.size = gu at HU ⊢
  refine (V.masterdiscref39_Replace.calls K s A c l block r1 r2 r3 r4 _ (Kd.C_below HC.out HB5.out) hc (by rw [rrep_K s l block K (by have := HK.out; omega), HR.out])).mono ?_
  rintro e w7 ⟨v2, rfl, hR1, hb3⟩
  obtain ⟨a2, c2, rfl, hc2, hC1⟩ := Kd.R_reads hR1
  have HO7 := Aside0.mk (Kd.C_alloc (Kd.C_below HO.out hb3) (.cells #[.int .i64 r1, .slice a2 r2.length c2] 26))
  have HP7 := Aside0.mk (Kd.C_alloc hC1 (.cells #[.int .i64 r1, .slice a2 r2.length c2] 26))
  have HU7 := Aside0.mk (blk_alloc (blk_below HU.out hb3) (.cells #[.int .i64 r1, .slice a2 r2.length c2] 26))
  have HW7 := Aside0.mk (heap_alloc_new w7 (.cells #[.int .i64 r1, .slice a2 r2.length c2] 26))
  have HT7 := Aside0.mk (blk_alloc (blk_below HT5.out hb3) (.cells #[.int .i64 r1, .slice a2 r2.length c2] 26))
  have HB7 : Aside0 (Below w.heap.size w (w7.alloc (.cells #[.int .i64 r1, .slice a2 r2.length c2] 26))) := ⟨below_alloc (below_step HB5.out hb3) _⟩
  clear hR1 hb3 hC1 t0 t1 HO HU HT5 HB5
  have t0 : (w7.alloc (.cells #[.int .i64 r1, .slice a2 r2.length c2] 26)).cell? ⟨w.heap.size, 0, none⟩ = some (.int .i64 s) := (blk_cell HT7.out 0).trans rfl
  have t1 : (w7.alloc (.cells #[.int .i64 r1, .slice a2 r2.length c2] 26)).cell? ⟨w.heap.size, 1, none⟩ = some (.slice A l.length c) := (blk_cell HT7.out 1).trans rfl
  go_wp2_with fail
  generalize w7.alloc (.cells #[.int .i64 r1, .slice a2 r2.length c2] 26) = w8 at HO7 HP7 HU7 HW7 HT7 HB7 t0 t1 ⊢
  generalize w7.heap.size = gv at HW7 ⊢
  obtain ⟨u1, u2, hUP⟩ : ∃ u1 u2, updF s l ls = (u1, u2) := ⟨_, _, rfl⟩
  have hul : u1.length ≤ 6 ∧ ∀ x ∈ u1, x.f1.length ≤ 1 := by
    have e : u1 = (updF s l ls).1 := by rw [hUP]
    rw [e]
    unfold updF
    split
    · have h1 := updL_len s l ls []
      have h2 := HG.out.2
      exact ⟨by simp at h1; omega, updL_one s l ls [] (fun x hx => by cases hx)⟩
    · exact ⟨by simp, fun x hx => by cases hx⟩
  have HUP := Aside0.mk hUP
  have HUL := Aside0.mk hul
  clear hUP hul
  have hls : ls.length ≤ 1000 := by have := HG.out.2; omega
  have HLS := Aside0.mk hls
  clear hls
  refine (U.sparing_Update.calls K s A c l A3 c3 ls u1 u2 _ (Kd.C_below HC.out HB7.out) hc (Kd.C_below HC3.out HB7.out) hc3 (by rw [pupd_K s l ls HLS.out K (by have := HK.out; omega), HUP.out])).mono ?_
  rintro e w9 ⟨v3, rfl, hR1, hb3⟩
  obtain ⟨a3, c4, rfl, hc4, hC1⟩ := Kd.S_reads hR1
  have HO9 := Aside0.mk (Kd.C_below HO7.out hb3)
  have HP9 := Aside0.mk (Kd.C_below HP7.out hb3)
  have HX9 := Aside0.mk hC1
  have HU9 := Aside0.mk (blk_below HU7.out hb3)
  have HW9 := Aside0.mk (blk_below HW7.out hb3)
  have HT9 := Aside0.mk (blk_below HT7.out hb3)
  have HB9 := Aside0.mk (below_step HB7.out hb3)
  clear hR1 hb3 hC1 t0 t1 HO7 HP7 HU7 HW7 HT7 HB7
  have t0 : w9.cell? ⟨w.heap.size, 0, none⟩ = some (.int .i64 s) := (blk_cell HT9.out 0).trans rfl
  have t1 : w9.cell? ⟨w.heap.size, 1, none⟩ = some (.slice A l.length c) := (blk_cell HT9.out 1).trans rfl
  go_wp2_with fail
  refine (V.masterdiscref39_Update.calls K s A c l A3 c3 ls u1 u2 _ (Kd.C_below HC.out HB9.out) hc (Kd.C_below HC3.out HB9.out) hc3 (by rw [rupd_K s l ls HLS.out K HK.out, HUP.out])).mono ?_
  rintro e w10 ⟨v4, rfl, hR1, hb3⟩
  obtain ⟨a4, c5, rfl, hc5, hC1⟩ := Kd.S_reads hR1
  have HO10 := Aside0.mk (Kd.C_below HO9.out hb3)
  have HP10 := Aside0.mk (Kd.C_below HP9.out hb3)
  have HX10 := Aside0.mk (Kd.C_below HX9.out hb3)
  have HY10 := Aside0.mk hC1
  have HU10 := Aside0.mk (blk_below HU9.out hb3)
  have HW10 := Aside0.mk (blk_below HW9.out hb3)
  have HB10 := Aside0.mk (below_step HB9.out hb3)
  clear hR1 hb3 hC1 t0 t1 HO9 HP9 HX9 HU9 HW9 HT9 HB9
  go_upto_region 11 with fail
  have h11 : ∀ W, Below w10.heap.size w10 W → Calls Tryz.prog 11 #[.agg #[.int .i64 r1, .slice a1 r2.length c1], .agg #[.int .i64 r1, .slice a2 r2.length c2]] W fun e w' => e = .returned (.bool true) ∧ Below W.heap.size W w' := fun W hb =>
    Ext.Same.calls r1 a1 c1 r2 r1 a2 c2 r2 true W (Kd.C_below HO10.out hb) hc1 (Kd.C_below HP10.out hb) hc2 (congrArg some (same_self r1 r2))
  have h20 : ∀ W, Below w10.heap.size w10 W → Calls Tryz.prog 20 #[.slice a3 u1.length c4, .slice a4 u1.length c5] W fun e w' => e = .returned (.bool true) ∧ Below W.heap.size W w' := fun W hb =>
    U.masterdiscref39_Writes.calls K a3 c4 u1 a4 c5 u1 true W (Kd.C_below HX10.out hb) hc4 (Kd.C_below HY10.out hb) hc5 (wr_K u1 (by have := HUL.out.1; omega) HUL.out.2 K (by have := HK.out; omega))
  have H11 := Aside0.mk h11
  have H20 := Aside0.mk h20
  clear h11 h20
  generalize Value.slice a1 r2.length c1 = v1 at HU10 H11
  generalize Value.slice a2 r2.length c2 = v2 at HW10 H11
  have g0 : w10.cell? ⟨gu, 0, none⟩ = some (.int .i64 r1) := (blk_cell HU10.out 0).trans rfl
  have g1 : w10.cell? ⟨gu, 1, none⟩ = some v1 := (blk_cell HU10.out 1).trans rfl
  have g2 : w10.cell? ⟨gv, 0, none⟩ = some (.int .i64 r1) := (blk_cell HW10.out 0).trans rfl
  have g3 : w10.cell? ⟨gv, 1, none⟩ = some v2 := (blk_cell HW10.out 1).trans rfl
  go_wp2_with (first | (go_at_call 11; refine (H11.out _ (Below.refl _ _)).mono ?_; rintro e w11 ⟨rfl, hb11⟩) | (go_at_call 20; refine (H20.out _ hb11).mono ?_; rintro e w12 ⟨rfl, hb12⟩))
  go_ret
  exact ⟨rfl, below_step (below_step HB10.out hb11) hb12⟩

end Go.Proofs.YtdepicgdbealpaaGreat.Spare
