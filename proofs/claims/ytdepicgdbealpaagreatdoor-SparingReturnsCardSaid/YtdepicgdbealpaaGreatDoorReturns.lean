/- The law SparingReturns returns true. -/
import Derived.Test.YtdepicgdbealpaaGreatDoorRt
import Derived.Test.YtdepicgdbealpaaGreatDoorFew
import Derived.Test.YtdepicgdbealpaaGreatDoorAwake
namespace Go.Proofs.YtdepicgdbealpaaGreatDoor.Enc
set_option linter.unusedVariables false
set_option linter.unusedSimpArgs false
open Go.RowKit Go.Lib Go.Proofs.YtdepicgdbealpaaGreatDoorW.PrintWords Go.Proofs.YtdepicgdbealpaaGreatDoorW.PrintLast Go.Proofs.YtdepicgdbealpaaGreatDoorW.PrintMore
open Go.Proofs.YtdepicgdbealpaaGreatDoor Go.Proofs.YtdepicgdbealpaaGreatDoor.V Go.Proofs.YtdepicgdbealpaaGreatDoor.Spare

theorem encG_ok (s : Int) (l : List S54) (loc : Int) (hv : validB s l = true) (hw : wordB loc = true) : encG s l loc = (blockB 0 1 loc (bodyF s l), 0) := by
 unfold encG encF
 rw [if_pos hv, if_pos hw]
theorem encG_no (s : Int) (l : List S54) (loc : Int) (h : ¬ (validB s l = true ∧ wordB loc = true)) : (encG s l loc).1 = ⟨#[]⟩ ∧ (encG s l loc).2 ≠ 0 := by
 unfold encG encF
 by_cases hv : validB s l = true
 ·rw [if_pos hv, if_neg (fun hw => h ⟨hv, hw⟩)]
  exact ⟨rfl, by decide⟩
 ·rw [if_neg hv]
  exact ⟨rfl, by decide⟩

set_option maxHeartbeats 8000000 in
set_option maxRecDepth 100000 in
theorem returns_calls (s : Int) (A : Option Addr) (c : Nat) (l : List S54) (loc m : Int) (w : World) (hm : w.cell? ⟨0, 0, none⟩ = some (.int .i64 m)) (hr : Kd.C k54 w A l.length l) (hc : l.length ≤ c) (hml : l.length ≤ maxLen) :
  Calls Tryz.prog 3 #[.agg #[.int .i64 s, .slice A l.length c], .int .i64 loc] w fun e w' => e = .returned (.bool true) ∧ Below w.heap.size w w' := by
 have hu54 := Tryz.underlying54
 have hu24 := Tryz.underlying24
 have hu22 := Tryz.underlying22
 have hn : l.length ≤ 9223372036854775807 := hr.2.1
 have HC := Aside0.mk hr
 have HM := Aside0.mk hml
 have HMX := Aside0.mk hm
 clear hr hml hm
 go_enter Tryz.func3, Tryz.ntmps3
 go_wp2_with fail
 refine (awake_calls _).mono ?_
 rintro e w1 ⟨rfl, hb1⟩
 have hb0 := blk_below (heap_alloc_new w (.cells #[.int .i64 s, .slice A l.length c] 24)) hb1
 have HB : Aside0 (Below w.heap.size w w1) := ⟨below_step (below_alloc (Below.refl _ w) _) hb1⟩
 have t0 : w1.cell? ⟨w.heap.size, 0, none⟩ = some (.int .i64 s) := (blk_cell hb0 0).trans rfl
 have t1 : w1.cell? ⟨w.heap.size, 1, none⟩ = some (.slice A l.length c) := (blk_cell hb0 1).trans rfl
 have HT := Aside0.mk hb0
 clear hb1 hb0
 go_wp2_with fail
 refine (few_calls w1.heap.size s A l.length c _ (heap_alloc_new w1 _) HM.out).mono ?_
 rintro e w2 ⟨rfl, hb3⟩
 have HT2 := Aside0.mk (blk_below (blk_alloc HT.out (.cells #[.int .i64 s, .slice A l.length c] 24)) hb3)
 have HB2 : Aside0 (Below w.heap.size w w2) := ⟨below_step (below_alloc HB.out _) hb3⟩
 clear hb3 t0 t1 HT HB
 by_cases g1 : l.length ≤ 20
 rotate_left 1
 ·have g1d : decide (l.length ≤ 20) = false := decide_eq_false g1
  go_wp2
  go_ret
  exact ⟨rfl, HB2.out⟩
 have g1d : decide (l.length ≤ 20) = true := decide_eq_true g1
 have HG := Aside0.mk g1
 clear g1
 have t0 : w2.cell? ⟨w.heap.size, 0, none⟩ = some (.int .i64 s) := (blk_cell HT2.out 0).trans rfl
 have t1 : w2.cell? ⟨w.heap.size, 1, none⟩ = some (.slice A l.length c) := (blk_cell HT2.out 1).trans rfl
 obtain ⟨x1, x2, hX⟩ : ∃ x1 x2, encG s l loc = (x1, x2) := ⟨_, _, rfl⟩
 have HX := Aside0.mk hX
 clear hX
 go_wp2_with fail
 refine (Encode.calls s A c l loc x1 x2 _ (Kd.C_below HC.out HB2.out) hc (congrArg some HX.out)).mono ?_
 rintro e w3 ⟨rfl, hb3⟩
 have HT3 := Aside0.mk (blk_below HT2.out hb3)
 have HB3 := Aside0.mk (below_step HB2.out hb3)
 clear hb3 t0 t1 HT2 HB2
 by_cases ok : validB s l = true ∧ wordB loc = true
 rotate_left 1
 ·have hno := encG_no s l loc ok
  rw [HX.out] at hno
  obtain ⟨rfl, h2⟩ : x1 = ⟨#[]⟩ ∧ x2 ≠ 0 := hno
  have h2d : (x2 != 0) = true := bne_iff_ne.2 h2
  clear h2 ok HX
  go_wp2
  go_ret
  exact ⟨rfl, HB3.out⟩
 obtain ⟨hv, hw⟩ := ok
 have hyes := encG_ok s l loc hv hw
 rw [HX.out] at hyes
 obtain ⟨rfl, rfl⟩ : x1 = blockB 0 1 loc (bodyF s l) ∧ x2 = 0 := ⟨congrArg Prod.fst hyes, congrArg Prod.snd hyes⟩
 obtain ⟨b1, b2, b3, b4, b5, b6, b7⟩ := block_read s loc l hv hw
 have h8 : l.length ≤ 8 := ((validB_iff s l).1 hv).2.1
 have hloc := (word_iff loc).1 hw
 have b3' := b3 (loc + 1) (by omega)
 clear HX hyes b3 HG
 generalize blockB 0 1 loc (bodyF s l) = blk at *
 have HD := Aside0.mk (fun W hm => decode_good blk loc m l.length W hm b1 b2 b4 b5 h8 (by rw [b6, b7]; exact hv))
 rw [b6, b7] at HD
 have HE := Aside0.mk (fun W => decode_bad blk (loc + 1) W (by omega) (Or.inr b3'))
 have HV := Aside0.mk hv
 have h48 : ((blk.size : Int) == 2048) = true := by rw [b1]; rfl
 have hz : blk.size ≤ 9223372036854775807 := by omega
 clear b1 b2 b3' b4 b5 b6 b7 hv hw
 go_wp2_with fail
 refine (HD.out _ (pw_cell_below HB3.out HMX.out)).mono ?_
 rintro e w4 ⟨v, rfl, hR, hb4⟩
 obtain ⟨A2, c2, rfl, hc2, hC2⟩ := Kd.R_reads hR
 have HT4 := Aside0.mk (blk_alloc (blk_below HT3.out hb4) (.cells #[.int .i64 s, .slice A2 l.length c2] 24))
 have HU4 := Aside0.mk (heap_alloc_new w4 (.cells #[.int .i64 s, .slice A2 l.length c2] 24))
 have HO4 := Aside0.mk (Kd.C_alloc hC2 (.cells #[.int .i64 s, .slice A2 l.length c2] 24))
 have HB4 := Aside0.mk (below_alloc (below_step HB3.out hb4) (.cells #[.int .i64 s, .slice A2 l.length c2] 24))
 clear hR hb4 hC2 HT3 HB3 HD
 go_wp2_with fail
 generalize w4.alloc (.cells #[.int .i64 s, .slice A2 l.length c2] 24) = w5 at HT4 HU4 HO4 HB4 ⊢
 generalize w4.heap.size = gu at HU4 ⊢
 refine (HE.out _).mono ?_
 rintro e w6 ⟨rfl, hb6⟩
 have HT6 := Aside0.mk (blk_alloc (blk_below HT4.out hb6) (.cells #[.int .i64 0, .slice none 0 0] 24))
 have HU6 := Aside0.mk (blk_alloc (blk_below HU4.out hb6) (.cells #[.int .i64 0, .slice none 0 0] 24))
 have HO6 := Aside0.mk (Kd.C_alloc (Kd.C_below HO4.out hb6) (.cells #[.int .i64 0, .slice none 0 0] 24))
 have HB6 := Aside0.mk (below_alloc (below_step HB4.out hb6) (.cells #[.int .i64 0, .slice none 0 0] 24))
 clear hb6 HT4 HU4 HO4 HB4 HE
 have t0 : (w6.alloc (.cells #[.int .i64 0, .slice none 0 0] 24)).cell? ⟨w.heap.size, 0, none⟩ = some (.int .i64 s) := (blk_cell HT6.out 0).trans rfl
 have t1 : (w6.alloc (.cells #[.int .i64 0, .slice none 0 0] 24)).cell? ⟨w.heap.size, 1, none⟩ = some (.slice A l.length c) := (blk_cell HT6.out 1).trans rfl
 have u0 : (w6.alloc (.cells #[.int .i64 0, .slice none 0 0] 24)).cell? ⟨gu, 0, none⟩ = some (.int .i64 s) := (blk_cell HU6.out 0).trans rfl
 have u1 : (w6.alloc (.cells #[.int .i64 0, .slice none 0 0] 24)).cell? ⟨gu, 1, none⟩ = some (.slice A2 l.length c2) := (blk_cell HU6.out 1).trans rfl
 go_wp2_with fail
 generalize w6.alloc (.cells #[.int .i64 0, .slice none 0 0] 24) = w7 at HT6 HU6 HO6 HB6 t0 t1 u0 u1 ⊢
 refine (Ext.Same.calls s A2 c2 l s A c l true _ HO6.out hc2 (Kd.C_below HC.out HB6.out) hc (congrArg some (same_self s l))).mono ?_
 rintro e w8 ⟨rfl, hb8⟩
 have HT8 := Aside0.mk (blk_below HT6.out hb8)
 have HB8 := Aside0.mk (below_step HB6.out hb8)
 clear hb8 t0 t1 u0 u1 HT6 HU6 HO6 HB6
 have t0 : w8.cell? ⟨w.heap.size, 0, none⟩ = some (.int .i64 s) := (blk_cell HT8.out 0).trans rfl
 have t1 : w8.cell? ⟨w.heap.size, 1, none⟩ = some (.slice A l.length c) := (blk_cell HT8.out 1).trans rfl
 go_wp2_with fail
 refine (Ext.Valid.calls s A c l true _ (Kd.C_below HC.out HB8.out) hc (congrArg some HV.out)).mono ?_
 rintro e w9 ⟨rfl, hb9⟩
 have HB9 := Aside0.mk (below_step HB8.out hb9)
 clear hb9 t0 t1
 go_wp2
 go_ret
 exact ⟨rfl, HB9.out⟩
end Go.Proofs.YtdepicgdbealpaaGreatDoor.Enc
