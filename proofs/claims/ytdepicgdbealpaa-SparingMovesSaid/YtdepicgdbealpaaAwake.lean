/- The examples of the chapter: masterdisclaw39.awake returns true. -/
import Derived.Test.YtdepicgdbealpaaExt
namespace Go.Proofs.Ytdepicgdbealpaa.Spare
open Go.RowKit Go.Lib Go.Proofs.YtdepicgdbealpaaW.PrintWords Go.Proofs.YtdepicgdbealpaaW.PrintLast Go.Proofs.YtdepicgdbealpaaW.PrintMore
open Go.Proofs.Ytdepicgdbealpaa.V
open Go.Proofs.Ytdepicgdbealpaa

theorem C_blk {w : World} {g : Nat} {cs : Array Value} {l : List S42} (hg : w.heap[g]? = some (.cells cs 42 (0, 0))) (hl : Lies cs l) (hs : cs.size = l.length * 2) (hm : l.length ≤ maxLen) : Kd.C k42 w (some ⟨g, 0, none⟩) l.length l := by
  obtain ⟨A, c, he, _, hR⟩ := Kd.R_reads (own_R (own_mk (base := 0) (Nat.zero_le _) hg (Nat.le_refl _) hm hs hl))
  injection he with hA
  rw [hA]
  exact hR

def T1 : List S42 := [⟨4294967295, 600⟩, ⟨4294967295, 608⟩]
def T2 : List S42 := [⟨8, 600⟩, ⟨4294967295, 608⟩]
def T3 : List S42 := [⟨8, 608⟩]

theorem aw1 : newF 600 16 = (1, T1, 0) := by decide +kernel
theorem aw2 : replaceF 1 T1 11 = (2, T2, 600, 0) := by decide +kernel
theorem aw3 : replaceF 2 T2 15 = (3, T3, 608, 0) := by decide +kernel
theorem aw4 : lookF T2 257 100 11 = (603, 0) := by decide +kernel
theorem aw5 : validB 3 T3 = true := by decide +kernel

theorem same_self (s : Int) (l : List S42) : sameF s l s l = true := by simp [sameF]

set_option maxHeartbeats 4000000 in
set_option maxRecDepth 100000 in
theorem awake_calls (w : World) : Calls Try.prog 5 #[] w fun e w' => e = .returned (.bool true) ∧ Below w.heap.size w w' := by
  have hu42 := Try.underlying42
  have hu29 := Try.underlying29
  have hu27 := Try.underlying27
  have hu23 := Try.underlying23
  obtain ⟨t1, ht1⟩ : ∃ t, t = T1 := ⟨_, rfl⟩
  obtain ⟨t2, ht2⟩ : ∃ t, t = T2 := ⟨_, rfl⟩
  obtain ⟨t3, ht3⟩ : ∃ t, t = T3 := ⟨_, rfl⟩
  have A1 := aw1
  have A2 := aw2
  have A3 := aw3
  have A4 := aw4
  have A5 := aw5
  have K1 : Aside0 (t1 = [⟨4294967295, 600⟩, ⟨4294967295, 608⟩]) := ⟨ht1⟩
  have K2 : Aside0 (t2 = [⟨8, 600⟩, ⟨4294967295, 608⟩]) := ⟨ht2⟩
  have K3 : Aside0 (t3 = [⟨8, 608⟩]) := ⟨ht3⟩
  rw [← ht1] at A1 A2
  rw [← ht2] at A2 A3 A4
  rw [← ht3] at A3 A5
  clear ht1 ht2 ht3
  go_enter Try.func5, Try.ntmps5
  go_wp2_with fail
  refine (Ext.New.calls 600 16 1 t1 0 _ (congrArg some A1)).mono ?_
  rintro e w1 ⟨v1, rfl, hR1, hb1⟩
  obtain ⟨a1, c1, rfl, hc1, hC1⟩ := Kd.R_reads hR1
  have HB1 := Aside0.mk hb1
  have HC1 := Aside0.mk hC1
  clear hR1 hb1 hC1
  go_wp2_with fail
  refine (Ext.Replace.calls 1 _ _ t1 11 2 t2 600 0 _ (Kd.C_alloc HC1.out _) hc1 (congrArg some A2)).mono ?_
  rintro e w2 ⟨v2, rfl, hR2, hb2⟩
  have HX1 := Aside0.mk (blk_below (heap_alloc_new w1 (.cells #[.int .i64 1, .slice a1 t1.length c1] 29)) hb2)
  have HB2 : Aside0 (Below w.heap.size w w2) := ⟨below_step (below_alloc HB1.out _) hb2⟩
  have HC1' := Aside0.mk (Kd.C_below (Kd.C_alloc HC1.out _) hb2)
  obtain ⟨a2, c2, rfl, hc2, hC2⟩ := Kd.R_reads hR2
  have HC2 := Aside0.mk hC2
  clear hR2 hb2 hC2 HC1 HB1
  generalize w1.heap.size = b1 at HX1 ⊢
  go_wp2_with fail
  refine (Ext.Replace.calls 2 _ _ t2 15 3 t3 608 0 _ (Kd.C_alloc HC2.out _) hc2 (congrArg some A3)).mono ?_
  rintro e w3 ⟨v3, rfl, hR3, hb3⟩
  have HX1' := Aside0.mk (blk_below (blk_alloc HX1.out _) hb3)
  have HX2 := Aside0.mk (blk_below (heap_alloc_new w2 (.cells #[.int .i64 2, .slice a2 t2.length c2] 29)) hb3)
  have HB3 : Aside0 (Below w.heap.size w w3) := ⟨below_step (below_alloc HB2.out _) hb3⟩
  have HC1'' := Aside0.mk (Kd.C_below (Kd.C_alloc HC1'.out _) hb3)
  have HC2' := Aside0.mk (Kd.C_below (Kd.C_alloc HC2.out _) hb3)
  obtain ⟨a3, c3, rfl, hc3, hC3⟩ := Kd.R_reads hR3
  have HC3 := Aside0.mk hC3
  clear hR3 hb3 hC3 HC1' HC2 HB2 HX1
  generalize w2.heap.size = b2 at HX2 ⊢
  have h21 : (w3.alloc (.cells #[.int .i64 3, .slice a3 t3.length c3] 29)).cell? ⟨b2, 1, none⟩ = some (.slice a2 t2.length c2) := cell?_alloc_some _ ((blk_cell HX2.out 1).trans rfl)
  go_wp2_with fail
  refine (Ext.Lookup.calls _ _ t2 257 100 11 603 0 _ (Kd.C_alloc HC2'.out _) hc2 (congrArg some A4)).mono ?_
  rintro e w4 ⟨rfl, hb4⟩
  have HX1 := Aside0.mk (blk_below (blk_alloc HX1'.out _) hb4)
  have HX2' := Aside0.mk (blk_below (blk_alloc HX2.out _) hb4)
  have HX3 := Aside0.mk (blk_below (heap_alloc_new w3 (.cells #[.int .i64 3, .slice a3 t3.length c3] 29)) hb4)
  have HB4 : Aside0 (Below w.heap.size w w4) := ⟨below_step (below_alloc HB3.out _) hb4⟩
  have HC1 := Aside0.mk (Kd.C_below (Kd.C_alloc HC1''.out _) hb4)
  have HC2 := Aside0.mk (Kd.C_below (Kd.C_alloc HC2'.out _) hb4)
  have HC3' := Aside0.mk (Kd.C_below (Kd.C_alloc HC3.out _) hb4)
  clear hb4 h21 HX1' HX2 HB3 HC1'' HC2' HC3
  generalize w3.heap.size = b3 at HX3 ⊢
  have h10 : w4.cell? ⟨b1, 0, none⟩ = some (.int .i64 1) := (blk_cell HX1.out 0).trans rfl
  have h11 : w4.cell? ⟨b1, 1, none⟩ = some (.slice a1 t1.length c1) := (blk_cell HX1.out 1).trans rfl
  go_wp2_with fail
  refine (Ext.Same.calls 1 _ _ t1 1 (some ⟨w4.heap.size, 0, none⟩) 2 [⟨4294967295, 600⟩, ⟨4294967295, 608⟩] true _ (Kd.C_alloc HC1.out _) hc1 (C_blk (heap_alloc_new w4 _) (lies_of_take rfl) rfl (by decide)) (Nat.le_refl _) (congrArg some (by rw [K1.out]; exact same_self _ _))).mono ?_
  rintro e w5 ⟨rfl, hb5⟩
  have HX2 := Aside0.mk (blk_below (blk_alloc HX2'.out _) hb5)
  have HX3' := Aside0.mk (blk_below (blk_alloc HX3.out _) hb5)
  have HB5 : Aside0 (Below w.heap.size w w5) := ⟨below_step (below_alloc HB4.out _) hb5⟩
  have HC2' := Aside0.mk (Kd.C_below (Kd.C_alloc HC2.out _) hb5)
  have HC3 := Aside0.mk (Kd.C_below (Kd.C_alloc HC3'.out _) hb5)
  clear hb5 h10 h11 HX1 HX2' HX3 HB4 HC1 HC2 HC3'
  have h10 : w5.cell? ⟨b2, 0, none⟩ = some (.int .i64 2) := (blk_cell HX2.out 0).trans rfl
  have h11 : w5.cell? ⟨b2, 1, none⟩ = some (.slice a2 t2.length c2) := (blk_cell HX2.out 1).trans rfl
  go_wp2_with fail
  refine (Ext.Same.calls 2 _ _ t2 2 (some ⟨w5.heap.size, 0, none⟩) 2 [⟨8, 600⟩, ⟨4294967295, 608⟩] true _ (Kd.C_alloc HC2'.out _) hc2 (C_blk (heap_alloc_new w5 _) (lies_of_take rfl) rfl (by decide)) (Nat.le_refl _) (congrArg some (by rw [K2.out]; exact same_self _ _))).mono ?_
  rintro e w6 ⟨rfl, hb6⟩
  have HX3 := Aside0.mk (blk_below (blk_alloc HX3'.out _) hb6)
  have HB6 : Aside0 (Below w.heap.size w w6) := ⟨below_step (below_alloc HB5.out _) hb6⟩
  have HC3' := Aside0.mk (Kd.C_below (Kd.C_alloc HC3.out _) hb6)
  clear hb6 h10 h11 HX2 HX3' HB5 HC2' HC3
  have h10 : w6.cell? ⟨b3, 0, none⟩ = some (.int .i64 3) := (blk_cell HX3.out 0).trans rfl
  have h11 : w6.cell? ⟨b3, 1, none⟩ = some (.slice a3 t3.length c3) := (blk_cell HX3.out 1).trans rfl
  go_wp2_with fail
  refine (Ext.Same.calls 3 _ _ t3 3 (some ⟨w6.heap.size, 0, none⟩) 1 [⟨8, 608⟩] true _ (Kd.C_alloc HC3'.out _) hc3 (C_blk (heap_alloc_new w6 _) (lies_of_take rfl) rfl (by decide)) (Nat.le_refl _) (congrArg some (by rw [K3.out]; exact same_self _ _))).mono ?_
  rintro e w7 ⟨rfl, hb7⟩
  have HX3' := Aside0.mk (blk_below (blk_alloc HX3.out _) hb7)
  have HB7 : Aside0 (Below w.heap.size w w7) := ⟨below_step (below_alloc HB6.out _) hb7⟩
  have HC3 := Aside0.mk (Kd.C_below (Kd.C_alloc HC3'.out _) hb7)
  clear hb7 h10 h11 HX3 HB6 HC3'
  have h10 : w7.cell? ⟨b3, 0, none⟩ = some (.int .i64 3) := (blk_cell HX3'.out 0).trans rfl
  have h11 : w7.cell? ⟨b3, 1, none⟩ = some (.slice a3 t3.length c3) := (blk_cell HX3'.out 1).trans rfl
  go_wp2_with fail
  refine (Ext.Valid.calls 3 _ _ t3 true _ HC3.out hc3 (congrArg some A5)).mono ?_
  rintro e w8 ⟨rfl, hb8⟩
  go_wp2
  go_ret
  exact ⟨rfl, below_step HB7.out hb8⟩

end Go.Proofs.Ytdepicgdbealpaa.Spare
