/- The contracts, as the printed texts call them. -/
import Derived.Test.YtdepicgdbealpaaGreatDoorSpareD
import Derived.Test.YtdepicgdbealpaaGreatDoorClosed
namespace Go.Proofs.YtdepicgdbealpaaGreatDoor.Ext
set_option linter.unusedVariables false
set_option linter.unusedSimpArgs false
open Go.RowKit Go.Proofs.YtdepicgdbealpaaGreatDoorW.PrintWords Go.Proofs.YtdepicgdbealpaaGreatDoorW.PrintLast Go.Proofs.YtdepicgdbealpaaGreatDoorW.PrintMore
open Go.Proofs.YtdepicgdbealpaaGreatDoor.V (S54 z54 k54)
open Go.Proofs.YtdepicgdbealpaaGreatDoor.Spare

def New.f (a0_0 a0_1 : Int) : Option (Int × List S54 × Int) := some (newF a0_0 a0_1)
theorem New.calls (a0_0 : Int) (a0_1 : Int) (r1 : Int) (r2 : List S54) (r3 : Int) (w : World) (h : New.f a0_0 a0_1 = some (r1, r2, r3)) :
  Calls Tryz.prog 14 #[.agg #[.int .i64 a0_0, .int .i64 a0_1]] w fun e w' => ∃ v1_ : Value, e = .returned (.tuple #[.agg #[.int .i64 r1, v1_], .int .i64 r3]) ∧ Kd.R k54 54 w' w.heap.size (fun _ => True) v1_ r2 ∧ Below w.heap.size w w' :=
 V.sparing_New.calls 20 a0_0 a0_1 r1 r2 r3 w ((new_is a0_0 a0_1).trans h)

def Replace.f (a0_0 : Int) (l0_1 : List S54) (a1 : Int) : Option (Int × List S54 × Int × Int) := some (replaceF a0_0 l0_1 a1)
theorem Replace.calls (a0_0 : Int) (A0_1 : Option Addr) (c0_1 : Nat) (l0_1 : List S54) (a1 : Int) (r1 : Int) (r2 : List S54) (r3 : Int) (r4 : Int) (w : World) (hr0_1 : Kd.C k54 w A0_1 l0_1.length l0_1) (hc0_1 : l0_1.length ≤ c0_1) (h : Replace.f a0_0 l0_1 a1 = some (r1, r2, r3, r4)) :
  Calls Tryz.prog 11 #[.agg #[.int .i64 a0_0, .slice A0_1 l0_1.length c0_1], .int .i64 a1] w fun e w' => ∃ v1_ : Value, e = .returned (.tuple #[.agg #[.int .i64 r1, v1_], .int .i64 r3, .int .i64 r4]) ∧ Kd.R k54 54 w' w.heap.size (fun _ => True) v1_ r2 ∧ Below w.heap.size w w' := by
 have := replace_calls a0_0 A0_1 c0_1 l0_1 a1 w hr0_1 hc0_1
 rw [show replaceF a0_0 l0_1 a1 = (r1, r2, r3, r4) from Option.some.inj h] at this
 exact this

def Valid.f (a0_0 : Int) (l0_1 : List S54) : Option Bool := some (validB a0_0 l0_1)
theorem Valid.calls (a0_0 : Int) (A0_1 : Option Addr) (c0_1 : Nat) (l0_1 : List S54) (r : Bool) (w : World) (hr0_1 : Kd.C k54 w A0_1 l0_1.length l0_1) (hc0_1 : l0_1.length ≤ c0_1) (h : Valid.f a0_0 l0_1 = some r) :
  Calls Tryz.prog 10 #[.agg #[.int .i64 a0_0, .slice A0_1 l0_1.length c0_1]] w fun e w' => e = .returned (.bool r) ∧ Below w.heap.size w w' := by
 rw [← Option.some.inj h]
 exact valid_calls a0_0 A0_1 c0_1 l0_1 w hr0_1 hc0_1

def Lookup.f (l0 : List S54) (a1_0 a1_1 a2 : Int) : Option (Int × Int) := some (lookF l0 a1_0 a1_1 a2)
theorem Lookup.calls (A0 : Option Addr) (c0 : Nat) (l0 : List S54) (a1_0 : Int) (a1_1 : Int) (a2 : Int) (r1 : Int) (r2 : Int) (w : World) (hr0 : Kd.C k54 w A0 l0.length l0) (hc0 : l0.length ≤ c0) (h : Lookup.f l0 a1_0 a1_1 a2 = some (r1, r2)) :
  Calls Tryz.prog 15 #[.slice A0 l0.length c0, .agg #[.int .i64 a1_0, .int .i64 a1_1], .int .i64 a2] w fun e w' => e = .returned (.tuple #[.int .i64 r1, .int .i64 r2]) ∧ Below w.heap.size w w' :=
 V.sparing_Lookup.calls _ A0 c0 l0 a1_0 a1_1 a2 r1 r2 w hr0 hc0 ((look_is l0 a1_0 a1_1 a2 hr0.2.1).trans h)

def Same.f (a0_0 : Int) (l0_1 : List S54) (a1_0 : Int) (l1_1 : List S54) : Option Bool := some (sameF a0_0 l0_1 a1_0 l1_1)
theorem Same.calls (a0_0 : Int) (A0_1 : Option Addr) (c0_1 : Nat) (l0_1 : List S54) (a1_0 : Int) (A1_1 : Option Addr) (c1_1 : Nat) (l1_1 : List S54) (r : Bool) (w : World) (hr0_1 : Kd.C k54 w A0_1 l0_1.length l0_1) (hc0_1 : l0_1.length ≤ c0_1) (hr1_1 : Kd.C k54 w A1_1 l1_1.length l1_1) (hc1_1 : l1_1.length ≤ c1_1) (h : Same.f a0_0 l0_1 a1_0 l1_1 = some r) :
  Calls Tryz.prog 9 #[.agg #[.int .i64 a0_0, .slice A0_1 l0_1.length c0_1], .agg #[.int .i64 a1_0, .slice A1_1 l1_1.length c1_1]] w fun e w' => e = .returned (.bool r) ∧ Below w.heap.size w w' :=
 V.masterdiscref39_Same.calls _ a0_0 A0_1 c0_1 l0_1 a1_0 A1_1 c1_1 l1_1 r w hr0_1 hc0_1 hr1_1 hc1_1 ((same_is a0_0 l0_1 a1_0 l1_1 hr0_1.2.1).trans h)

end Go.Proofs.YtdepicgdbealpaaGreatDoor.Ext

/- The examples of the chapter: masterdisclaw39.awake returns true. -/
namespace Go.Proofs.YtdepicgdbealpaaGreatDoor.Spare
set_option linter.unusedVariables false
set_option linter.unusedSimpArgs false
open Go.RowKit Go.Lib Go.Proofs.YtdepicgdbealpaaGreatDoorW.PrintWords Go.Proofs.YtdepicgdbealpaaGreatDoorW.PrintLast Go.Proofs.YtdepicgdbealpaaGreatDoorW.PrintMore
open Go.Proofs.YtdepicgdbealpaaGreatDoor.V
open Go.Proofs.YtdepicgdbealpaaGreatDoor

theorem C_blk {w : World} {g : Nat} {cs : Array Value} {l : List S54} (hg : w.heap[g]? = some (.cells cs 54 (0, 0))) (hl : Lies cs l) (hs : cs.size = l.length * 2) (hm : l.length ≤ maxLen) : Kd.C k54 w (some ⟨g, 0, none⟩) l.length l := by
 obtain ⟨A, c, he, _, hR⟩ := Kd.R_reads (own_R (own_mk (base := 0) (Nat.zero_le _) hg (Nat.le_refl _) hm hs hl))
 injection he with hA
 rw [hA]
 exact hR

def T1 : List S54 := [⟨4294967295, 600⟩, ⟨4294967295, 608⟩]
def T2 : List S54 := [⟨8, 600⟩, ⟨4294967295, 608⟩]
def T3 : List S54 := [⟨8, 608⟩]

theorem aw1 : newF 600 16 = (1, T1, 0) := by decide +kernel
theorem aw2 : replaceF 1 T1 11 = (2, T2, 600, 0) := by decide +kernel
theorem aw3 : replaceF 2 T2 15 = (3, T3, 608, 0) := by decide +kernel
theorem aw4 : lookF T2 257 100 11 = (603, 0) := by decide +kernel
theorem aw5 : validB 3 T3 = true := by decide +kernel

theorem same_self (s : Int) (l : List S54) : sameF s l s l = true := by simp [sameF]

set_option maxHeartbeats 4000000 in
set_option maxRecDepth 100000 in
theorem awake_calls (w : World) : Calls Tryz.prog 5 #[] w fun e w' => e = .returned (.bool true) ∧ Below w.heap.size w w' := by
 have hu42 := Tryz.underlying54
 have hu29 := Tryz.underlying24
 have hu27 := Tryz.underlying22
 have hu23 := Tryz.underlying50
 obtain ⟨t1, ht1⟩ : ∃ t, t = T1 := ⟨_, rfl⟩
 obtain ⟨t2, ht2⟩ : ∃ t, t = T2 := ⟨_, rfl⟩
 obtain ⟨t3, ht3⟩ : ∃ t, t = T3 := ⟨_, rfl⟩
 have A1 := aw1
 have A2 := aw2
 have A3 := aw3
 have A4 := aw4
 have A5 := aw5
 have K1 : Aside0 (t1 = [⟨4294967295, 600⟩, ⟨4294967295, 608⟩]) := ⟨ht1⟩
 have K2 : Aside0 (t2 = [⟨8, 600⟩, ⟨4294967295, 608⟩]) := ⟨ht2⟩
 have K3 : Aside0 (t3 = [⟨8, 608⟩]) := ⟨ht3⟩
 rw [← ht1] at A1 A2
 rw [← ht2] at A2 A3 A4
 rw [← ht3] at A3 A5
 clear ht1 ht2 ht3
 go_enter Tryz.func5, Tryz.ntmps5
 go_wp2_with fail
 refine (Ext.New.calls 600 16 1 t1 0 _ (congrArg some A1)).mono ?_
 rintro e w1 ⟨v1, rfl, hR1, hb1⟩
 obtain ⟨a1, c1, rfl, hc1, hC1⟩ := Kd.R_reads hR1
 have HB1 := Aside0.mk hb1
 have HC1 := Aside0.mk hC1
 clear hR1 hb1 hC1
 go_wp2_with fail
 refine (Ext.Replace.calls 1 _ _ t1 11 2 t2 600 0 _ (Kd.C_alloc HC1.out _) hc1 (congrArg some A2)).mono ?_
 rintro e w2 ⟨v2, rfl, hR2, hb2⟩
 have HX1 := Aside0.mk (blk_below (heap_alloc_new w1 (.cells #[.int .i64 1, .slice a1 t1.length c1] 24)) hb2)
 have HB2 : Aside0 (Below w.heap.size w w2) := ⟨below_step (below_alloc HB1.out _) hb2⟩
 have HC1' := Aside0.mk (Kd.C_below (Kd.C_alloc HC1.out _) hb2)
 obtain ⟨a2, c2, rfl, hc2, hC2⟩ := Kd.R_reads hR2
 have HC2 := Aside0.mk hC2
 clear hR2 hb2 hC2 HC1 HB1
 generalize w1.heap.size = b1 at HX1 ⊢
 go_wp2_with fail
 refine (Ext.Replace.calls 2 _ _ t2 15 3 t3 608 0 _ (Kd.C_alloc HC2.out _) hc2 (congrArg some A3)).mono ?_
 rintro e w3 ⟨v3, rfl, hR3, hb3⟩
 have HX1' := Aside0.mk (blk_below (blk_alloc HX1.out _) hb3)
 have HX2 := Aside0.mk (blk_below (heap_alloc_new w2 (.cells #[.int .i64 2, .slice a2 t2.length c2] 24)) hb3)
 have HB3 : Aside0 (Below w.heap.size w w3) := ⟨below_step (below_alloc HB2.out _) hb3⟩
 have HC1'' := Aside0.mk (Kd.C_below (Kd.C_alloc HC1'.out _) hb3)
 have HC2' := Aside0.mk (Kd.C_below (Kd.C_alloc HC2.out _) hb3)
 obtain ⟨a3, c3, rfl, hc3, hC3⟩ := Kd.R_reads hR3
 have HC3 := Aside0.mk hC3
 clear hR3 hb3 hC3 HC1' HC2 HB2 HX1
 generalize w2.heap.size = b2 at HX2 ⊢
 have h21 : (w3.alloc (.cells #[.int .i64 3, .slice a3 t3.length c3] 24)).cell? ⟨b2, 1, none⟩ = some (.slice a2 t2.length c2) := cell?_alloc_some _ ((blk_cell HX2.out 1).trans rfl)
 go_wp2_with fail
 refine (Ext.Lookup.calls _ _ t2 257 100 11 603 0 _ (Kd.C_alloc HC2'.out _) hc2 (congrArg some A4)).mono ?_
 rintro e w4 ⟨rfl, hb4⟩
 have HX1 := Aside0.mk (blk_below (blk_alloc HX1'.out _) hb4)
 have HX2' := Aside0.mk (blk_below (blk_alloc HX2.out _) hb4)
 have HX3 := Aside0.mk (blk_below (heap_alloc_new w3 (.cells #[.int .i64 3, .slice a3 t3.length c3] 24)) hb4)
 have HB4 : Aside0 (Below w.heap.size w w4) := ⟨below_step (below_alloc HB3.out _) hb4⟩
 have HC1 := Aside0.mk (Kd.C_below (Kd.C_alloc HC1''.out _) hb4)
 have HC2 := Aside0.mk (Kd.C_below (Kd.C_alloc HC2'.out _) hb4)
 have HC3' := Aside0.mk (Kd.C_below (Kd.C_alloc HC3.out _) hb4)
 clear hb4 h21 HX1' HX2 HB3 HC1'' HC2' HC3
 generalize w3.heap.size = b3 at HX3 ⊢
 have h10 : w4.cell? ⟨b1, 0, none⟩ = some (.int .i64 1) := (blk_cell HX1.out 0).trans rfl
 have h11 : w4.cell? ⟨b1, 1, none⟩ = some (.slice a1 t1.length c1) := (blk_cell HX1.out 1).trans rfl
 go_wp2_with fail
 refine (Ext.Same.calls 1 _ _ t1 1 (some ⟨w4.heap.size, 0, none⟩) 2 [⟨4294967295, 600⟩, ⟨4294967295, 608⟩] true _ (Kd.C_alloc HC1.out _) hc1 (C_blk (heap_alloc_new w4 _) (lies_of_take rfl) rfl (by decide)) (Nat.le_refl _) (congrArg some (by rw [K1.out]; exact same_self _ _))).mono ?_
 rintro e w5 ⟨rfl, hb5⟩
 have HX2 := Aside0.mk (blk_below (blk_alloc HX2'.out _) hb5)
 have HX3' := Aside0.mk (blk_below (blk_alloc HX3.out _) hb5)
 have HB5 : Aside0 (Below w.heap.size w w5) := ⟨below_step (below_alloc HB4.out _) hb5⟩
 have HC2' := Aside0.mk (Kd.C_below (Kd.C_alloc HC2.out _) hb5)
 have HC3 := Aside0.mk (Kd.C_below (Kd.C_alloc HC3'.out _) hb5)
 clear hb5 h10 h11 HX1 HX2' HX3 HB4 HC1 HC2 HC3'
 have h10 : w5.cell? ⟨b2, 0, none⟩ = some (.int .i64 2) := (blk_cell HX2.out 0).trans rfl
 have h11 : w5.cell? ⟨b2, 1, none⟩ = some (.slice a2 t2.length c2) := (blk_cell HX2.out 1).trans rfl
 go_wp2_with fail
 refine (Ext.Same.calls 2 _ _ t2 2 (some ⟨w5.heap.size, 0, none⟩) 2 [⟨8, 600⟩, ⟨4294967295, 608⟩] true _ (Kd.C_alloc HC2'.out _) hc2 (C_blk (heap_alloc_new w5 _) (lies_of_take rfl) rfl (by decide)) (Nat.le_refl _) (congrArg some (by rw [K2.out]; exact same_self _ _))).mono ?_
 rintro e w6 ⟨rfl, hb6⟩
 have HX3 := Aside0.mk (blk_below (blk_alloc HX3'.out _) hb6)
 have HB6 : Aside0 (Below w.heap.size w w6) := ⟨below_step (below_alloc HB5.out _) hb6⟩
 have HC3' := Aside0.mk (Kd.C_below (Kd.C_alloc HC3.out _) hb6)
 clear hb6 h10 h11 HX2 HX3' HB5 HC2' HC3
 have h10 : w6.cell? ⟨b3, 0, none⟩ = some (.int .i64 3) := (blk_cell HX3.out 0).trans rfl
 have h11 : w6.cell? ⟨b3, 1, none⟩ = some (.slice a3 t3.length c3) := (blk_cell HX3.out 1).trans rfl
 go_wp2_with fail
 refine (Ext.Same.calls 3 _ _ t3 3 (some ⟨w6.heap.size, 0, none⟩) 1 [⟨8, 608⟩] true _ (Kd.C_alloc HC3'.out _) hc3 (C_blk (heap_alloc_new w6 _) (lies_of_take rfl) rfl (by decide)) (Nat.le_refl _) (congrArg some (by rw [K3.out]; exact same_self _ _))).mono ?_
 rintro e w7 ⟨rfl, hb7⟩
 have HX3' := Aside0.mk (blk_below (blk_alloc HX3.out _) hb7)
 have HB7 : Aside0 (Below w.heap.size w w7) := ⟨below_step (below_alloc HB6.out _) hb7⟩
 have HC3 := Aside0.mk (Kd.C_below (Kd.C_alloc HC3'.out _) hb7)
 clear hb7 h10 h11 HX3 HB6 HC3'
 have h10 : w7.cell? ⟨b3, 0, none⟩ = some (.int .i64 3) := (blk_cell HX3'.out 0).trans rfl
 have h11 : w7.cell? ⟨b3, 1, none⟩ = some (.slice a3 t3.length c3) := (blk_cell HX3'.out 1).trans rfl
 go_wp2_with fail
 refine (Ext.Valid.calls 3 _ _ t3 true _ HC3.out hc3 (congrArg some A5)).mono ?_
 rintro e w8 ⟨rfl, hb8⟩
 go_wp2
 go_ret
 exact ⟨rfl, below_step HB7.out hb8⟩

end Go.Proofs.YtdepicgdbealpaaGreatDoor.Spare
