/- sparing.Replace. -/
import Derived.Test.YtdepicgdbealpaaGreatDoorSpareC
import Derived.Test.YtdepicgdbealpaaGreatDoorValidP
namespace Go.Proofs.YtdepicgdbealpaaGreatDoor.Spare
set_option linter.unusedVariables false
set_option linter.unusedSimpArgs false
open Go.Shelf Go.RowKit Go.Lib Go.Proofs.YtdepicgdbealpaaGreatDoorW.PrintWords Go.Proofs.YtdepicgdbealpaaGreatDoorW.PrintLast Go.Proofs.YtdepicgdbealpaaGreatDoorW.PrintMore
open Go.Proofs.YtdepicgdbealpaaGreatDoor.V

def better (l : List S54) (b : Int) (i : Nat) : Bool := decide ((rd_T54 l i).f0 = 4294967295) && (decide (b < 0) || decide ((rd_T54 l i).f1 < (rd_T54 l b).f1))
def bestFrom (l : List S54) : Int → Nat → Nat → Int
 | b, _, 0 => b
 | b, i, r + 1 => bestFrom l (if better l b i = true then (i : Int) else b) (i + 1) r
def best (l : List S54) : Int := bestFrom l (-1) 0 l.length
def replaceF (s : Int) (l : List S54) (block : Int) : Int × List S54 × Int × Int :=
 if validB s l = true then
  if block < 0 ∨ block > 4294967279 then (0, [], 0, 2)
  else
   let first := block - Int.tmod block 8
   let l1 := l.filter (keepB first)
   let b := best l1
   if b < 0 then (0, [], 0, 12)
   else if s = 4294967295 then (0, [], 0, 7)
   else (s + 1, isort (l1.set b.toNat ⟨first, (rd_T54 l1 b).f1⟩), (rd_T54 l1 b).f1, 0)
 else (0, [], 0, 1)

theorem below_ad (w : World) (o : Obj) (n : Nat) : Below w.heap.size w ((w.alloc o).drewN n) := by
 have h := (Below.refl w.heap.size w).alloc (Nat.le_refl _) o
 exact ⟨h.os, h.tape, h.output, h.size, h.block⟩

set_option linter.unusedSimpArgs false

theorem clone_calls (A : Option Addr) (c : Nat) (l : List S54) (w : World) (hr : Kd.C k54 w A l.length l) (hc : l.length ≤ c) (hl : l.length ≤ 8) :
  Calls Tryz.prog 28 #[.slice A l.length c] w fun e w' => ∃ v : Value, e = .returned v ∧ Own w' w.heap.size v l ∧ Below w.heap.size w w' := by
 have hu42 := Tryz.underlying54
 have hu27 := Tryz.underlying22
 have q27 : ∀ (w : World) (a : Option Addr) (n c n' c' : Nat), (binOp .eql 22 (.slice a n c) (.slice none n' c')).run Tryz.prog w = .ok (.bool a.isNone) w := fun w a n c n' c' => Lib.run_eql_slice_nil w _ _ a n c n' c' hu27
 rcases A with _ | ad
 ·obtain rfl : l = [] := by
   rcases l with _ | ⟨x, l⟩
   ·rfl
   ·obtain ⟨ad, h, _⟩ := hr.2.2 (by simp)
    cases h
  go_enter Tryz.func28, Tryz.ntmps28
  go_wp2
  go_ret
  exact ⟨_, rfl, own_nil' _ _, Below.refl _ w⟩
 ·have HC := Aside0.mk (C_cells hr ad rfl)
  clear hr
  go_enter Tryz.func28, Tryz.ntmps28
  obtain ⟨i0, hi0, hz⟩ := Option.map_eq_some_iff.1 V.info54
  simp only [Prod.mk.injEq] at hz
  obtain ⟨hz0, hz1, hz2⟩ := hz
  go_wp2_with (at_builtin; refine wpList_append_own _ rfl _ _ 22 rfl w.heap.size 54 i0 _ 2 16 hu27 hi0 hz0 hz1 hz2 rfl (by decide) _ _ _ rfl (World.ownsRow_made w #[] 0 (Nat.le_refl _) (Nat.zero_le _) (by simp)) ad l.length c (flat l) rfl ?qc1 ?qc2 ?qc3 ?qc4 ?qc5 ?qc6 ?_)
  case qc1 => exact flat_len l
  case qc2 => intro j u hj; exact cell?_alloc_some _ (HC.out j u hj)
  case qc3 => exact flat_one l
  case qc4 => simp only [maxLen]; omega
  case qc5 => omega
  case qc6 => simp
  intro v' w1 hown hgrow hnil
  go_wp2
  go_ret
  refine ⟨v', rfl, ?_, ?_⟩
  ·simpa [Own] using hown
  ·exact ((Below.refl _ w).alloc (Nat.le_refl _) _).grown hgrow (by simp) (by intro k hk; simp [Value.ownBlock] at hk; omega)

theorem replace_calls (s : Int) (A : Option Addr) (c : Nat) (l : List S54) (block : Int) (w : World) (hr : Kd.C k54 w A l.length l) (hc : l.length ≤ c) :
  Calls Tryz.prog 11 #[.agg #[.int .i64 s, .slice A l.length c], .int .i64 block] w fun e w' => ∃ v1_ : Value,
   e = .returned (.tuple #[.agg #[.int .i64 (replaceF s l block).1, v1_], .int .i64 (replaceF s l block).2.2.1, .int .i64 (replaceF s l block).2.2.2]) ∧ Kd.R k54 54 w' w.heap.size (fun _ => True) v1_ (replaceF s l block).2.1 ∧ Below w.heap.size w w' := by
 have hu42 := Tryz.underlying54
 have hu27 := Tryz.underlying22
 have hu29 := Tryz.underlying24
 have HR := Aside0.mk hr
 clear hr
 cases hv : validB s l with
 | false =>
  have e : replaceF s l block = (0, [], 0, 1) := by unfold replaceF; rw [hv]; rfl
  rw [e]
  clear e
  go_enter Tryz.func11, Tryz.ntmps11
  go_wp2_with fail
  refine (valid_calls s A c l _ (Kd.C_alloc (Kd.C_alloc HR.out _) _) hc).mono ?_
  rw [hv]
  rintro e w1 ⟨rfl, hb⟩
  have hb0 : w1.heap[w.heap.size]? = some (.cells #[.int .i64 s, .slice A l.length c] 24 (0, 0)) := blk_below (blk_alloc (heap_alloc_new w _) _) hb
  have hb1 : w1.heap[w.heap.size + 1]? = some (.cells #[.int .i64 0, .slice none 0 0] 24 (0, 0)) := by
   have := blk_below (heap_alloc_new (w.alloc (.cells #[.int .i64 s, .slice A l.length c] 24)) (.cells #[.int .i64 0, .slice none 0 0] 24)) hb
   simpa using this
  have HB : Aside0 (Below w.heap.size w w1) := ⟨below_step (below_alloc (below_alloc (Below.refl _ w) _) _) hb⟩
  have hr0 := (blk_cell hb1 0).trans (show _ = some (Value.int .i64 0) from rfl)
  have hr1 := (blk_cell hb1 1).trans (show _ = some (Value.slice none 0 0) from rfl)
  have hf0 := blk_frozen hb1 0
  have hf1 := blk_frozen hb1 1
  clear hb hb0 hb1
  go_wp2
  exact bodyPost_ret (v := .tuple #[.agg #[.int .i64 0, .slice none 0 0], .int .i64 0, .int .i64 1]) (by simp [results, Tryz.f11, go_sem, hr0, hr1, hf0, hf1]) rfl ⟨_, rfl, Kd.R_nil _ _ _ _ _, (HB.out.setCell (by simp) _).setCell (by simp) _⟩
 | true =>
  have hl8 : l.length ≤ 8 := by
   unfold validB at hv
   simp only [Bool.and_eq_true, decide_eq_true_eq] at hv
   exact hv.1.2
  by_cases hbl : block < 0
  ·have e : replaceF s l block = (0, [], 0, 2) := by unfold replaceF; rw [if_pos hv, if_pos (.inl hbl)]
   rw [e]
   clear e
   have hbd : decide (block < 0) = true := decide_eq_true hbl
   go_enter Tryz.func11, Tryz.ntmps11
   go_wp2_with fail
   refine (valid_calls s A c l _ (Kd.C_alloc (Kd.C_alloc HR.out _) _) hc).mono ?_
   rw [hv]
   rintro e w1 ⟨rfl, hb⟩
   have hb0 : w1.heap[w.heap.size]? = some (.cells #[.int .i64 s, .slice A l.length c] 24 (0, 0)) := blk_below (blk_alloc (heap_alloc_new w _) _) hb
   have hb1 : w1.heap[w.heap.size + 1]? = some (.cells #[.int .i64 0, .slice none 0 0] 24 (0, 0)) := by
    have := blk_below (heap_alloc_new (w.alloc (.cells #[.int .i64 s, .slice A l.length c] 24)) (.cells #[.int .i64 0, .slice none 0 0] 24)) hb
    simpa using this
   have HB : Aside0 (Below w.heap.size w w1) := ⟨below_step (below_alloc (below_alloc (Below.refl _ w) _) _) hb⟩
   have hr0 := (blk_cell hb1 0).trans (show _ = some (Value.int .i64 0) from rfl)
   have hr1 := (blk_cell hb1 1).trans (show _ = some (Value.slice none 0 0) from rfl)
   have hf0 := blk_frozen hb1 0
   have hf1 := blk_frozen hb1 1
   clear hb hb0 hb1
   go_wp2
   exact bodyPost_ret (v := .tuple #[.agg #[.int .i64 0, .slice none 0 0], .int .i64 0, .int .i64 2]) (by simp [results, Tryz.f11, go_sem, hr0, hr1, hf0, hf1]) rfl ⟨_, rfl, Kd.R_nil _ _ _ _ _, (HB.out.setCell (by simp) _).setCell (by simp) _⟩
  by_cases hbg : block > 4294967279
  ·have e : replaceF s l block = (0, [], 0, 2) := by unfold replaceF; rw [if_pos hv, if_pos (.inr hbg)]
   rw [e]
   clear e
   have hbd : decide (block < 0) = false := decide_eq_false hbl
   have hbd2 : decide (block > 4294967279) = true := decide_eq_true hbg
   go_enter Tryz.func11, Tryz.ntmps11
   go_wp2_with fail
   refine (valid_calls s A c l _ (Kd.C_alloc (Kd.C_alloc HR.out _) _) hc).mono ?_
   rw [hv]
   rintro e w1 ⟨rfl, hb⟩
   have hb0 : w1.heap[w.heap.size]? = some (.cells #[.int .i64 s, .slice A l.length c] 24 (0, 0)) := blk_below (blk_alloc (heap_alloc_new w _) _) hb
   have hb1 : w1.heap[w.heap.size + 1]? = some (.cells #[.int .i64 0, .slice none 0 0] 24 (0, 0)) := by
    have := blk_below (heap_alloc_new (w.alloc (.cells #[.int .i64 s, .slice A l.length c] 24)) (.cells #[.int .i64 0, .slice none 0 0] 24)) hb
    simpa using this
   have HB : Aside0 (Below w.heap.size w w1) := ⟨below_step (below_alloc (below_alloc (Below.refl _ w) _) _) hb⟩
   have hr0 := (blk_cell hb1 0).trans (show _ = some (Value.int .i64 0) from rfl)
   have hr1 := (blk_cell hb1 1).trans (show _ = some (Value.slice none 0 0) from rfl)
   have hf0 := blk_frozen hb1 0
   have hf1 := blk_frozen hb1 1
   clear hb hb0 hb1
   go_wp2
   exact bodyPost_ret (v := .tuple #[.agg #[.int .i64 0, .slice none 0 0], .int .i64 0, .int .i64 2]) (by simp [results, Tryz.f11, go_sem, hr0, hr1, hf0, hf1]) rfl ⟨_, rfl, Kd.R_nil _ _ _ _ _, (HB.out.setCell (by simp) _).setCell (by simp) _⟩
  have hbd : decide (block < 0) = false := decide_eq_false hbl
  have hbd2 : decide (block > 4294967279) = false := decide_eq_false hbg
  obtain ⟨first, hfirst⟩ : ∃ f, f = block - Int.tmod block 8 := ⟨_, rfl⟩
  have hm0 : 0 ≤ Int.tmod block 8 := Int.tmod_nonneg _ (by omega)
  have hm1 : Int.tmod block 8 < 8 := Int.tmod_lt_of_pos _ (by omega)
  have hw : wrap64 (block - Int.tmod block 8) = first := by rw [w64 _ (by omega), hfirst]
  have e : replaceF s l block = (if best (l.filter (keepB first)) < 0 then (0, [], 0, 12) else if s = 4294967295 then (0, [], 0, 7) else (s + 1, isort ((l.filter (keepB first)).set (best (l.filter (keepB first))).toNat ⟨first, (rd_T54 (l.filter (keepB first)) (best (l.filter (keepB first)))).f1⟩), (rd_T54 (l.filter (keepB first)) (best (l.filter (keepB first)))).f1, 0)) := by
   unfold replaceF; rw [if_pos hv, if_neg (by omega), hfirst]
  obtain ⟨R, hRR⟩ : ∃ R, R = replaceF s l block := ⟨_, rfl⟩
  rw [← hRR] at e ⊢
  have HE := Aside0.mk e
  have HF := Aside0.mk hfirst
  have HM := Aside0.mk (And.intro hm0 hm1)
  clear e hRR hfirst hm0 hm1 hbl hbg
  go_enter Tryz.func11, Tryz.ntmps11
  go_wp2_with fail
  refine (valid_calls s A c l _ (Kd.C_alloc (Kd.C_alloc HR.out _) _) hc).mono ?_
  rw [hv]
  rintro e w1 ⟨rfl, hb⟩
  have hb0 : w1.heap[w.heap.size]? = some (.cells #[.int .i64 s, .slice A l.length c] 24 (0, 0)) := blk_below (blk_alloc (heap_alloc_new w _) _) hb
  have hb1 : w1.heap[w.heap.size + 1]? = some (.cells #[.int .i64 0, .slice none 0 0] 24 (0, 0)) := by
   have := blk_below (heap_alloc_new (w.alloc (.cells #[.int .i64 s, .slice A l.length c] 24)) (.cells #[.int .i64 0, .slice none 0 0] 24)) hb
   simpa using this
  have HB : Aside0 (Below w.heap.size w w1) := ⟨below_step (below_alloc (below_alloc (Below.refl _ w) _) _) hb⟩
  have hr0 := (blk_cell hb1 0).trans (show _ = some (Value.int .i64 0) from rfl)
  have hr1 := (blk_cell hb1 1).trans (show _ = some (Value.slice none 0 0) from rfl)
  have hf0 := blk_frozen hb1 0
  have hf1 := blk_frozen hb1 1
  have hs0 := (blk_cell hb0 0).trans (show _ = some (Value.int .i64 s) from rfl)
  have hs1 := (blk_cell hb0 1).trans (show _ = some (Value.slice A l.length c) from rfl)
  have HB0 := Aside0.mk hb0
  have HB1 := Aside0.mk hb1
  clear hb hb0 hb1
  have hs1' : (w1.alloc (.cells #[.int .i64 first] 3)).cell? ⟨w.heap.size, 1, none⟩ = some (Value.slice A l.length c) := cell?_alloc_some _ hs1
  go_wp2_with fail
  refine (clone_calls A c l _ (Kd.C_alloc (Kd.C_below HR.out HB.out) _) hc hl8).mono ?_
  rintro e w2 ⟨v2, rfl, hown2, hb2⟩
  have hp2 : w2.cell? ⟨w1.heap.size, 0, none⟩ = some (.int .i64 first) := (blk_cell (blk_below (heap_alloc_new w1 _) hb2) 0).trans rfl
  have hpl2 : w1.heap.size < w2.heap.size := by have := hb2.size; simp at this; omega
  have HB0' := Aside0.mk (blk_below (blk_alloc HB0.out _) hb2)
  have HB1' := Aside0.mk (blk_below (blk_alloc HB1.out _) hb2)
  have HB' : Aside0 (Below w.heap.size w w2) := ⟨below_step (below_alloc HB.out _) hb2⟩
  have HNE : Aside0 (some w1.heap.size ≠ v2.ownBlock) := ⟨fun e => by have := own_base hown2 _ e.symm; simp at this; omega⟩
  have HWL : Aside0 (w.heap.size + 1 < w1.heap.size) := ⟨blk_lt HB1.out⟩
  have HV2 := Aside0.mk (own_less hown2 (show w1.heap.size ≤ _ by simp))
  clear HB0 HB1 HB hs0 hs1 hs1' hr0 hr1 hf0 hf1 hb2 hown2
  go_wp2_with fail
  refine (delete_calls first l v2 ⟨w1.heap.size, 0, none⟩ w1.heap.size w2 hp2 hpl2 HNE.out HV2.out (by simp only [maxLen]; omega)).mono ?_
  rintro e w3 ⟨v3, rfl, hown3, hob3, hg3⟩
  generalize hl1 : l.filter (keepB first) = l1 at hown3 HE
  have hll : l1.length ≤ 8 := by rw [← hl1]; exact Nat.le_trans (List.length_filter_le _ _) hl8
  have hbase2 := own_base HV2.out
  have HBW := below_grown hg3 (base := w1.heap.size) (by omega) hbase2
  have HP3 : Aside0 (w3.cell? ⟨w1.heap.size, 0, none⟩ = some (.int .i64 first)) := ⟨hg3.cell hp2 HNE.out⟩
  have HS3 : Aside0 (w3.cell? ⟨w.heap.size, 0, none⟩ = some (.int .i64 s)) := ⟨(HBW.cell (p := ⟨w.heap.size, 0, none⟩) (by have := HWL.out; show w.heap.size < _; omega)).trans ((blk_cell HB0'.out 0).trans rfl)⟩
  have HR3 : Aside0 (w3.heap[w.heap.size + 1]? = some (.cells #[.int .i64 0, .slice none 0 0] 24 (0, 0))) := ⟨(HBW.block _ HWL.out).trans HB1'.out⟩
  have HB3 : Aside0 (Below w.heap.size w w3) := ⟨HB'.out.trans (HBW.mono (by have := HWL.out; omega))⟩
  have HP1 : Aside0 (w1.heap.size < w3.heap.size) := ⟨Nat.lt_of_lt_of_le hpl2 hg3.size⟩
  obtain ⟨A1, c1, rfl, hc1, hR1⟩ := Kd.R_reads (own_R hown3)
  have HOB : Aside0 ((Value.slice A1 l1.length c1).ownBlock ≠ some w1.heap.size) := ⟨by rw [hob3]; exact fun e => HNE.out e.symm⟩
  have HO3 := Aside0.mk hown3
  have HR1 := Aside0.mk hR1
  clear hown3 hob3 hg3 HBW hp2 hpl2 HNE HV2 HB0' HB1' HB' hR1 hbase2 HR hl1
  go_wp2_with fail
  have hn8 : l1.length ≤ 9223372036854775807 := by omega
  have hcW : (w3.alloc (.cells #[Value.slice A1 l1.length c1] 22)).cell? ⟨w3.heap.size, 0, none⟩ = some (.slice A1 l1.length c1) := (blk_cell (heap_alloc_new w3 _) 0).trans rfl
  have HCW := Aside0.mk hcW
  have HR4 := Aside0.mk (Kd.C_alloc HR1.out (.cells #[Value.slice A1 l1.length c1] 22))
  have HO4 : Aside0 (Own (w3.alloc (.cells #[Value.slice A1 l1.length c1] 22)) w1.heap.size (.slice A1 l1.length c1) l1) := ⟨own_below' HO3.out (below_alloc (Below.refl _ w3) _)⟩
  have HS4 : Aside0 ((w3.alloc (.cells #[Value.slice A1 l1.length c1] 22)).cell? ⟨w.heap.size, 0, none⟩ = some (.int .i64 s)) := ⟨cell?_alloc_some _ HS3.out⟩
  have HP4 : Aside0 ((w3.alloc (.cells #[Value.slice A1 l1.length c1] 22)).cell? ⟨w1.heap.size, 0, none⟩ = some (.int .i64 first)) := ⟨cell?_alloc_some _ HP3.out⟩
  have HR5 := Aside0.mk (blk_alloc HR3.out (.cells #[Value.slice A1 l1.length c1] 22))
  have HB4 : Aside0 (Below w.heap.size w (w3.alloc (.cells #[Value.slice A1 l1.length c1] 22))) := ⟨below_alloc HB3.out _⟩
  have HZ4 : Aside0 (w3.heap.size < (w3.alloc (.cells #[Value.slice A1 l1.length c1] 22)).heap.size) := ⟨by simp⟩
  have HOW : Aside0 (some w3.heap.size ≠ (Value.slice A1 l1.length c1).ownBlock) := ⟨fun e => by have := own_lt HO3.out _ e.symm; omega⟩
  clear hcW HR1 HO3 HS3 HP3 HR3 HB3
  generalize w3.alloc (.cells #[Value.slice A1 l1.length c1] 22) = w4 at HCW HR4 HO4 HS4 HP4 HR5 HB4 HZ4 ⊢
  generalize w3.heap.size = Bs at HCW HP1 HZ4 HOW ⊢
  have HBST := Aside0.mk (show bestFrom l1 (-1) 0 l1.length = best l1 from rfl)
  go_loopg [9, 37] l1.length (fun gg s9 s37 wr => ∃ (k : Nat) (b : Int), s37 = .int .i64 k ∧ s9 = .int .i64 b ∧ k ≤ l1.length ∧ l1.length - k ≤ gg ∧ Aside0 (b = -1 ∨ (0 ≤ b ∧ b < l1.length)) ∧
   Aside0 (bestFrom l1 b k (l1.length - k) = best l1) ∧ Aside0 (Below w4.heap.size w4 wr))
  case atStart => exact ⟨0, -1, rfl, rfl, Nat.zero_le _, by omega, ⟨.inl rfl⟩, HBST, ⟨Below.refl _ _⟩⟩
  case round =>
   clear HBST
   obtain ⟨k, b, rfl, rfl, hk, hgg, HBB, HBST, HW⟩ := hrel
   by_cases hlt : k < l1.length
   ·have hltz : (k : Int) < (l1.length : Int) := by omega
    have hC := Kd.C_below HR4.out HW.out
    obtain ⟨ad, rfl, hx0, hx1⟩ := at_T54 hC k (by omega) (by omega)
    rw [Int.toNat_natCast] at hx0 hx1
    have hbs : wr.cell? ⟨Bs, 0, none⟩ = some (.slice (some ad) l1.length c1) := (HW.out.cell (p := ⟨Bs, 0, none⟩) HZ4.out).trans HCW.out
    have hbs' := cell?_alloc_some (.cells #[.int .i64 (rd_T54 l1 k).f0, .int .i64 (rd_T54 l1 k).f1] 54) hbs
    have hst : bestFrom l1 b k (l1.length - k) = bestFrom l1 (if better l1 b k = true then (k : Int) else b) (k + 1) (l1.length - (k + 1)) := by
     rw [show l1.length - k = (l1.length - (k + 1)) + 1 by omega]; rfl
    have HST := Aside0.mk (hst.symm.trans HBST.out)
    clear hst HBST
    cases hq : ((rd_T54 l1 k).f0 == 4294967295) with
    | false =>
     have hbt : better l1 b k = false := by
      have : (rd_T54 l1 k).f0 ≠ 4294967295 := by simpa using hq
      simp [better, this]
     rw [hbt] at HST
     go_wp2
     go_quiet (fail)
     go_wp2
     go_roundg (l1.length - (k + 1))
     case measure => omega
     case rel => exact ⟨k + 1, b, by first | go_num | (congr 1; unfold wrap64; omega), rfl, by omega, by omega, HBB, HST, ⟨below_step HW.out (below_ad wr _ _)⟩⟩
    | true =>
     have hq0 : (rd_T54 l1 k).f0 = 4294967295 := by simpa using hq
     have HQ := Aside0.mk hq0
     clear hq0
     rcases HBB.out with hb | ⟨hb0, hb1⟩
     ·have hbd3 : decide (b < 0) = true := decide_eq_true (by omega)
      have hbt : better l1 b k = true := by simp [better, HQ.out, hbd3]
      rw [hbt, if_pos rfl] at HST
      clear hb
      go_wp2
      go_quiet (fail)
      go_wp2
      go_roundg (l1.length - (k + 1))
      case measure => omega
      case rel => exact ⟨k + 1, k, by first | go_num | (congr 1; unfold wrap64; omega), rfl, by omega, by omega, ⟨.inr ⟨by omega, by omega⟩⟩, HST, ⟨below_step HW.out (below_ad wr _ _)⟩⟩
     ·have hbd3 : decide (b < 0) = false := decide_eq_false (by omega)
      obtain ⟨ad', he', hy0, hy1⟩ := at_T54 hC b hb0 hb1
      cases he'
      have hy1' := cell?_alloc_some (.cells #[.int .i64 (rd_T54 l1 k).f0, .int .i64 (rd_T54 l1 k).f1] 54) hy1
      have hbz : (0 : Int) ≤ b := hb0
      have hbz' : b < (l1.length : Int) := hb1
      cases hlt2 : decide ((rd_T54 l1 k).f1 < (rd_T54 l1 b).f1) with
      | true =>
       have hbt : better l1 b k = true := by simp only [better, HQ.out, hbd3, hlt2]; rfl
       rw [hbt, if_pos rfl] at HST
       go_wp2
       go_quiet (fail)
       go_wp2
       go_roundg (l1.length - (k + 1))
       case measure => omega
       case rel => exact ⟨k + 1, k, by first | go_num | (congr 1; unfold wrap64; omega), rfl, by omega, by omega, ⟨.inr ⟨by omega, by omega⟩⟩, HST, ⟨below_step HW.out (below_ad wr _ _)⟩⟩
      | false =>
       have hbt : better l1 b k = false := by simp only [better, HQ.out, hbd3, hlt2]; rfl
       rw [hbt] at HST
       go_wp2
       go_quiet (fail)
       go_wp2
       go_roundg (l1.length - (k + 1))
       case measure => omega
       case rel => exact ⟨k + 1, b, by first | go_num | (congr 1; unfold wrap64; omega), rfl, by omega, by omega, ⟨.inr ⟨hb0, hb1⟩⟩, HST, ⟨below_step HW.out (below_ad wr _ _)⟩⟩
   ·have hltz : ¬ (k : Int) < (l1.length : Int) := by omega
    obtain rfl : k = l1.length := by omega
    have hbest : best l1 = b := by
     have := HBST.out
     rw [Nat.sub_self] at this
     exact this.symm
    have hb1 := blk_below HR5.out HW.out
    have hr0 := (blk_cell hb1 0).trans (show _ = some (Value.int .i64 0) from rfl)
    have hr1 := (blk_cell hb1 1).trans (show _ = some (Value.slice none 0 0) from rfl)
    have hf0 := blk_frozen hb1 0
    have hf1 := blk_frozen hb1 1
    have HBW : Aside0 (Below w.heap.size w wr) := ⟨below_step HB4.out HW.out⟩
    have hs := (HW.out.cell (p := ⟨w.heap.size, 0, none⟩) (World.block_lt_of_cell? _ _ HS4.out)).trans HS4.out
    have HE1 := HE.out
    rw [hbest] at HE1
    by_cases hbn : b < 0
    ·rw [if_pos hbn] at HE1
     subst HE1
     have hbd3 : decide (b < 0) = true := decide_eq_true hbn
     clear hb1 hbest
     go_wp2
     exact bodyPost_ret (v := .tuple #[.agg #[.int .i64 0, .slice none 0 0], .int .i64 0, .int .i64 12]) (by simp [results, Tryz.f11, go_sem, hr0, hr1, hf0, hf1]) rfl ⟨_, rfl, Kd.R_nil _ _ _ _ _, (HBW.out.setCell (by simp) _).setCell (by simp) _⟩
    ·rw [if_neg hbn] at HE1
     have hbd3 : decide (b < 0) = false := decide_eq_false hbn
     by_cases hs7 : s = 4294967295
     ·rw [if_pos hs7] at HE1
      subst HE1
      have hsd : (s == 4294967295) = true := by simpa using hs7
      clear hb1 hbest hs7
      go_wp2
      exact bodyPost_ret (v := .tuple #[.agg #[.int .i64 0, .slice none 0 0], .int .i64 0, .int .i64 7]) (by simp [results, Tryz.f11, go_sem, hr0, hr1, hf0, hf1]) rfl ⟨_, rfl, Kd.R_nil _ _ _ _ _, (HBW.out.setCell (by simp) _).setCell (by simp) _⟩
     ·rw [if_neg hs7] at HE1
      have hsd : (s == 4294967295) = false := by simpa using hs7
      obtain ⟨hb0, hbl1⟩ : 0 ≤ b ∧ b < l1.length := by
       rcases HBB.out with h | h
       ·omega
       ·exact h
      have hsw : 0 ≤ s ∧ s < 4294967296 := by
       unfold validB wordB at hv
       simp only [Bool.and_eq_true, decide_eq_true_eq] at hv
       exact hv.1.1
      obtain ⟨bn, rfl⟩ : ∃ bn : Nat, b = bn := ⟨b.toNat, by omega⟩
      have hbn1 : bn < l1.length := by omega
      obtain ⟨g, cap, cur, hA, hgb, hcur, hnc, hcm, hcs, hlies⟩ := own_open (own_below' HO4.out HW.out) (by omega)
      injection hA with hA1 hA2 hA3
      subst hA1 hA3
      rw [Int.toNat_natCast] at HE1
      obtain ⟨y, hy⟩ : ∃ y, y = rd_T54 l1 bn := ⟨_, rfl⟩
      rw [← hy] at HE1
      have hly : l1[bn]? = some y := by
       rw [hy]; unfold rd_T54
       rw [Int.toNat_natCast, List.getD_eq_getElem?_getD, List.getElem?_eq_getElem hbn1]
       rfl
      have hcc := hlies bn y hly
      have hc0 : wr.cell? ⟨g, bn * 2, none⟩ = some (.int .i64 y.f0) := by rw [blk_cell hcur, Nat.mul_comm]; exact hcc.1
      have hc1 : wr.cell? ⟨g, bn * 2 + 1, none⟩ = some (.int .i64 y.f1) := by rw [blk_cell hcur, Nat.mul_comm]; exact hcc.2
      have hg0 := blk_frozen hcur (bn * 2)
      have hg1 := blk_frozen hcur (bn * 2 + 1)
      have hp : wr.cell? ⟨w1.heap.size, 0, none⟩ = some (.int .i64 first) := (HW.out.cell (p := ⟨w1.heap.size, 0, none⟩) (World.block_lt_of_cell? _ _ HP4.out)).trans HP4.out
      have hbs : wr.cell? ⟨Bs, 0, none⟩ = some (.slice (some ⟨g, 0, none⟩) l1.length c1) := (HW.out.cell (p := ⟨Bs, 0, none⟩) HZ4.out).trans HCW.out
      have hgs : ∀ u v, wr.grownBy ((wr.setCell ⟨g, bn * 2, none⟩ u).setCell ⟨g, bn * 2 + 1, none⟩ v) (some g) := fun u v => grown_trans (grown_set _) (grown_set _)
      have hBg : Bs ≠ g := by
       have := HOW.out
       simpa [Value.ownBlock] using this
      have hNg : w.heap.size + 1 < g := by have := HWL.out; omega
      have hbs2 : ((wr.setCell ⟨g, bn * 2, none⟩ (.int .i64 first)).setCell ⟨g, bn * 2 + 1, none⟩ (.int .i64 y.f1)).cell? ⟨Bs, 0, none⟩ = some (.slice (some ⟨g, 0, none⟩) l1.length c1) := cell_grown (hgs _ _) hBg hbs
      have HROW : Aside0 (((wr.setCell ⟨g, bn * 2, none⟩ (.int .i64 first)).setCell ⟨g, bn * 2 + 1, none⟩ (.int .i64 y.f1)).heap[g]? = some (.cells ((cur.setIfInBounds (2 * bn) (.int .i64 first)).setIfInBounds (2 * bn + 1) (.int .i64 y.f1)) 54 (0, 0))) :=
       ⟨by rw [Nat.mul_comm 2 bn]; exact blk_set (blk_set hcur _ _) _ _⟩
      have HLI : Aside0 (Lies ((cur.setIfInBounds (2 * bn) (.int .i64 first)).setIfInBounds (2 * bn + 1) (.int .i64 y.f1)) (l1.set bn ⟨first, y.f1⟩)) := ⟨lies_set hlies (by omega) bn hbn1 ⟨first, y.f1⟩⟩
      have HCZ : Aside0 (((cur.setIfInBounds (2 * bn) (Value.int .i64 first)).setIfInBounds (2 * bn + 1) (Value.int .i64 y.f1)).size = c1 * 2) := ⟨by simpa using hcs⟩
      have HGS := Aside0.mk hgs
      have HB1 := Aside0.mk hb1
      have HE2 := Aside0.mk HE1
      have HSS := Aside0.mk hs
      have hbz : (0 : Int) ≤ (bn : Int) := hb0
      have hbz' : (bn : Int) < (l1.length : Int) := hbl1
      clear hgs hb1 HE1 hs hs7 hcc hlies hcur hcs hly hy hbest hr0 hr1 hf0 hf1
      have hs := HSS.out
      go_wp2_with fail
      have hlen : (l1.set bn ⟨first, y.f1⟩).length = l1.length := by simp
      have hsort := sort_calls g c1 Bs (l1.set bn ⟨first, y.f1⟩) _ _ (by rw [hlen]; omega) (by rw [hlen]; omega) HROW.out HLI.out (by rw [hlen, HCZ.out]; omega) (by rw [hlen]; exact hbs2) hBg
      rw [hlen] at hsort
      refine hsort.mono ?_
      rintro e w5 ⟨rfl, cs5, hrow5, hsz5, hlies5, hg5⟩
      have hG5 := grown_trans (HGS.out _ _) hg5
      have hs5 : w5.cell? ⟨w.heap.size, 0, none⟩ = some (.int .i64 s) := cell_grown hG5 (by omega) HSS.out
      have hbs5 : w5.cell? ⟨Bs, 0, none⟩ = some (.slice (some ⟨g, 0, none⟩) l1.length c1) := cell_grown hG5 hBg hbs
      have hb5 : w5.heap[w.heap.size + 1]? = some (.cells #[.int .i64 0, .slice none 0 0] 24 (0, 0)) := (hG5.block _ (blk_lt HB1.out) (by simp; omega)).trans HB1.out
      have hr0 := (blk_cell hb5 0).trans (show _ = some (Value.int .i64 0) from rfl)
      have hr1 := (blk_cell hb5 1).trans (show _ = some (Value.slice none 0 0) from rfl)
      have hf0 := blk_frozen hb5 0
      have hf1 := blk_frozen hb5 1
      have hw5 : wrap64 (s + 1) = s + 1 := w64 _ (by omega)
      have HB5 : Aside0 (Below w.heap.size w w5) := ⟨HBW.out.grown hG5 HBW.out.size (by intro k hk; injection hk with hk; omega)⟩
      have HI : Aside0 ((isort (l1.set bn ⟨first, y.f1⟩)).length = l1.length) := ⟨by rw [(isort_perm _).length_eq]; simp⟩
      have HO5 : Aside0 (Own w5 w.heap.size (.slice (some ⟨g, 0, none⟩) l1.length c1) (isort (l1.set bn ⟨first, y.f1⟩))) := ⟨by
       have := own_mk (base := w.heap.size) (cap := c1) (by omega) hrow5 (by rw [HI.out]; exact hnc) hcm (by rw [hsz5, HCZ.out]) hlies5
       rw [HI.out] at this
       exact this⟩
      have HBB5 := Aside0.mk hb5
      clear hrow5 hsz5 hlies5 hg5 hG5 hb5 hsort hlen hs hbs hbs2 hc0 hc1 hg0 hg1 hp
      go_wp2
      have hgl : w.heap.size + 1 ≠ g := by omega
      refine bodyPost_ret (v := .tuple #[.agg #[.int .i64 (s + 1), .slice (some ⟨g, 0, none⟩) l1.length c1], .int .i64 y.f1, .int .i64 0]) (by simp [results, Tryz.f11, go_sem, hr0, hr1, hf0, hf1]) rfl ?_
      have HEE := HE2.out
      subst HEE
      refine ⟨_, rfl, ?_, (HB5.out.setCell (by simp) _).setCell (by simp) _⟩
      have ht : ∀ q, q ∈ 54 :: k54.E → q ≠ 24 := by decide
      exact Kd.R_set (Kd.R_set (own_R HO5.out) HBB5.out ht 0 _) (blk_set HBB5.out _ _) ht 1 _

end Go.Proofs.YtdepicgdbealpaaGreatDoor.Spare
