/- The closure 'add' of udftag.Faults. -/
import Derived.Test.YtdepicgdbealpaaGreatDoorU1
namespace Go.Proofs.YtdepicgdbealpaaGreatDoor.Enc
set_option linter.unusedVariables false
set_option linter.unusedSimpArgs false
open Go.RowKit Go.Lib Go.Proofs.YtdepicgdbealpaaGreatDoorW.PrintWords Go.Proofs.YtdepicgdbealpaaGreatDoorW.PrintLast Go.Proofs.YtdepicgdbealpaaGreatDoorW.PrintMore
open Go.Proofs.YtdepicgdbealpaaGreatDoor

theorem info3 : (Tryz.prog.info? 3).map (fun i => (i.zero, i.size, i.bytes)) = some (some (.int .i64 0), 1, 8) := by kernel_rfl

/-- Nothing is added. -/
theorem add_no (f : Int) (g : Nat) (w : World) : Calls Tryz.prog 65 #[.int .i64 f, .bool false, .pointer (some ⟨g, 0, none⟩)] w fun e w' => e = .returned (.bool false) ∧ w' = w := by
 go_enter Tryz.func65, Tryz.ntmps65
 go_wp2
 go_ret
 exact ⟨rfl, rfl⟩

set_option maxHeartbeats 4000000 in
set_option maxRecDepth 100000 in
theorem add_yes (f : Int) (g base : Nat) (v : Value) (out : List Int) (w0 w : World) (hg : w.heap[g]? = some (.cells #[v] 37 (0, 0))) (hR : Kd.R (Kd.int .i64) 3 w base (fun _ => True) v out) (hB : Below base w0 w) (hb : base ≤ w.heap.size) (hl : out.length ≤ 1000) :
  Calls Tryz.prog 65 #[.int .i64 f, .bool true, .pointer (some ⟨g, 0, none⟩)] w fun e w' => e = .returned (.bool true) ∧ ∃ (v1 : Value) (w1 : World), w' = w1.setCell ⟨g, 0, none⟩ v1 ∧ w.grownBy w1 v.ownBlock ∧ Kd.R (Kd.int .i64) 3 w1 base (fun _ => True) v1 (out ++ [f]) ∧ Below base w0 w1 := by
 have hu37 := Tryz.underlying37
 have h0 : w.cell? ⟨g, 0, none⟩ = some v := (blk_cell hg 0).trans rfl
 have hff := blk_frozen hg 0
 have HG := Aside0.mk hg
 have HR := Aside0.mk hR
 have HB := Aside0.mk hB
 have hne : some g ≠ v.ownBlock := Kd.R_ne hR hg (by decide)
 have HN := Aside0.mk hne
 clear hR hg hB hne
 go_enter Tryz.func65, Tryz.ntmps65
 go_wp2_with (first | ((with_reducible refine gate_builtin (b := .append) (xs := #[.tmp 7, .tmp 9]) rfl ?_); at_builtin; refine Kd.R_append (Kd.int .i64) (w0 := w0) base rfl (.tmp 7) (.tmp 9) 37 3 (.int .i64 0) 8 rfl hu37 info3 rfl (by decide) (by omega) v out f [.int .i64 f] (fun _ => True) (fun _ => False) rfl rfl ?aP (fun _ hk => hk.elim) ?aF ?aO ?aB ?aS ?aL ?_; (case aP => exact rfl); (case aB => exact HB.out); (case aF => exact (fun _ _ => trivial)); (case aO => exact HR.out); (case aS => exact hb); (case aL => omega); intro v1 w1 ho hbl hgr hat; obtain ⟨A1, c1, rfl⟩ := Kd.R_slice ho; have hg1 := (hgr.block g (blk_lt HG.out) HN.out).trans HG.out; have hc1 := (blk_cell hg1 0); have hf1 := blk_frozen hg1 0))
 go_ret
 rw [List.length_append] at ho
 exact ⟨rfl, _, w1, rfl, hgr, ho, hbl⟩

/-- The list of faults: cell g. -/
def Outs (base g : Nat) (w : World) (out : List Int) : Prop := ∃ v, w.heap[g]? = some (.cells #[v] 37 (0, 0)) ∧ Kd.R (Kd.int .i64) 3 w base (fun _ => True) v out

theorem Outs.below {base g : Nat} {w w1 : World} {out : List Int} (h : Outs base g w out) (hb : Below w.heap.size w w1) : Outs base g w1 out := by
 obtain ⟨v, h1, h2⟩ := h
 exact ⟨v, blk_below h1 hb, Kd.R_below h2 hb⟩

theorem add_step (f : Int) (b : Bool) (g base : Nat) (out : List Int) (w0 w : World) (hO : Outs base g w out) (hB : Below base w0 w) (hb : base ≤ w.heap.size) (hbg : base ≤ g) (hl : out.length ≤ 1000) :
  Calls Tryz.prog 65 #[.int .i64 f, .bool b, .pointer (some ⟨g, 0, none⟩)] w fun e w' => e = .returned (.bool b) ∧ Outs base g w' (if b = true then out ++ [f] else out) ∧ Below base w0 w' ∧ base ≤ w'.heap.size ∧
   ∀ j cells t, j ≠ g → t ≠ 3 → w.heap[j]? = some (.cells cells t (0, 0)) → w'.heap[j]? = some (.cells cells t (0, 0)) := by
 obtain ⟨v, h1, h2⟩ := hO
 cases b with
 | false =>
  refine (add_no f g w).mono ?_
  rintro e w' ⟨rfl, rfl⟩
  exact ⟨rfl, ⟨v, h1, h2⟩, hB, hb, fun j cells t _ _ h => h⟩
 | true =>
  refine (add_yes f g base v out w0 w h1 h2 hB hb hl).mono ?_
  rintro e w' ⟨rfl, v1, w1, rfl, hgr, ho, hbl⟩
  have hg1 := (hgr.block g (blk_lt h1) (Kd.R_ne h2 h1 (by decide))).trans h1
  refine ⟨rfl, ⟨v1, blk_put hg1 0 _ rfl, Kd.R_set ho hg1 (by decide) 0 v1⟩, hbl.setCell hbg _, Nat.le_trans hb (Nat.le_trans hgr.size (by simp [World.setCell])), fun j cells t hj ht h => ?_⟩
  have e1 := (hgr.block j (blk_lt h) (Kd.R_ne h2 h (fun e => ht e.symm))).trans h
  exact (Below.heap_setCell w1 ⟨g, 0, none⟩ _ j hj).trans e1

end Go.Proofs.YtdepicgdbealpaaGreatDoor.Enc
