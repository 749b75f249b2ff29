/-
  What Register hands back.
-/
import Derived.Test.YtificcmcddcijaaReg
import Derived.Lib.Hide
namespace Go.Proofs.Ytificcmcddcijaa
open Go Go.RowKit Go.Shelf
attribute [local go_sem] Oper.semAt_some
set_option linter.unusedSimpArgs false

theorem cell_new_y (W : World) (v : Value) (t : TypeId) : (W.alloc (.cells #[v] t)).cell? ⟨W.heap.size, 0, none⟩ = some v ∧ (W.alloc (.cells #[v] t)).frozen? ⟨W.heap.size, 0, none⟩ = false :=
  ⟨by simp, by simp⟩
theorem cell_alloc_y {W : World} {a : Addr} {v : Value} (o : Obj) (h : W.cell? a = some v) : (W.alloc o).cell? a = some v := cell_kept h (World.grownBy_alloc W o none) (fun r e => by cases e)
theorem frozen_alloc_y {W : World} {a : Addr} {v : Value} (o : Obj) (h : W.cell? a = some v) (hf : W.frozen? a = false) : (W.alloc o).frozen? a = false := (frozen_kept h (World.grownBy_alloc W o none) (fun r e => by cases e)).trans hf

theorem cell_far (w : World) (p a : Addr) (v : Value) (h : p.block ≠ a.block) : (w.setCell p v).cell? a = w.cell? a :=
  World.cell?_setCell_other w p a v (fun e => h (by rw [e]))

set_option maxRecDepth 100000 in
set_option maxHeartbeats 2000000 in
theorem Register_yes_in (F : Fence) (n : Nat) (h13 : F.fn 13) (h23 : F.fn 23) (h25 : F.fn 25) (hro : F.round = none) (hn : 4 ≤ n) (b : Nat) (hb : b ≤ 1048576) (w : World) :
    CallsIn F n Try.prog 13 #[.int .i64 b] w fun e w' => e = .returned (.tuple #[.int .i64 (rg b), .int .i64 0]) ∧ Below w.heap.size w w' := by
  have hn1 : 1 ≤ n := by omega
  refine callsIn_of_wp_marks Try.func13 rfl h13 ?_ hro
  simp only [Try.ntmps13, List.size_toArray, List.length_cons, List.length_nil, Nat.reduceAdd, Nat.reduceSub, Array.replicate_succ, Array.replicate_zero, List.push_toArray, List.append_toArray, List.nil_append, List.cons_append]
  have h0 : ¬ (b : Int) < 0 := by omega
  have h1 : ¬ (1048576 : Int) < b := by omega
  have c0 := cell_new_y w (.int .i64 b) 3
  have c1 := cell_new_y (w.alloc (.cells #[.int .i64 b] 3)) (.int .i64 0) 3
  have c2 := cell_new_y ((w.alloc (.cells #[.int .i64 b] 3)).alloc (.cells #[.int .i64 0] 3)) (.int .i64 0) 23
  simp only [World.size_alloc] at c1 c2
  have hB0 : Below w.heap.size w (((w.alloc (.cells #[.int .i64 b] 3)).alloc (.cells #[.int .i64 0] 3)).alloc (.cells #[.int .i64 0] 23)) := (((Below.refl _ w).alloc (Nat.le_refl _) _).alloc (by simp) _).alloc (by simp; omega) _
  have HC := Lib.hid (And.intro c0 (And.intro c1 (And.intro c2 hB0)))
  clear c0 c1 c2 hB0
  gi_wp2_with (gi_at_call 23; refine (registers_in F (n - 1) h23 hro _).mono ?_; rintro e w' ⟨rfl, rfl⟩)
  obtain ⟨c0, c1, c2, hB0⟩ := HC.out
  refine wpIn_range_ever hro hn1 (gf := 25) (lb := #[]) rfl h25 (enters_of Try.func25 (by kernel_rfl) rfl) (registers_ever F (n - 1) h25 hro (by omega)) (b + 1)
    (fun k W => (k ≤ b ∧ W.cell? ⟨w.heap.size, 0, none⟩ = some (.int .i64 ((b : Int) - k)) ∧ W.frozen? ⟨w.heap.size, 0, none⟩ = false ∧
        W.cell? ⟨w.heap.size + 1, 0, none⟩ = some (.int .i64 0) ∧ W.frozen? ⟨w.heap.size + 1, 0, none⟩ = false ∧
        W.cell? ⟨w.heap.size + 1 + 1, 0, none⟩ = some (.int .i64 0) ∧ W.frozen? ⟨w.heap.size + 1 + 1, 0, none⟩ = false) ∧ Below w.heap.size w W)
    (fun c k W => (c = .ret ∧ W.cell? ⟨w.heap.size + 1, 0, none⟩ = some (.int .i64 (rg b)) ∧ W.cell? ⟨w.heap.size + 1 + 1, 0, none⟩ = some (.int .i64 0)) ∧ Below w.heap.size w W)
    (OwnFrom.and (Own.from (fun s A B row hs hg hr => ⟨hs.1, cell_kept hs.2.1 hg hr, (frozen_kept hs.2.1 hg hr).trans hs.2.2.1, cell_kept hs.2.2.2.1 hg hr, (frozen_kept hs.2.2.2.1 hg hr).trans hs.2.2.2.2.1, cell_kept hs.2.2.2.2.2.1 hg hr, (frozen_kept hs.2.2.2.2.2.1 hg hr).trans hs.2.2.2.2.2.2⟩) _) (ownFrom_below (Nat.le_refl _) (by simp; omega)))
    (fun c => OwnFrom.and (Own.from (fun s A B row hs hg hr => ⟨hs.1, cell_kept hs.2.1 hg hr, cell_kept hs.2.2 hg hr⟩) _) (ownFrom_below (Nat.le_refl _) (by simp; omega)))
    ⟨⟨Nat.zero_le _, by simpa using cell_alloc_y _ (cell_alloc_y _ c0.1), frozen_alloc_y _ (cell_alloc_y _ c0.1) (frozen_alloc_y _ c0.1 c0.2), cell_alloc_y _ c1.1, frozen_alloc_y _ c1.1 c1.2, c2.1, c2.2⟩, hB0⟩
    (fun k W h => by have := h.1.1; omega)
    (fun k => { tmps := #[.int .i64 b, .pointer (some ⟨w.heap.size, 0, none⟩), .pointer (some ⟨w.heap.size + 1, 0, none⟩), .pointer (some ⟨w.heap.size + 1 + 1, 0, none⟩), .int .i64 (rg k), .int .i64 b, .bool false, .bool false, .int .i64 b, .bool false, .bool false, .func (.func 25) #[] #[], .int .i64 (rg k), undef, undef, undef, undef, undef], defers := [] }) ?assign ?body ?stop
  case assign =>
    intro l k W K hK
    gi_wp2
    exact hK
  case body =>
    rintro l k W ⟨⟨hk, hc, hf, hc1, hf1, hc2, hf2⟩, hB⟩
    by_cases hz : k = b
    · subst hz
      have hc' : W.cell? ⟨w.heap.size, 0, none⟩ = some (.int .i64 0) := by rw [hc]; simp
      clear hc
      gi_wp2
      refine ⟨(KeepsOthers.setCell _ _ _).trans (KeepsOthers.setCell _ _ _), ⟨rfl, ?_, ?_⟩, (hB.setCell (p := ⟨w.heap.size + 1, 0, none⟩) (by simp) _).setCell (p := ⟨w.heap.size + 1 + 1, 0, none⟩) (by simp; omega) _⟩
      · rw [cell_far _ _ _ _ (by simp)]
        exact World.cell?_setCell_same _ _ _ hc1
      · exact World.cell?_setCell_same _ _ _ ((cell_far _ _ _ _ (by simp)).trans hc2)
    · have hlt : (1 : Int) ≤ (b : Int) - k := by omega
      have hle : (b : Int) - k ≤ 1048576 := by omega
      have hne : (((b : Int) - k) == 0) = false := by simp; omega
      gi_wp2
      refine ⟨KeepsOthers.setCell _ _ _, ⟨by omega, ?_, by simpa using hf, (cell_far _ _ _ _ (by simp)).trans hc1, by simpa using hf1, (cell_far _ _ _ _ (by simp; omega)).trans hc2, by simpa using hf2⟩, hB.setCell (p := ⟨w.heap.size, 0, none⟩) (by simp) _⟩
      rw [World.cell?_setCell_same _ _ _ hc]
      congr 2
      omega
  case stop =>
    rintro D c k W hD ⟨⟨rfl, hc1, hc2⟩, hB⟩ hK
    gi_wp2
    refine ⟨by simp, .inl ⟨_, _, rfl, run_takeDeferred hK, ?_⟩⟩
    have h1 := cell_kept hc1 (grownBy_putObj' _ D (.deferred none)) (fun r e => by cases e; exact ⟨_, hK, rfl⟩)
    have h2 := cell_kept hc2 (grownBy_putObj' _ D (.deferred none)) (fun r e => by cases e; exact ⟨_, hK, rfl⟩)
    refine ⟨_, ?_, rfl, hB.trans (belowK_b (w := w) (Nat.le_refl _) W D _ _ (by simp at hD; omega) hK rfl rfl)⟩
    simp [results, Try.f13, go_sem, h1, h2]

theorem Register_yes (b : Nat) (hb : b ≤ 1048576) (w : World) :
    Calls Try.prog 13 #[.int .i64 b] w fun e w' => e = .returned (.tuple #[.int .i64 (rg b), .int .i64 0]) ∧ Below w.heap.size w w' :=
  (callsIn_wide (n := 6)).1 (Register_yes_in Fence.wide 6 trivial trivial trivial rfl (by decide) b hb w)

set_option maxHeartbeats 400000 in
theorem Register_no (b : Int) (hb : b < 0 ∨ 1048576 < b) (w : World) :
    Calls Try.prog 13 #[.int .i64 b] w fun e w' => e = .returned (.tuple #[.int .i64 0, .int .i64 2]) ∧ Below w.heap.size w w' := by
  have hB0 : Below w.heap.size w (((w.alloc (.cells #[.int .i64 b] 3)).alloc (.cells #[.int .i64 0] 3)).alloc (.cells #[.int .i64 2] 23)) := (((Below.refl _ w).alloc (Nat.le_refl _) _).alloc (by simp) _).alloc (by simp; omega) _
  have HB := Lib.hid hB0
  clear hB0
  rcases hb with hb | hb
  · have h0 : decide (b < 0) = true := decide_eq_true hb
    go_enter Try.func13, Try.ntmps13
    go_wp2
    exact bodyPost_ret (v := .tuple #[.int .i64 0, .int .i64 2]) (by simp [results, Try.f13, go_sem]) rfl ⟨rfl, HB.out⟩
  · have h0 : decide (b < 0) = false := decide_eq_false (by omega)
    go_enter Try.func13, Try.ntmps13
    go_wp2
    exact bodyPost_ret (v := .tuple #[.int .i64 0, .int .i64 2]) (by simp [results, Try.f13, go_sem]) rfl ⟨rfl, HB.out⟩
end Go.Proofs.Ytificcmcddcijaa
