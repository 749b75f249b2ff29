/-
  What 'sequence' hands back: a row of n bytes of its own.
-/
import Derived.Test.YtificcmcddcijaaRegister
import Derived.Test.YtificcmcddcijaaStillIn
import Derived.Laws.OwnMore
import Derived.Laws.MakeOwn
import Derived.OneCell
namespace Go.Proofs.Ytificcmcddcijaa
open Go Go.RowKit Go.Shelf
attribute [local go_sem] Oper.semAt_some
set_option linter.unusedSimpArgs false

theorem info5 : (Try.prog.info? 5).map (fun i => (i.zero, i.size, i.bytes)) = some (some (.int .u8 0), 1, 1) := by kernel_rfl

theorem cell_drew_y (W : World) (a : Addr) : W.drew.cell? a = W.cell? a := rfl
theorem frozen_drew_y (W : World) (a : Addr) : W.drew.frozen? a = W.frozen? a := rfl

theorem madeCells_one (v : Value) (n : Nat) : (madeCells #[v] n).toList = List.replicate n v := by
  apply List.ext_getElem
  · simp [madeCells]
  · intro i h1 h2
    simp [madeCells, Nat.mod_one]

theorem ownsRow_notCells {W W' : World} {row : Option Nat} {base : Nat} {e : TypeId} {size : Nat} {v : Value} {n : Nat} {xs : List Value} (h : W.ownsRow base e size v n xs) (hg : W.grownBy W' row)
    (hr : ∀ r, row = some r → ∃ o : Obj, W.heap[r]? = some o ∧ o.isCells = false) : W'.ownsRow base e size v n xs := by
  refine h.kept hg ?_
  obtain ⟨_, ⟨rfl, _⟩ | ⟨g, cap, cur, rfl, _, hh, _⟩⟩ := h
  · exact .inl rfl
  · refine .inr (fun e => ?_)
    obtain ⟨o, ho, hc⟩ := hr g (by rw [← e]; rfl)
    rw [hh] at ho
    cases ho
    simp [Obj.isCells] at hc

set_option maxRecDepth 100000 in
set_option maxHeartbeats 2000000 in
theorem sequence_in (F : Fence) (nf : Nat) (h21 : F.fn 21) (h23 : F.fn 23) (h25 : F.fn 25) (hro : F.round = none) (hn : 4 ≤ nf) (n : Nat) (hb : n ≤ 1000000) (w : World) :
    CallsIn F nf Try.prog 21 #[.int .i64 n] w fun e w' => ∃ g, e = .returned (.slice (some ⟨g, 0, none⟩) n n) ∧ w'.ownsRow w.heap.size 5 1 (.slice (some ⟨g, 0, none⟩) n n) n (rowAt n (8 * n)) ∧ Below w.heap.size w w' := by
  have hn1 : 1 ≤ nf := by omega
  obtain ⟨i0, hi, hz0, hz1, hz2⟩ := info_parts info5
  have hmk := fun w => run_make (P := Try.prog) w 40 5 i0 (.int .u8 0) Try.underlying40 hi hz0 .i64 .i64 n n (by omega) (by omega) (by rw [hz2]; omega) (by omega)
  rw [hz1] at hmk
  simp only [Int.toNat_natCast, Nat.mul_one] at hmk
  refine callsIn_of_wp_marks Try.func21 rfl h21 ?_ hro
  simp only [Try.ntmps21, List.size_toArray, List.length_cons, List.length_nil, Nat.reduceAdd, Nat.reduceSub, Array.replicate_succ, Array.replicate_zero, List.push_toArray, List.append_toArray, List.nil_append, List.cons_append]
  clear hi hz0 hz1 hz2
  gi_wp2_with (gi_at_call 23; refine (registers_in F (nf - 1) h23 hro _).mono ?_; rintro e w' ⟨rfl, rfl⟩)
  have hsz : ((((w.alloc (.cells #[.int .i64 n] 3)).alloc (.cells (madeCells #[.int .u8 0] n) 5)).alloc (.cells #[.slice (some ⟨w.heap.size + 1, 0, none⟩) n n] 40)).alloc (.cells #[.int .i64 0] 3)).heap.size = w.heap.size + 4 := by simp
  have hI0 : World.cell? ((((w.alloc (.cells #[.int .i64 n] 3)).alloc (.cells (madeCells #[.int .u8 0] n) 5)).alloc (.cells #[.slice (some ⟨w.heap.size + 1, 0, none⟩) n n] 40)).alloc (.cells #[.int .i64 0] 3)) ⟨w.heap.size, 0, none⟩ = some (.int .i64 n) ∧
      World.cell? ((((w.alloc (.cells #[.int .i64 n] 3)).alloc (.cells (madeCells #[.int .u8 0] n) 5)).alloc (.cells #[.slice (some ⟨w.heap.size + 1, 0, none⟩) n n] 40)).alloc (.cells #[.int .i64 0] 3)) ⟨w.heap.size + 2, 0, none⟩ = some (.slice (some ⟨w.heap.size + 1, 0, none⟩) n n) ∧
      World.cell? ((((w.alloc (.cells #[.int .i64 n] 3)).alloc (.cells (madeCells #[.int .u8 0] n) 5)).alloc (.cells #[.slice (some ⟨w.heap.size + 1, 0, none⟩) n n] 40)).alloc (.cells #[.int .i64 0] 3)) ⟨w.heap.size + 3, 0, none⟩ = some (.int .i64 ((0 : Nat) : Int)) ∧
      World.frozen? ((((w.alloc (.cells #[.int .i64 n] 3)).alloc (.cells (madeCells #[.int .u8 0] n) 5)).alloc (.cells #[.slice (some ⟨w.heap.size + 1, 0, none⟩) n n] 40)).alloc (.cells #[.int .i64 0] 3)) ⟨w.heap.size + 3, 0, none⟩ = false := by
    have c0 := cell_new_y w (.int .i64 n) 3
    have c2 := cell_new_y ((w.alloc (.cells #[.int .i64 n] 3)).alloc (.cells (madeCells #[.int .u8 0] n) 5)) (.slice (some ⟨w.heap.size + 1, 0, none⟩) n n) 40
    have c3 := cell_new_y (((w.alloc (.cells #[.int .i64 n] 3)).alloc (.cells (madeCells #[.int .u8 0] n) 5)).alloc (.cells #[.slice (some ⟨w.heap.size + 1, 0, none⟩) n n] 40)) (.int .i64 0) 3
    simp only [World.size_alloc] at c2 c3
    exact ⟨cell_alloc_y _ (cell_alloc_y _ (cell_alloc_y _ c0.1)), cell_alloc_y _ c2.1, c3.1, c3.2⟩
  have hR0 : World.ownsRow ((((w.alloc (.cells #[.int .i64 n] 3)).alloc (.cells (madeCells #[.int .u8 0] n) 5)).alloc (.cells #[.slice (some ⟨w.heap.size + 1, 0, none⟩) n n] 40)).alloc (.cells #[.int .i64 0] 3)) w.heap.size 5 1 (.slice (some ⟨w.heap.size + 1, 0, none⟩) n n) n (rowAt n 0) := by
    refine World.ownsRow.alloc (World.ownsRow.alloc ⟨by simp [rowAt], .inr ⟨w.heap.size + 1, n, madeCells #[.int .u8 0] n, rfl, by omega, ?_, Nat.le_refl _, by unfold maxLen; omega, by simp [madeCells], ?_⟩⟩ _) _
    · have := World.alloc_heap_new (w.alloc (.cells #[.int .i64 n] 3)) (.cells (madeCells #[.int .u8 0] n) 5)
      rwa [World.size_alloc] at this
    · rw [madeCells_one, Nat.mul_one, List.take_of_length_le (by simp), rowAt_zero]
  have hB0 : Below w.heap.size w ((((w.alloc (.cells #[.int .i64 n] 3)).alloc (.cells (madeCells #[.int .u8 0] n) 5)).alloc (.cells #[.slice (some ⟨w.heap.size + 1, 0, none⟩) n n] 40)).alloc (.cells #[.int .i64 0] 3)) := ((((Below.refl _ w).alloc (Nat.le_refl _) _).alloc (by simp) _).alloc (by simp; omega) _).alloc (by simp; omega) _
  clear hmk
  refine wpIn_range_ever hro hn1 (gf := 25) (lb := #[]) rfl h25 (enters_of Try.func25 (by kernel_rfl) rfl) (registers_ever F (nf - 1) h25 hro (by omega)) (8 * n + 1)
    (fun k W => (k ≤ 8 * n ∧ W.cell? ⟨w.heap.size, 0, none⟩ = some (.int .i64 n) ∧ W.cell? ⟨w.heap.size + 2, 0, none⟩ = some (.slice (some ⟨w.heap.size + 1, 0, none⟩) n n) ∧
        W.cell? ⟨w.heap.size + 3, 0, none⟩ = some (.int .i64 k) ∧ W.frozen? ⟨w.heap.size + 3, 0, none⟩ = false ∧ W.ownsRow w.heap.size 5 1 (.slice (some ⟨w.heap.size + 1, 0, none⟩) n n) n (rowAt n k)) ∧ Below w.heap.size w W)
    (fun c k W => (c = .exit 0 ∧ W.cell? ⟨w.heap.size + 2, 0, none⟩ = some (.slice (some ⟨w.heap.size + 1, 0, none⟩) n n) ∧ W.ownsRow w.heap.size 5 1 (.slice (some ⟨w.heap.size + 1, 0, none⟩) n n) n (rowAt n (8 * n))) ∧ Below w.heap.size w W)
    (OwnFrom.and (Own.from (fun s A B row hs hg hr => ⟨hs.1, cell_kept hs.2.1 hg hr, cell_kept hs.2.2.1 hg hr, cell_kept hs.2.2.2.1 hg hr, (frozen_kept hs.2.2.2.1 hg hr).trans hs.2.2.2.2.1, ownsRow_notCells hs.2.2.2.2.2 hg hr⟩) _) (ownFrom_below (Nat.le_refl _) (by omega)))
    (fun c => OwnFrom.and (Own.from (fun s A B row hs hg hr => ⟨hs.1, cell_kept hs.2.1 hg hr, ownsRow_notCells hs.2.2 hg hr⟩) _) (ownFrom_below (Nat.le_refl _) (by omega)))
    ⟨⟨Nat.zero_le _, hI0.1, hI0.2.1, hI0.2.2.1, hI0.2.2.2, hR0⟩, hB0⟩
    (fun k W h => by have := h.1.1; omega)
    (fun k => { tmps := #[.int .i64 n, .pointer (some ⟨w.heap.size, 0, none⟩), .slice none 0 0, .pointer (some ⟨w.heap.size + 2, 0, none⟩), .pointer (some ⟨w.heap.size + 3, 0, none⟩), .int .i64 (rg k), .int .i64 n, .slice (some ⟨w.heap.size + 1, 0, none⟩) n n, .func (.func 25) #[] #[], .int .i64 (rg k), undef, undef, undef, undef, undef, undef, undef, undef, undef, undef, undef, undef, undef, undef, undef, undef, undef, undef, undef, undef], defers := [] }) ?assign ?body ?stop
  case assign =>
    intro l k W K hK
    gi_wp2
    exact hK
  case body =>
    rintro l k W ⟨⟨hk, hc0, hc2, hc3, hf3, hR⟩, hB⟩
    clear hsz hI0 hR0 hB0
    by_cases hz : k = 8 * n
    · subst hz
      gi_wp2
      exact ⟨KeepsOthers.refl _, ⟨rfl, hc2, hR⟩, hB⟩
    · have hlt : k < 8 * n := by omega
      have hne : ((k : Int) == 8 * (n : Int)) = false := by simp; omega
      have hcell : W.cell? ⟨w.heap.size + 1, k / 8, none⟩ = some (.int .u8 (part k (k / 8))) := by rw [hR.cellAt _ (by omega), rowAt_get _ _ _ (by omega)]
      have hfr : W.frozen? ⟨w.heap.size + 1, k / 8, none⟩ = false := hR.frozenAt _
      have hmx : Try.prog.follows .mixedOrders = true := by kernel_rfl
      gi_wp2
      have hk8 : k / 8 < n := by omega
      have e2 : IntKind.i64.wrap ((k : Int) / 8) = (k : Int) / 8 := wraps_i64 _ (by omega) (by omega)
      have e5 : (0 : Int) ≤ (k : Int) / 8 := by omega
      have e6 : (k : Int) / 8 < (n : Int) := by omega
      have e7 : ((k : Int) / 8).toNat = k / 8 := by omega
      have e4 : bits .and .i64 (rg k : Int) 1 = ((bit k : Nat) : Int) := by
        have := rg_lt k
        rw [show (1 : Int) = ((1 : Nat) : Int) from rfl, i64_and _ _ (by omega) (by omega), Nat.and_one_is_mod]; rfl
      have e3 : Int.tmod (k : Int) 8 = (k : Int) % 8 := Int.tmod_eq_emod_of_nonneg (by omega)
      have e8 : IntKind.u8.wrap (bit k : Int) = (bit k : Int) := by have := bit_lt k; exact wraps_u8 _ (by omega) (by omega)
      have e9 : (0 : Int) ≤ (k : Int) % 8 := by omega
      have e10 : (k : Int) % 8 < 8 := by omega
      have e11 : ((k : Int) % 8).toNat = k % 8 := by omega
      refine wpIn_region_still_tail 13 hmx (by kernel_rfl) (by kernel_rfl) ?_
      simp only [List.take_succ_cons, List.take_zero, List.drop_succ_cons, List.drop_zero]
      repeat still_step
      refine wpStill_nil ?_
      have hval : bits .or .u8 (part k (k / 8) : Int) (IntKind.u8.wrap ((bit k : Int) * 2 ^ (k % 8))) = (part (k + 1) (k / 8) : Int) := by
        have hb1 := bit_lt k
        have h2 : bit k * 2 ^ (k % 8) < 256 := by
          have : (2 : Nat) ^ (k % 8) ≤ 2 ^ 7 := Nat.pow_le_pow_right (by decide) (by omega)
          have h3 : bit k * 2 ^ (k % 8) ≤ 1 * 2 ^ 7 := Nat.mul_le_mul (by omega) this
          omega
        have h4 : (bit k : Int) * 2 ^ (k % 8) = ((bit k * 2 ^ (k % 8) : Nat) : Int) := by push_cast; rfl
        rw [h4, wraps_u8 _ (by omega) (by exact_mod_cast h2), u8_or _ _ (part_lt _ _) h2, part_this]
      rw [hval]
      clear hval e2 e3 e4 e5 e6 e7 e8 e9 e10 e11
      change wpList _ _ _ _ _ W.drew
      go_wp2
      have hst := (hR.stored (k / 8) (.int .u8 (part (k + 1) (k / 8)))).1
      rw [rowAt_set] at hst
      have hB2 : Below w.heap.size w (W.setCell ⟨w.heap.size + 1, k / 8, none⟩ (.int .u8 (part (k + 1) (k / 8)))).drew := (hB.setCell (p := ⟨w.heap.size + 1, k / 8, none⟩) (by simp) _).drew
      have hk2 : KeepsOthers W (W.setCell ⟨w.heap.size + 1, k / 8, none⟩ (.int .u8 (part (k + 1) (k / 8)))).drew := (KeepsOthers.setCell _ _ _).trans (KeepsOthers.drew _)
      have hR2 : World.ownsRow (W.setCell ⟨w.heap.size + 1, k / 8, none⟩ (.int .u8 (part (k + 1) (k / 8)))).drew w.heap.size 5 1 (.slice (some ⟨w.heap.size + 1, 0, none⟩) n n) n (rowAt n (k + 1)) := hst.drew
      have hd0 : World.cell? (W.setCell ⟨w.heap.size + 1, k / 8, none⟩ (.int .u8 (part (k + 1) (k / 8)))).drew ⟨w.heap.size, 0, none⟩ = some (.int .i64 n) := by
        rw [cell_drew_y, cell_far _ _ _ _ (by simp)]; exact hc0
      have hd2 : World.cell? (W.setCell ⟨w.heap.size + 1, k / 8, none⟩ (.int .u8 (part (k + 1) (k / 8)))).drew ⟨w.heap.size + 2, 0, none⟩ = some (.slice (some ⟨w.heap.size + 1, 0, none⟩) n n) := by
        rw [cell_drew_y, cell_far _ _ _ _ (by simp)]; exact hc2
      have hd3 : World.cell? (W.setCell ⟨w.heap.size + 1, k / 8, none⟩ (.int .u8 (part (k + 1) (k / 8)))).drew ⟨w.heap.size + 3, 0, none⟩ = some (.int .i64 k) := by
        rw [cell_drew_y, cell_far _ _ _ _ (by simp)]; exact hc3
      have hg3 : World.frozen? (W.setCell ⟨w.heap.size + 1, k / 8, none⟩ (.int .u8 (part (k + 1) (k / 8)))).drew ⟨w.heap.size + 3, 0, none⟩ = false := by
        rw [frozen_drew_y, World.frozen?_setCell]; exact hf3
      clear hst hcell hfr hB hR hc0 hc2 hc3 hf3
      generalize (W.setCell ⟨w.heap.size + 1, k / 8, none⟩ (.int .u8 (part (k + 1) (k / 8)))).drew = W2 at *
      refine noOut_normal ?_
      gi_wp2
      refine ⟨hk2.trans (KeepsOthers.setCell _ _ _), ⟨by omega, (cell_far _ _ _ _ (by simp)).trans hd0, (cell_far _ _ _ _ (by simp)).trans hd2, ?_, by simpa using hg3, ownsRow_setCell_other hR2 (by simp [Value.ownBlock]) _⟩, hB2.setCell (p := ⟨w.heap.size + 3, 0, none⟩) (by simp) _⟩
      rw [World.cell?_setCell_same _ _ _ hd3]
      congr 2
  case stop =>
    rintro D c k W hD ⟨⟨rfl, hc2, hR⟩, hB⟩ hK
    gi_wp2
    refine ⟨by simp, .inl ⟨_, _, rfl, run_takeDeferred hK, ?_⟩⟩
    refine ⟨_, results_tmp rfl _ _ _, w.heap.size + 1, rfl, ?_, hB.trans (belowK_b (w := w) (Nat.le_refl _) W D _ _ (by omega) hK rfl rfl)⟩
    exact ownsRow_notCells hR (grownBy_putObj' _ D (.deferred none)) (fun r e => by cases e; exact ⟨_, hK, rfl⟩)
end Go.Proofs.Ytificcmcddcijaa
