/-
  The scrambler's Scramble as a plain function, and that the call answers so.
-/
import Derived.Test.YtificcmcddcijaaExt
namespace Go.Proofs.Ytificcmcddcijaa.Ext
open Go Go.RowKit Go.Shelf Go.Proofs.YtificcmcddcijaaW.PrintWords
set_option linter.unusedSimpArgs false

set_option maxHeartbeats 400000 in
theorem Scramble_no (a0 : ByteArray) (hb : a0.size ≠ 2352) (w : World) :
    Calls Try.prog 16 #[.string a0] w fun e w' => e = .returned (.tuple #[.string (⟨#[]⟩ : ByteArray), .int .i64 1]) ∧ Below w.heap.size w w' := by
  have HB := Lib.hid (Below.refl w.heap.size w)
  have h0 : ((a0.size : Int) != 2352) = true := by simp; omega
  go_enter Try.func16, Try.ntmps16
  go_wp2
  go_ret2
  exact ⟨rfl, HB.out⟩

theorem sequence_g (n : Nat) (hb : n ≤ 1000000) (w : World) :
    Calls Try.prog 21 #[.int .i64 n] w fun e w' => ∃ g, e = .returned (.slice (some ⟨g, 0, none⟩) n n) ∧ w.heap.size ≤ g ∧ (∀ j, j < n → w'.cell? ⟨g, j, none⟩ = some (.int .u8 (byt j))) ∧ Below w.heap.size w w' := by
  refine ((callsIn_wide (n := 6)).1 (sequence_in Fence.wide 6 trivial trivial trivial rfl (by decide) n hb w)).mono ?_
  rintro e w' ⟨g, he, hr, hB⟩
  refine ⟨g, he, own_base hr g rfl, fun j hj => ?_, hB⟩
  rw [hr.cellAt j (by omega), rowAt_get _ _ _ hj, part_full _ _ hj]

/-- The bytes of the sector when k of them have been combined. -/
def mix (s : ByteArray) (k j : Nat) : Int := if 12 ≤ j ∧ j < 12 + k then Go.bits .xor .u8 (bt s j) (byt (j - 12)) else bt s j

theorem mix_same (s : ByteArray) (k : Nat) : mix s (k + 1) (12 + k) = Go.bits .xor .u8 (mix s k (12 + k)) (byt k) := by
  unfold mix
  rw [if_pos (by omega), if_neg (by omega), show 12 + k - 12 = k by omega]
theorem mix_other (s : ByteArray) (k j : Nat) (h : j ≠ 12 + k) : mix s (k + 1) j = mix s k j := by
  unfold mix
  by_cases h1 : 12 ≤ j ∧ j < 12 + k
  · rw [if_pos h1, if_pos (by omega)]
  · rw [if_neg h1, if_neg (by omega)]
theorem frozen_bytesWorld (w : World) (e : TypeId) (s : ByteArray) (j : Nat) (hj : j < s.size) : (Lib.bytesWorld w e s).frozen? ⟨w.heap.size, j, none⟩ = false := by
  have h := Lib.bytesWorld_at_new w e s
  simp only [World.frozen?, h]
  have h2 : s.size ≤ (Lib.bytesCells w e s).size := by
    have hc := Lib.bytesWorld_cell w e s (s.size - 1) (by omega)
    simp only [World.cell?, h] at hc
    have := (Array.getElem?_eq_some_iff.1 (by simpa using hc)).1
    omega
  simp
  omega

set_option maxRecDepth 100000 in
set_option maxHeartbeats 1000000 in
theorem Scramble_yes (a0 : ByteArray) (hb : a0.size = 2352) (w : World) :
    Calls Try.prog 16 #[.string a0] w fun e w' => e = .returned (.tuple #[.string (strOfNums ((List.range 2352).map fun j => mix a0 2340 j)), .int .i64 0]) ∧ Below w.heap.size w w' := by
  have h0 : ((a0.size : Int) != 2352) = false := by simp; omega
  have H := Lib.hid hb
  clear hb
  have kb := fun W => print_bytes (P := Try.prog) 9 40 5 Try.underlying9 Try.underlying40 Try.underlying5 a0 W
  go_enter Try.func16, Try.ntmps16
  go_wp2_with (go_at_call 21; refine (sequence_g 2340 (by decide) _).mono ?_; rintro e w' ⟨g, rfl, hg, hkey, hB⟩)
  clear kb
  go_loopw [13] (fun i wr => ∃ k : Nat, i = .int .i64 k ∧ k ≤ 2340 ∧ (∀ j, j < 2352 → wr.cell? ⟨w.heap.size, j, none⟩ = some (.int .u8 (mix a0 k j))) ∧ (∀ j, j < 2352 → wr.frozen? ⟨w.heap.size, j, none⟩ = false) ∧
      (∀ j, j < 2340 → wr.cell? ⟨g, j, none⟩ = some (.int .u8 (byt j))) ∧ Below w.heap.size w wr) (fun i _ => 2340 - (intOf i).toNat)
  case atStart =>
    refine ⟨0, rfl, by decide, fun j hj => ?_, fun j hj => ?_, hkey, ?_⟩
    · have hj' : j < a0.size := by have := H.out; omega
      rw [hB.cell (p := ⟨w.heap.size, j, none⟩) (by rw [Lib.bytesWorld_size]; simp), Lib.bytesWorld_cell w 5 a0 j hj']
      have : mix a0 0 j = bt a0 j := by unfold mix; rw [if_neg (by omega)]
      rw [this, ← rd_bytesOf]
      have h' : j < a0.data.toList.length := by rw [data_length]; exact hj'
      simp [rd, bytesOf, List.getD_eq_getElem?_getD, List.getElem?_eq_getElem h']
    · have hj' : j < a0.size := by have := H.out; omega
      rw [hB.frozen (p := ⟨w.heap.size, j, none⟩) (by rw [Lib.bytesWorld_size]; simp)]
      exact frozen_bytesWorld w 5 a0 j hj'
    · exact below_step (bytes_below (Below.refl _ _) (Nat.le_refl _) 5 a0) hB
  case round =>
    obtain ⟨k, rfl, hk, hout, hfr, hkey', hBr⟩ := hrel
    by_cases hlt : k < 2340
    · have c1 := hout (12 + k) (by omega)
      have f1 := hfr (12 + k) (by omega)
      have c2 := hkey' k hlt
      have i1 : IntKind.i64.wrap (12 + (k : Int)) = 12 + (k : Int) := wraps_i64 _ (by omega) (by omega)
      have i2 : (0 : Int) ≤ 12 + (k : Int) := by omega
      have i3 : (12 + (k : Int)).toNat = 12 + k := by omega
      have i4 : 12 + (k : Int) < (a0.size : Int) := by have := H.out; omega
      have i5 : (k : Int) < 2340 := by omega
      have HO := Lib.hid hout
      have HF := Lib.hid hfr
      have HK := Lib.hid hkey'
      clear hout hfr hkey'
      have hmx : Try.prog.follows .mixedOrders = true := by kernel_rfl
      go_wp2
      go_still_tail 11, hmx
      rw [← mix_same a0 k]
      change wpList _ _ _ _ _ wr.drew
      clear i1 i2 i3 i4
      go_wp2
      have hgs : w.heap.size ≠ g := by
        rw [Lib.bytesWorld_size] at hg
        omega
      have hout2 : ∀ j, j < 2352 → World.cell? (wr.setCell ⟨w.heap.size, 12 + k, none⟩ (.int .u8 (mix a0 (k + 1) (12 + k)))).drew ⟨w.heap.size, j, none⟩ = some (.int .u8 (mix a0 (k + 1) j)) := by
        intro j hj
        rw [cell_drew_y]
        by_cases e : j = 12 + k
        · subst e; exact World.cell?_setCell_same _ _ _ c1
        · rw [World.cell?_setCell_other _ _ _ _ (fun h => e (by simpa using (congrArg Addr.off h).symm)), mix_other a0 k j e]
          exact HO.out j hj
      go_roundw
      case rel =>
        refine ⟨k + 1, by go_num, by omega, hout2, fun j hj => ?_, fun j hj => ?_, (hBr.setCell (p := ⟨w.heap.size, 12 + k, none⟩) (Nat.le_refl _) _).drew⟩
        · rw [frozen_drew_y, World.frozen?_setCell]; exact HF.out j hj
        · rw [cell_drew_y, cell_far _ _ _ _ (by simpa using hgs)]; exact HK.out j hj
      case measure => simp [intOf]; omega
    · obtain rfl : k = 2340 := by omega
      have hread : ReadsInt wr .u8 (some ⟨w.heap.size, 0, none⟩) a0.size ((List.range 2352).map fun j => mix a0 2340 j) := by
        refine ⟨by simp [H.out], by rw [H.out]; decide, fun _ => ⟨_, rfl, fun j hj => ?_⟩⟩
        rw [H.out] at hj
        rw [add_plain, hout j hj]
        simp [List.getD_eq_getElem?_getD, hj]
      have kc := fun c => string_of_reads (P := Try.prog) (src := 40) (dst := 9) (c := c) Try.underlying40 Try.underlying5 Try.underlying9 hread
      clear hread hout hfr hkey' hkey
      obtain ⟨ys, hys⟩ : ∃ ys, ys = ((List.range 2352).map fun j => mix a0 2340 j) := ⟨_, rfl⟩
      rw [← hys] at kc
      have HY := Lib.hid hys
      clear hys
      go_wp2
      go_ret2
      refine ⟨?_, hBr⟩
      show Ending.returned (.tuple #[.string (strOfNums ys), .int .i64 0]) = _
      rw [HY.out]

def scrambler_Scramble.f (a0 : ByteArray) : Option (ByteArray × Int) := if a0.size ≠ 2352 then some ((⟨#[]⟩ : ByteArray), 1) else some (strOfNums ((List.range 2352).map fun j => mix a0 2340 j), 0)
theorem scrambler_Scramble.calls (a0 : ByteArray) (r1 : ByteArray) (r2 : Int) (w : World) (h : scrambler_Scramble.f a0 = some (r1, r2)) :
    Calls Try.prog 16 #[.string a0] w fun e w' => e = .returned (.tuple #[.string r1, .int .i64 r2]) ∧ Below w.heap.size w w' := by
  unfold scrambler_Scramble.f at h
  split at h
  · rename_i hc
    simp only [Option.some.injEq, Prod.mk.injEq] at h
    obtain ⟨rfl, rfl⟩ := h
    exact Scramble_no a0 hc w
  · rename_i hc
    simp only [Option.some.injEq, Prod.mk.injEq] at h
    obtain ⟨rfl, rfl⟩ := h
    exact Scramble_yes a0 (by omega) w
end Go.Proofs.Ytificcmcddcijaa.Ext
