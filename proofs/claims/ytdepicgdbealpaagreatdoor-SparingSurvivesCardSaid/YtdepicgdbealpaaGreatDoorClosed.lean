/- What New, Lookup and Same return, in plain words. -/
import Derived.Test.YtdepicgdbealpaaGreatDoorValidP
import Derived.Test.YtdepicgdbealpaaGreatDoorV4
namespace Go.Proofs.YtdepicgdbealpaaGreatDoor.Spare
set_option linter.unusedVariables false
set_option linter.unusedSimpArgs false
open Go.RowKit Go.Proofs.YtdepicgdbealpaaGreatDoorW.PrintWords Go.Proofs.YtdepicgdbealpaaGreatDoorW.PrintLast Go.Proofs.YtdepicgdbealpaaGreatDoorW.PrintMore
open Go.Proofs.YtdepicgdbealpaaGreatDoor.V

deriving instance DecidableEq for S54

theorem rd_get (l : List S54) (i : Nat) (h : i < l.length) : rd_T54 l i = l[i] := by
 unfold rd_T54
 rw [Int.toNat_natCast, List.getD_eq_getElem?_getD, List.getElem?_eq_getElem h]; rfl

/-! ### Same -/
def sameF (s1 : Int) (l1 : List S54) (s2 : Int) (l2 : List S54) : Bool := decide (s1 = s2) && decide (l1 = l2)

theorem same_l0 (s1 : Int) (l1 : List S54) (s2 : Int) (l2 : List S54) (hl : l1.length = l2.length) (hn : l1.length ≤ 9223372036854775807) : ∀ (r i m : Nat), i + r = l1.length →
  masterdiscref39_Same.l0 (m + r + 1) i s1 l1 s2 l2 = some (decide (l1.drop i = l2.drop i))
 | 0, i, m, h => by
  unfold masterdiscref39_Same.l0
  rw [if_neg (by omega), List.drop_of_length_le (by omega), List.drop_of_length_le (by omega)]
  simp
 | r + 1, i, m, h => by
  unfold masterdiscref39_Same.l0
  have ih := same_l0 s1 l1 s2 l2 hl hn r (i + 1) m (by omega)
  rw [if_pos (by omega), if_pos (by omega), if_pos (by omega), rd_get l1 i (by omega), rd_get l2 i (by omega), w64 _ (by omega), show ((i : Int) + 1) = ((i + 1 : Nat) : Int) by omega, show m + (r + 1) = m + r + 1 by omega, ih]
  rw [List.drop_eq_getElem_cons (show i < l1.length by omega), List.drop_eq_getElem_cons (show i < l2.length by omega)]
  generalize l1[i] = x
  generalize l2[i] = y
  generalize l1.drop (i + 1) = p
  generalize l2.drop (i + 1) = q
  by_cases hxy : x = y
  ·subst hxy
   rw [if_neg (by simp)]
   simp
  ·rw [if_pos ?_]
   ·simp [hxy]
   ·rcases x with ⟨a, b⟩
    rcases y with ⟨c, d⟩
    simp only [S54.mk.injEq, not_and] at hxy
    by_cases h1 : a = c
    ·have := hxy h1
     simp [h1, this]
    ·simp [h1]

theorem same_is (s1 : Int) (l1 : List S54) (s2 : Int) (l2 : List S54) (hn : l1.length ≤ 9223372036854775807) : masterdiscref39_Same.f (l1.length + 2) s1 l1 s2 l2 = some (sameF s1 l1 s2 l2) := by
 unfold masterdiscref39_Same.f sameF
 have hj : ∀ b, masterdiscref39_Same.j0 (l1.length + 2) b s1 l1 s2 l2 = if b = true then some false else masterdiscref39_Same.l0 (0 + l1.length + 1) 0 s1 l1 s2 l2 := by
  intro b; rw [show l1.length + 2 = (0 + l1.length + 1) + 1 by omega, masterdiscref39_Same.j0]
 rw [hj, hj]
 by_cases h1 : s1 = s2
 ·rw [if_pos h1]
  by_cases h2 : l1.length = l2.length
  ·rw [if_neg (by simp [h2])]
   have := same_l0 s1 l1 s2 l2 h2 hn l1.length 0 0 (by omega)
   rw [show ((0 : Nat) : Int) = 0 from rfl] at this
   rw [this]
   simp [h1]
  ·rw [if_pos (by simp; omega)]
   have : l1 ≠ l2 := fun e => h2 (by rw [e])
   simp [this]
 ·rw [if_neg h1, if_pos rfl]; simp [h1]

/-! ### Lookup -/
def lookF (l : List S54) (start count block : Int) : Int × Int :=
 if block < 0 ∨ block ≥ count then (0, 2)
 else match l.find? (fun x => decide (x.f0 = wrap64 (block - Int.tmod block 8))) with
  | some x => (wrap64 (x.f1 + Int.tmod block 8), 0)
  | none => (wrap64 (start + block), 0)

theorem look_l0 (l : List S54) (start count block : Int) (hn : l.length ≤ 9223372036854775807) : ∀ (r i m : Nat), i + r = l.length →
  sparing_Lookup.l0 (m + r + 1) block l (l.length : Int) i start count = some (match (l.drop i).find? (fun x => decide (x.f0 = wrap64 (block - Int.tmod block 8))) with
   | some x => (wrap64 (x.f1 + Int.tmod block 8), 0)
   | none => (wrap64 (start + block), 0))
 | 0, i, m, h => by
  unfold sparing_Lookup.l0
  rw [if_neg (by omega), List.drop_of_length_le (by omega)]
  rfl
 | r + 1, i, m, h => by
  unfold sparing_Lookup.l0
  have ih := look_l0 l start count block hn r (i + 1) m (by omega)
  rw [if_pos (by omega), if_pos (by omega), if_pos (by omega), rd_get l i (by omega), w64 ((i : Int) + 1) (by omega), show ((i : Int) + 1) = ((i + 1 : Nat) : Int) by omega, show m + (r + 1) = m + r + 1 by omega, ih]
  rw [List.drop_eq_getElem_cons (show i < l.length by omega), List.find?_cons]
  generalize l[i] = x
  by_cases h1 : x.f0 = wrap64 (block - Int.tmod block 8)
  ·rw [if_pos h1, decide_eq_true h1]
  ·rw [if_neg h1, decide_eq_false h1]

theorem look_is (l : List S54) (start count block : Int) (hn : l.length ≤ 9223372036854775807) : sparing_Lookup.f (l.length + 2) l start count block = some (lookF l start count block) := by
 unfold sparing_Lookup.f lookF
 have hj : ∀ b, sparing_Lookup.j0 (l.length + 2) l block b start count = if b = true then some (0, 2) else sparing_Lookup.l0 (0 + l.length + 1) block l (l.length : Int) 0 start count := by
  intro b; rw [show l.length + 2 = (0 + l.length + 1) + 1 by omega, sparing_Lookup.j0]
 rw [hj, hj]
 have := look_l0 l start count block hn l.length 0 0 (by omega)
 rw [show ((0 : Nat) : Int) = 0 from rfl, List.drop_zero] at this
 rw [this]
 by_cases h1 : block < 0
 ·rw [if_pos h1, if_pos rfl, if_pos (.inl h1)]
 ·rw [if_neg h1]
  by_cases h2 : block ≥ count
  ·rw [if_pos (by simpa using h2), if_pos (.inr h2)]
  ·rw [if_neg (by simpa using h2), if_neg (by omega)]

/-! ### New -/
def newL (start : Int) : Nat → Nat → List S54
 | _, 0 => []
 | i, r + 1 => ⟨4294967295, start + 8 * i⟩ :: newL start (i + 1) r
def newF (start count : Int) : Int × List S54 × Int :=
 if start < 0 ∨ count < 8 ∨ count > 64 ∨ Int.tmod count 8 ≠ 0 ∨ start > 4096 - count then (0, [], 2) else (1, newL start 0 (Int.tdiv count 8).toNat, 0)

theorem new_l0 (n : Nat) (hn : n ≤ 8) (start count : Int) (h0 : 0 ≤ start) (h1 : start ≤ 4096) : ∀ (r i m : Nat) (acc : List S54), i + r = n → acc.length = i →
  sparing_New.l0 (m + r + 1) n i start count 1 acc = some (1, acc ++ newL start i r, 0)
 | 0, i, m, acc, h, ha => by
  unfold sparing_New.l0
  rw [if_neg (by omega)]
  simp [newL]
 | r + 1, i, m, acc, h, ha => by
  unfold sparing_New.l0
  have ih := new_l0 n hn start count h0 h1 r (i + 1) m (acc ++ [⟨4294967295, start + 8 * i⟩]) (by omega) (by simp [ha])
  rw [if_pos (by omega), if_pos (by omega), w64 ((i : Int) + 1) (by omega), w64 (8 * (i : Int)) (by omega), w64 (start + 8 * (i : Int)) (by omega), show ((i : Int) + 1) = ((i + 1 : Nat) : Int) by omega, show m + (r + 1) = m + r + 1 by omega, ih]
  simp [newL]

theorem new_is (start count : Int) : sparing_New.f 20 start count = some (newF start count) := by
 unfold sparing_New.f newF
 have hj : ∀ b, sparing_New.j0 20 count b start count = if b = true then some (0, [], 2) else sparing_New.l0 19 (wrap64 (Int.tdiv count 8)) 0 start count 1 [] := by
  intro b; rw [show (20 : Nat) = 19 + 1 from rfl, sparing_New.j0]
 rw [hj, hj]
 by_cases h1 : start < 0
 ·rw [if_pos h1, if_pos rfl, if_pos (.inl h1)]
 rw [if_neg h1]
 by_cases h2 : count < 8
 ·rw [if_pos h2, if_pos rfl, if_pos (.inr (.inl h2))]
 rw [if_neg h2]
 by_cases h3 : count > 64
 ·rw [if_pos h3, if_pos rfl, if_pos (.inr (.inr (.inl h3)))]
 rw [if_neg h3]
 by_cases h4 : Int.tmod count 8 = 0
 ·rw [if_pos h4, w64 (4096 - count) (by omega)]
  by_cases h5 : start > 4096 - count
  ·rw [if_pos (by simpa using h5), if_pos (.inr (.inr (.inr (.inr h5))))]
  ·rw [if_neg (by simpa using h5), if_neg (by omega)]
   have hd : Int.tdiv count 8 = count / 8 := Int.tdiv_eq_ediv_of_nonneg (by omega)
   obtain ⟨n, hn⟩ : ∃ n : Nat, Int.tdiv count 8 = n := ⟨(count / 8).toNat, by rw [hd]; omega⟩
   have hn8 : n ≤ 8 := by omega
   have := new_l0 n hn8 start count (by omega) (by omega) n 0 (18 - n) [] (by omega) rfl
   rw [hn, w64 _ (by omega), show (19 : Nat) = 18 - n + n + 1 by omega, Int.toNat_natCast]
   exact this
 ·rw [if_neg h4, if_pos rfl, if_pos (.inr (.inr (.inr (.inl h4))))]

end Go.Proofs.YtdepicgdbealpaaGreatDoor.Spare
