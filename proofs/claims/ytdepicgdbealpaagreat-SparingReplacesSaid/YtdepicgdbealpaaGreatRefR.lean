/- The reference's Lookup, Replace and Update are the program's. -/
import Derived.Test.YtdepicgdbealpaaGreatEncC
import Derived.Test.YtdepicgdbealpaaGreatU1
import Derived.Test.YtdepicgdbealpaaGreatV9
import Derived.Test.YtdepicgdbealpaaGreatV11
import Derived.Test.YtdepicgdbealpaaGreatV12
import Derived.Test.YtdepicgdbealpaaGreatSpareD
namespace Go.Proofs.YtdepicgdbealpaaGreat.Enc
set_option linter.unusedVariables false
open Go.RowKit Go.Lib Go.Proofs.YtdepicgdbealpaaGreatW.PrintWords Go.Proofs.YtdepicgdbealpaaGreatW.PrintLast Go.Proofs.YtdepicgdbealpaaGreatW.PrintMore
open Go.Proofs.YtdepicgdbealpaaGreat Go.Proofs.YtdepicgdbealpaaGreat.V Go.Proofs.YtdepicgdbealpaaGreat.Spare

/-! ### Lookup -/
theorem rlook_l0 (l : List S48) (start count block : Int) (h0 : 0 ≤ block) (hb : block ≤ 9223372036854775807) (hn : l.length ≤ 9223372036854775807) : ∀ (r i m : Nat), i + r = l.length →
    masterdiscref39_Lookup.l0 (m + r + 1) l block i start count = some (match (l.drop i).find? (fun x => decide (x.f0 = wrap64 (block - Int.tmod block 8))) with
      | some x => (wrap64 (x.f1 + Int.tmod block 8), 0)
      | none => (wrap64 (start + block), 0))
  | 0, i, m, h => by
    rw [masterdiscref39_Lookup.l0, if_neg (by omega), List.drop_of_length_le (by omega)]
    rfl
  | r + 1, i, m, h => by
    have ih := rlook_l0 l start count block h0 hb hn r (i + 1) m (by omega)
    have hi : i < l.length := by omega
    have e : wrap64 (wrap64 (Int.tdiv block 8) * 8) = wrap64 (block - Int.tmod block 8) := by
      rw [Int.tdiv_eq_ediv_of_nonneg h0, Int.tmod_eq_emod_of_nonneg h0, w64e (block / 8) (by omega), w64e _ (by omega), w64e _ (by omega)]
      omega
    rw [masterdiscref39_Lookup.l0, if_pos (by omega), if_pos (by omega), rd_get l i hi, e, w64e ((i : Int) + 1) (by omega), show ((i : Int) + 1) = ((i + 1 : Nat) : Int) by omega, show m + (r + 1) = m + r + 1 by omega, ih]
    rw [List.drop_eq_getElem_cons hi]
    generalize l[i] = x
    by_cases hx : x.f0 = wrap64 (block - Int.tmod block 8)
    · rw [if_pos hx, List.find?_cons]
      simp only [decide_eq_true hx]
    · rw [if_neg hx, List.find?_cons]
      simp only [decide_eq_false hx]

theorem rlook_K (l : List S48) (start count block : Int) (hb : block ≤ 9223372036854775807) (hn : l.length ≤ 9223372036854775807) (K : Nat) (hK : l.length + 2 ≤ K) : masterdiscref39_Lookup.f K l start count block = some (lookF l start count block) := by
  obtain ⟨q, rfl⟩ : ∃ q, K = q + 1 := ⟨K - 1, by omega⟩
  unfold masterdiscref39_Lookup.f lookF
  rw [masterdiscref39_Lookup.j0, masterdiscref39_Lookup.j0]
  by_cases h0 : block < 0
  · rw [if_pos h0, if_pos rfl, if_pos (Or.inl h0)]
  · rw [if_neg h0]
    by_cases h1 : block ≥ count
    · rw [if_pos (decide_eq_true h1), if_pos (Or.inr h1)]
    · rw [if_neg (by simp; omega), if_neg (by omega)]
      have := rlook_l0 l start count block (by omega) hb hn l.length 0 (q - l.length - 1) (by omega)
      rw [show q - l.length - 1 + l.length + 1 = q by omega, List.drop_zero] at this
      rw [show masterdiscref39_Lookup.l0 q l block 0 start count = _ from this]
      cases List.find? (fun x => decide (x.f0 = wrap64 (block - Int.tmod block 8))) l <;> rfl

/-! ### The free packet that is taken -/
/-- The first of the free packets with the lowest place. -/
structure IsBest (l : List S48) (b : Nat) : Prop where
  lt : b < l.length
  free : (rd_T48 l b).f0 = 4294967295
  low : ∀ j : Nat, j < l.length → (rd_T48 l j).f0 = 4294967295 → (rd_T48 l b).f1 ≤ (rd_T48 l j).f1 ∧ ((rd_T48 l j).f1 = (rd_T48 l b).f1 → b ≤ j)

theorem isBest_unique {l : List S48} {a b : Nat} (ha : IsBest l a) (hb : IsBest l b) : a = b := by
  obtain ⟨h1, h2⟩ := ha.low b hb.lt hb.free
  obtain ⟨h3, h4⟩ := hb.low a ha.lt ha.free
  have e : (rd_T48 l a).f1 = (rd_T48 l b).f1 := by omega
  have := h2 e.symm
  have := h4 e
  omega

/-- What holds when the entries below i have been looked at. -/
def Upto (l : List S48) (b : Int) (i : Nat) : Prop :=
  (b = -1 ∧ ∀ j : Nat, j < i → (rd_T48 l j).f0 ≠ 4294967295) ∨ (∃ n : Nat, b = n ∧ n < i ∧ (rd_T48 l n).f0 = 4294967295 ∧ ∀ j : Nat, j < i → (rd_T48 l j).f0 = 4294967295 → (rd_T48 l n).f1 ≤ (rd_T48 l j).f1 ∧ ((rd_T48 l j).f1 = (rd_T48 l n).f1 → n ≤ j))

theorem upto_step (l : List S48) (b : Int) (i : Nat) (h : Upto l b i) : Upto l (if (rd_T48 l i).f0 = 4294967295 then (if b < 0 then (i : Int) else if (rd_T48 l i).f1 < (rd_T48 l b).f1 then (i : Int) else b) else b) (i + 1) := by
  by_cases h1 : (rd_T48 l i).f0 = 4294967295
  · rw [if_pos h1]
    rcases h with ⟨rfl, hn⟩ | ⟨n, rfl, hn, hf, hl⟩
    · rw [if_pos (by decide)]
      refine .inr ⟨i, rfl, by omega, h1, fun j hj hjf => ?_⟩
      by_cases e : j = i
      · subst e; exact ⟨Int.le_refl _, fun _ => Nat.le_refl _⟩
      · exact absurd hjf (hn j (by omega))
    · rw [if_neg (by omega)]
      by_cases h2 : (rd_T48 l i).f1 < (rd_T48 l n).f1
      · rw [if_pos h2]
        refine .inr ⟨i, rfl, by omega, h1, fun j hj hjf => ?_⟩
        by_cases e : j = i
        · subst e; exact ⟨Int.le_refl _, fun _ => Nat.le_refl _⟩
        · have := hl j (by omega) hjf
          exact ⟨by omega, fun h => by omega⟩
      · rw [if_neg h2]
        refine .inr ⟨n, rfl, by omega, hf, fun j hj hjf => ?_⟩
        by_cases e : j = i
        · subst e; exact ⟨by omega, fun _ => by omega⟩
        · exact hl j (by omega) hjf
  · rw [if_neg h1]
    rcases h with ⟨rfl, hn⟩ | ⟨n, rfl, hn, hf, hl⟩
    · refine .inl ⟨rfl, fun j hj => ?_⟩
      by_cases e : j = i
      · subst e; exact h1
      · exact hn j (by omega)
    · refine .inr ⟨n, rfl, by omega, hf, fun j hj hjf => ?_⟩
      by_cases e : j = i
      · subst e; exact absurd hjf h1
      · exact hl j (by omega) hjf

theorem better_if (l : List S48) (b : Int) (i : Nat) : (if better l b i = true then (i : Int) else b) = if (rd_T48 l i).f0 = 4294967295 then (if b < 0 then (i : Int) else if (rd_T48 l i).f1 < (rd_T48 l b).f1 then (i : Int) else b) else b := by
  unfold better
  by_cases h1 : (rd_T48 l i).f0 = 4294967295
  · rw [if_pos h1]
    by_cases h2 : b < 0
    · rw [if_pos h2, if_pos (by simp [h1, h2])]
    · rw [if_neg h2]
      by_cases h3 : (rd_T48 l i).f1 < (rd_T48 l b).f1
      · rw [if_pos h3, if_pos (by simp [h1, h3])]
      · rw [if_neg h3, if_neg (by simp [h1, h2, h3])]
  · rw [if_neg h1, if_neg (by simp [h1])]

theorem upto_best (l : List S48) : ∀ r (b : Int) i, i + r = l.length → Upto l b i → Upto l (bestFrom l b i r) l.length
  | 0, b, i, h, hu => by
    rw [show l.length = i by omega]
    exact hu
  | r + 1, b, i, h, hu => by
    unfold bestFrom
    refine upto_best l r _ (i + 1) (by omega) ?_
    rw [better_if]
    exact upto_step l b i hu

theorem best_is (l : List S48) : (best l = -1 ∧ ∀ j : Nat, j < l.length → (rd_T48 l j).f0 ≠ 4294967295) ∨ ∃ n : Nat, best l = n ∧ IsBest l n := by
  have h := upto_best l l.length (-1) 0 (by omega) (.inl ⟨rfl, fun j hj => absurd hj (Nat.not_lt_zero _)⟩)
  rcases h with ⟨h1, h2⟩ | ⟨n, h1, h2, h3, h4⟩
  · exact .inl ⟨h1, h2⟩
  · exact .inr ⟨n, h1, h2, h3, h4⟩

/-- The reference's first loop. -/
theorem rrep_l0 (l : List S48) (x1 s : Int) (h8 : l.length ≤ 8) : ∀ (r i m : Nat) (b : Int), i + r = l.length → (b = -1 ∨ (0 ≤ b ∧ b < i)) → masterdiscref39_Replace.l0 (m + r + 1) x1 b i s l =
    if bestFrom l b i r < 0 then some (0, [], 0, 12) else if s = 4294967295 then some (0, [], 0, 7) else masterdiscref39_Replace.l1 m (bestFrom l b i r) (wrap64 (wrap64 (Int.tdiv x1 8) * 8)) 0 s l (wrap64 (s + 1)) []
  | 0, i, m, b, h, hb => by
    rw [masterdiscref39_Replace.l0, if_neg (by omega)]
    rfl
  | r + 1, i, m, b, h, hb => by
    have hw : wrap64 ((i : Int) + 1) = ((i + 1 : Nat) : Int) := by rw [w64e _ (by omega)]; omega
    have ih := rrep_l0 l x1 s h8 r (i + 1) m
    have hbf : bestFrom l b i (r + 1) = bestFrom l (if better l b i = true then (i : Int) else b) (i + 1) r := rfl
    rw [hbf, better_if, masterdiscref39_Replace.l0, if_pos (by omega), if_pos (by omega), hw, show m + (r + 1) = m + r + 1 by omega]
    by_cases h1 : (rd_T48 l i).f0 = 4294967295
    · rw [if_pos h1, if_pos h1]
      by_cases h2 : b < 0
      · rw [if_pos h2, if_pos h2]
        exact ih i (by omega) (.inr ⟨by omega, by omega⟩)
      · rw [if_neg h2, if_neg h2, if_pos (by omega), if_pos (by omega)]
        by_cases h3 : (rd_T48 l i).f1 < (rd_T48 l b).f1
        · rw [if_pos h3, if_pos h3]
          exact ih i (by omega) (.inr ⟨by omega, by omega⟩)
        · rw [if_neg h3, if_neg h3]
          exact ih b (by omega) (by omega)
    · rw [if_neg h1, if_neg h1]
      exact ih b (by omega) (by omega)

/-! ### The sorted insertion -/
theorem before_f (x y : S48) : masterdiscref39_before.f x.f0 x.f1 y.f0 y.f1 = some (lt x y) := by
  unfold masterdiscref39_before.f lt
  by_cases h1 : x.f0 < y.f0
  · rw [if_pos h1, if_pos (by simp; omega), decide_eq_true h1]
  · rw [if_neg h1]
    by_cases h2 : x.f0 = y.f0
    · rw [if_pos h2, if_neg (by simp [h2])]
    · rw [if_neg h2, if_pos (by simpa using h2), decide_eq_false h1]

/-- The entry ahead of the first greater one. -/
def insB (x : S48) : List S48 → List S48
  | [] => [x]
  | y :: l => if lt x y = true then x :: y :: l else y :: insB x l
theorem insB_perm (x : S48) : ∀ l, (insB x l).Perm (x :: l)
  | [] => List.Perm.refl _
  | y :: l => by
    unfold insB
    split
    · exact List.Perm.refl _
    · exact ((insB_perm x l).cons y).trans (List.Perm.swap x y l)
theorem insB_sorted (x : S48) : ∀ l, l.Pairwise Le → (insB x l).Pairwise Le
  | [], _ => List.pairwise_singleton _ _
  | y :: l, h => by
    unfold insB
    have h' := List.pairwise_cons.1 h
    split
    · next hx =>
      refine List.pairwise_cons.2 ⟨fun z hz => ?_, h⟩
      have hxy : Le x y := by unfold Le; rw [lt_iff] at hx; rw [lt_false]; omega
      rcases List.mem_cons.1 hz with rfl | hz
      · exact hxy
      · exact le_trans' hxy (h'.1 z hz)
    · next hx =>
      refine List.pairwise_cons.2 ⟨fun z hz => ?_, insB_sorted x l h'.2⟩
      rcases List.mem_cons.1 ((insB_perm x l).mem_iff.1 hz) with rfl | hz
      · unfold Le; exact Bool.eq_false_iff.2 hx
      · exact h'.1 z hz

theorem rins_l0 (x : S48) (l : List S48) (hl : l.length ≤ 100) : ∀ (r i m : Nat) (out : List S48) (d : Bool), i + r = l.length → out.length ≤ i + (if d = true then 1 else 0) →
    masterdiscref39_insert.l0 (m + r + 1) l out d i x.f0 x.f1 = some (out ++ (if d = true then l.drop i else insB x (l.drop i)))
  | 0, i, m, out, d, h, ho => by
    rw [masterdiscref39_insert.l0, if_neg (by omega), List.drop_of_length_le (by omega)]
    cases d with
    | true => simp
    | false =>
      simp at ho
      rw [if_neg (by decide), if_pos (by omega)]; rfl
  | r + 1, i, m, out, d, h, ho => by
    have hi : i < l.length := by omega
    have hw : wrap64 ((i : Int) + 1) = ((i + 1 : Nat) : Int) := by rw [w64e _ (by omega)]; omega
    have ih := rins_l0 x l hl r (i + 1) m
    rw [masterdiscref39_insert.l0, if_pos (by omega), show m + (r + 1) = m + r + 1 by omega, rd_get l i hi, hw]
    rw [List.drop_eq_getElem_cons hi]
    generalize l[i] = y
    cases d with
    | true =>
      simp at ho
      rw [if_pos rfl, if_pos (by omega), if_pos (by omega), ih _ true (by omega) (by simp; omega)]
      simp
    | false =>
      simp at ho
      rw [if_neg (by decide), if_pos (by omega), before_f, Option.bind_some]
      by_cases hb : lt x y = true
      · rw [if_pos hb, if_pos (by omega), Option.bind_some, if_pos (by simp; omega)]
        have h2 := ih ((out ++ [x]) ++ [y]) true (by omega) (by simp; omega)
        rw [show (⟨y.f0, y.f1⟩ : S48) = y from rfl, show (⟨x.f0, x.f1⟩ : S48) = x from rfl, h2]
        simp [insB, hb]
      · rw [if_neg hb, if_pos (by omega), ih _ false (by omega) (by simp; omega)]
        simp [insB, hb]

theorem rins_K (x : S48) (l : List S48) (hl : l.length ≤ 100) (K : Nat) (hK : l.length + 1 ≤ K) : masterdiscref39_insert.f K l x.f0 x.f1 = some (insB x l) := by
  obtain ⟨m, rfl⟩ : ∃ m, K = m + l.length + 1 := ⟨K - (l.length + 1), by omega⟩
  have := rins_l0 x l hl l.length 0 m [] false (by omega) (by simp)
  simpa [masterdiscref39_insert.f] using this

/-- The reference's second loop: entry i, the one that is taken having the new packet, those of the packet left out. -/
def pickL (l : List S48) (b : Nat) (first : Int) (i : Nat) : List S48 := if i = b then [⟨first, (rd_T48 l i).f1⟩] else if (rd_T48 l i).f0 = first then [] else [rd_T48 l i]
def foldI (out : List S48) (M : List S48) : List S48 := M.foldl (fun o x => insB x o) out

theorem rrep_l1 (l : List S48) (b : Nat) (first s s1 : Int) (h8 : l.length ≤ 8) (hb : b < l.length) : ∀ (r i m : Nat) (out : List S48), i + r = l.length → out.length ≤ i →
    masterdiscref39_Replace.l1 (m + 200 + r + 1) b first i s l s1 out = some (s1, foldI out ((List.range' i r).flatMap (pickL l b first)), (rd_T48 l b).f1, 0)
  | 0, i, m, out, h, ho => by
    rw [masterdiscref39_Replace.l1, if_neg (by omega), if_pos (by omega), if_pos (by omega)]
    rfl
  | r + 1, i, m, out, h, ho => by
    have hw : wrap64 ((i : Int) + 1) = ((i + 1 : Nat) : Int) := by rw [w64e _ (by omega)]; omega
    have ih := rrep_l1 l b first s s1 h8 hb r (i + 1) m
    have hlen : ∀ x, (insB x out).length ≤ i + 1 := fun x => by rw [(insB_perm x out).length_eq]; simp; omega
    rw [masterdiscref39_Replace.l1, if_pos (by omega), if_pos (by omega), show m + 200 + (r + 1) = m + 200 + r + 1 by omega, hw]
    rw [List.range'_succ, List.flatMap_cons]
    by_cases h1 : i = b
    · have hp : pickL l b first i = [⟨first, (rd_T48 l i).f1⟩] := by unfold pickL; rw [if_pos h1]
      rw [hp, if_pos (by omega)]
      have hins := rins_K ⟨first, (rd_T48 l i).f1⟩ out (by omega) (m + 200 + r + 1) (by omega)
      simp only at hins
      rw [hins, Option.bind_some, ih _ (by omega) (hlen _)]
      rfl
    · rw [if_neg (by omega)]
      by_cases h2 : (rd_T48 l i).f0 = first
      · have hp : pickL l b first i = [] := by unfold pickL; rw [if_neg h1, if_pos h2]
        rw [hp, if_pos h2, ih _ (by omega) (by omega)]
        rfl
      · have hp : pickL l b first i = [rd_T48 l i] := by unfold pickL; rw [if_neg h1, if_neg h2]
        rw [hp, if_neg h2]
        have hins := rins_K (rd_T48 l i) out (by omega) (m + 200 + r + 1) (by omega)
        rw [hins, Option.bind_some, ih _ (by omega) (hlen _)]
        rfl

theorem foldI_perm : ∀ (M out : List S48), (foldI out M).Perm (out ++ M)
  | [], out => by simp [foldI]
  | x :: M, out => by
    have h := foldI_perm M (insB x out)
    show (foldI (insB x out) M).Perm _
    refine h.trans ?_
    refine ((insB_perm x out).append_right M).trans ?_
    rw [List.cons_append]
    exact (List.perm_middle).symm
theorem foldI_sorted : ∀ (M out : List S48), out.Pairwise Le → (foldI out M).Pairwise Le
  | [], out, h => h
  | x :: M, out, h => foldI_sorted M (insB x out) (insB_sorted x out h)

theorem picks (l : List S48) (b : Nat) (first : Int) : ∀ r i, (b < i ∨ i + r ≤ b) → i + r ≤ l.length → (List.range' i r).flatMap (pickL l b first) = ((l.drop i).take r).filter (keepB first)
  | 0, i, h, hl => by simp
  | r + 1, i, h, hl => by
    have ih := picks l b first r (i + 1) (by omega) (by omega)
    have hi : i < l.length := by omega
    rw [List.range'_succ, List.flatMap_cons, ih, List.drop_eq_getElem_cons hi, List.take_succ_cons, List.filter_cons]
    unfold pickL
    rw [if_neg (by omega), rd_get l i hi]
    by_cases h2 : l[i].f0 = first
    · rw [if_pos h2, if_neg (by unfold keepB; simp [h2])]
      rfl
    · rw [if_neg h2, if_pos (by unfold keepB; simpa using h2)]
      rfl

theorem pick_all (l : List S48) (b : Nat) (first : Int) (hb : b < l.length) : (List.range' 0 l.length).flatMap (pickL l b first) = (l.take b).filter (keepB first) ++ (⟨first, (rd_T48 l b).f1⟩ :: (l.drop (b + 1)).filter (keepB first)) := by
  have e : List.range' 0 l.length = List.range' 0 b ++ (b :: List.range' (b + 1) (l.length - b - 1)) := by
    rw [show l.length = b + (l.length - b) by omega, ← List.range'_append_1, show l.length - b = (l.length - b - 1) + 1 by omega, List.range'_succ]
    simp
  rw [e, List.flatMap_append, List.flatMap_cons, picks l b first b 0 (by omega) (by omega), picks l b first _ (b + 1) (by omega) (by omega)]
  have hp : pickL l b first b = [⟨first, (rd_T48 l b).f1⟩] := by unfold pickL; rw [if_pos rfl]
  rw [hp, List.drop_zero, show (l.drop (b + 1)).take (l.length - b - 1) = l.drop (b + 1) from List.take_of_length_le (by rw [List.length_drop]; omega)]
  rfl

theorem rd_mem (l : List S48) (j : Nat) (h : j < l.length) : rd_T48 l j ∈ l := by rw [rd_get l j h]; exact List.getElem_mem h

theorem best_filter (l : List S48) (b : Nat) (first : Int) (hf : first ≠ 4294967295) (h : IsBest l b) :
    IsBest (l.filter (keepB first)) ((l.take b).filter (keepB first)).length ∧ (rd_T48 (l.filter (keepB first)) (((l.take b).filter (keepB first)).length : Nat)).f1 = (rd_T48 l b).f1 ∧
    (l.filter (keepB first)).set ((l.take b).filter (keepB first)).length ⟨first, (rd_T48 l b).f1⟩ = (List.range' 0 l.length).flatMap (pickL l b first) := by
  have hb := h.lt
  have hkeep : keepB first l[b] = true := by
    have := h.free
    rw [rd_get l b hb] at this
    unfold keepB
    simp [this]
    omega
  have hl : l = l.take b ++ (l[b] :: l.drop (b + 1)) := by rw [← List.drop_eq_getElem_cons hb, List.take_append_drop]
  have hsplit : l.filter (keepB first) = (l.take b).filter (keepB first) ++ (l[b] :: (l.drop (b + 1)).filter (keepB first)) := by
    refine (congrArg (List.filter (keepB first)) hl).trans ?_
    rw [List.filter_append, List.filter_cons, if_pos hkeep]
  rw [pick_all l b first hb]
  have hfree := h.free
  have hlow := h.low
  rw [rd_get l b hb] at hfree hlow ⊢
  generalize hx : l[b] = x at hsplit hfree hlow
  rw [hsplit]
  have hA : ∀ z ∈ (l.take b).filter (keepB first), ∃ j : Nat, j < b ∧ rd_T48 l j = z := by
    intro z hz
    obtain ⟨j, hj, rfl⟩ := List.mem_iff_getElem.1 (List.mem_filter.1 hz).1
    rw [List.length_take] at hj
    exact ⟨j, by omega, by rw [rd_get l j (by omega), List.getElem_take]⟩
  have hall : ∀ z ∈ l.filter (keepB first), ∃ j : Nat, j < l.length ∧ rd_T48 l j = z := by
    intro z hz
    obtain ⟨j, hj, rfl⟩ := List.mem_iff_getElem.1 (List.mem_filter.1 hz).1
    exact ⟨j, hj, rd_get l j hj⟩
  rw [hsplit] at hall
  generalize (l.take b).filter (keepB first) = A1 at hA hall hsplit
  generalize (l.drop (b + 1)).filter (keepB first) = A2 at hall hsplit
  have hat : rd_T48 (A1 ++ x :: A2) (A1.length : Nat) = x := by
    rw [rd_get _ _ (by simp)]
    simp
  refine ⟨⟨by simp, by rw [hat]; exact hfree, fun j hj hjf => ?_⟩, by rw [hat], by simp⟩
  rw [hat]
  have hmem := rd_mem _ j hj
  obtain ⟨j0, hj0, e0⟩ := hall _ hmem
  rw [← e0] at hjf ⊢
  have hlo := hlow j0 hj0 hjf
  refine ⟨hlo.1, fun heq => ?_⟩
  rcases Nat.lt_or_ge j A1.length with hlt | hge
  · have hz : rd_T48 (A1 ++ x :: A2) j ∈ A1 := by
      rw [rd_get _ _ hj, List.getElem_append_left hlt]
      exact List.getElem_mem hlt
    obtain ⟨j1, hj1, e1⟩ := hA _ hz
    have h1 := hlow j1 (by omega) (by rw [e1, ← e0]; exact hjf)
    have h2 := h1.2 (by rw [e1, ← e0]; exact heq)
    omega
  · exact hge

theorem rrep_K (s : Int) (l : List S48) (block : Int) (K : Nat) (hK : 1000 ≤ K) : masterdiscref39_Replace.f K s l block = some (replaceF s l block) := by
  obtain ⟨q, rfl⟩ : ∃ q, K = q + 1 := ⟨K - 1, by omega⟩
  unfold masterdiscref39_Replace.f replaceF
  rw [rvalid_K s l (q + 1) (by omega), Option.bind_some]
  cases hv : validB s l with
  | false => rw [if_neg (by decide), if_neg (by decide)]
  | true =>
    rw [if_pos rfl, if_pos rfl, masterdiscref39_Replace.j0, masterdiscref39_Replace.j0]
    obtain ⟨hs, h8, hE, _⟩ := (validB_iff s l).1 hv
    by_cases h0 : block < 0
    · rw [if_pos h0, if_pos rfl, if_pos (Or.inl h0)]
    · rw [if_neg h0]
      by_cases h1 : block > 4294967279
      · rw [if_pos (decide_eq_true h1), if_pos (Or.inr h1)]
      · rw [if_neg (by simp; omega), if_neg (by omega)]
        have hfirst : wrap64 (wrap64 (Int.tdiv block 8) * 8) = block - Int.tmod block 8 := by
          rw [Int.tdiv_eq_ediv_of_nonneg (by omega), Int.tmod_eq_emod_of_nonneg (by omega), w64e (block / 8) (by omega), w64e _ (by omega)]
          omega
        have hl0 := rrep_l0 l block s h8 l.length 0 (q - l.length - 1) (-1) (by omega) (.inl rfl)
        rw [show q - l.length - 1 + l.length + 1 = q by omega] at hl0
        rw [show masterdiscref39_Replace.l0 q block (-1) 0 s l = _ from hl0, hfirst]
        have hbl : bestFrom l (-1) 0 l.length = best l := rfl
        rw [hbl]
        have hfne : block - Int.tmod block 8 ≠ 4294967295 := by rw [Int.tmod_eq_emod_of_nonneg (by omega)]; omega
        generalize block - Int.tmod block 8 = first at hfne
        simp only
        rcases best_is l with ⟨hn, hno⟩ | ⟨b, hbb, hB⟩
        · rw [hn, if_pos (by decide)]
          have hbf : best (l.filter (keepB first)) = -1 := by
            rcases best_is (l.filter (keepB first)) with ⟨h, _⟩ | ⟨b, _, hB⟩
            · exact h
            · exfalso
              have hm := (List.mem_filter.1 (rd_mem _ b hB.lt)).1
              obtain ⟨j, hj, e⟩ := List.mem_iff_getElem.1 hm
              exact hno j hj (by rw [rd_get l j hj, e]; exact hB.free)
          rw [hbf, if_pos (by decide)]
        · obtain ⟨hB1, hB2, hB3⟩ := best_filter l b first hfne hB
          have hbf : best (l.filter (keepB first)) = (((l.take b).filter (keepB first)).length : Nat) := by
            rcases best_is (l.filter (keepB first)) with ⟨_, hno⟩ | ⟨b', hb', hB'⟩
            · exact absurd hB1.free (hno _ hB1.lt)
            · rw [hb', isBest_unique hB' hB1]
          rw [hbb, hbf, if_neg (show ¬ ((b : Int) < 0) by omega), if_neg (show ¬ ((((l.take b).filter (keepB first)).length : Nat) : Int) < 0 by omega)]
          by_cases hs1 : s = 4294967295
          · rw [if_pos hs1, if_pos hs1]
          · rw [if_neg hs1, if_neg hs1, Int.toNat_natCast, hB2, hB3, w64e _ (by omega)]
            have hl1 := rrep_l1 l b first s (s + 1) h8 hB.lt l.length 0 (q - l.length - 1 - 200 - l.length - 1) [] (by omega) (by simp)
            rw [show q - l.length - 1 - 200 - l.length - 1 + 200 + l.length + 1 = q - l.length - 1 by omega] at hl1
            rw [show masterdiscref39_Replace.l1 (q - l.length - 1) (b : Int) first 0 s l (s + 1) [] = _ from hl1]
            rw [sorted_is (foldI_perm _ []) (foldI_sorted _ [] List.Pairwise.nil)]
            rfl

/-! ### Update -/
/-- The writes of a valid table to locations, and the first error. -/
def updL (s : Int) (l : List S48) : List Int → List S65 → List S65 × Int
  | [], acc => (acc, 0)
  | k :: ks, acc => if (encG s l k).2 = 0 then updL s l ks (acc ++ [⟨k, [(encG s l k).1], true, false⟩]) else ([], (encG s l k).2)
def updF (s : Int) (l : List S48) (locs : List Int) : List S65 × Int := if validB s l = true then updL s l locs [] else ([], 1)

theorem rd_getI (l : List Int) (i : Nat) (h : i < l.length) : rd l i = l[i] := by
  unfold rd
  rw [Int.toNat_natCast, List.getD_eq_getElem?_getD, List.getElem?_eq_getElem h]; rfl

theorem pupd_l0 (s : Int) (l : List S48) (locs : List Int) (hl : locs.length ≤ 1000) : ∀ (r i m : Nat) (acc : List S65), i + r = locs.length → acc.length ≤ i →
    U.sparing_Update.l0 (m + r + 1) acc locs locs.length i s l = some (updL s l (locs.drop i) acc)
  | 0, i, m, acc, h, ha => by
    rw [U.sparing_Update.l0, if_neg (by omega), List.drop_of_length_le (by omega)]
    rfl
  | r + 1, i, m, acc, h, ha => by
    have hi : i < locs.length := by omega
    have hw : wrap64 ((i : Int) + 1) = ((i + 1 : Nat) : Int) := by rw [w64e _ (by omega)]; omega
    have ih := pupd_l0 s l locs hl r (i + 1) m
    rw [U.sparing_Update.l0, if_pos (by omega), if_pos (by omega), if_pos (by omega), rd_getI locs i hi, List.drop_eq_getElem_cons hi, hw, show m + (r + 1) = m + r + 1 by omega]
    unfold Encode.f
    rw [Option.bind_some]
    unfold updL
    by_cases h0 : (encG s l locs[i]).2 = 0
    · rw [if_pos h0, if_pos h0, if_pos (by omega), ih _ (by omega) (by simp; omega)]
    · rw [if_neg h0, if_neg h0]

theorem rupd_l0 (s : Int) (l : List S48) (locs : List Int) (hl : locs.length ≤ 1000) : ∀ (r i m : Nat) (acc : List S65), i + r = locs.length → acc.length ≤ i →
    masterdiscref39_Update.l0 (m + 50000 + r + 1) locs acc i s l = some (updL s l (locs.drop i) acc)
  | 0, i, m, acc, h, ha => by
    rw [masterdiscref39_Update.l0, if_neg (by omega), List.drop_of_length_le (by omega)]
    rfl
  | r + 1, i, m, acc, h, ha => by
    have hi : i < locs.length := by omega
    have hw : wrap64 ((i : Int) + 1) = ((i + 1 : Nat) : Int) := by rw [w64e _ (by omega)]; omega
    have ih := rupd_l0 s l locs hl r (i + 1) m
    rw [masterdiscref39_Update.l0, if_pos (by omega), if_pos (by omega), rd_getI locs i hi, List.drop_eq_getElem_cons hi, hw, show m + 50000 + (r + 1) = m + 50000 + r + 1 by omega]
    rw [renc_K s l _ (m + 50000 + r + 1) (by omega), Option.bind_some]
    unfold updL
    rw [show encF s l locs[i] (blockB 0 1 locs[i] (bodyF s l), 0) = encG s l locs[i] from rfl]
    by_cases h0 : (encG s l locs[i]).2 = 0
    · rw [if_pos h0, if_pos h0, if_pos (by omega), ih _ (by omega) (by simp; omega)]
    · rw [if_neg h0, if_neg h0]

theorem pvalid_K (s : Int) (l : List S48) (K : Nat) (hK : 200 ≤ K) : sparing_Valid.f K s l = some (validB s l) := by
  obtain ⟨m, rfl⟩ : ∃ m, K = 200 + m := ⟨K - 200, by omega⟩
  induction m with
  | zero => exact valid_is s l
  | succ m ih => exact sparing_Valid.mono _ _ _ _ (ih (by omega))

theorem pupd_K (s : Int) (l : List S48) (locs : List Int) (hl : locs.length ≤ 1000) (K : Nat) (hK : 3000 ≤ K) : U.sparing_Update.f K s l locs = some (updF s l locs) := by
  unfold U.sparing_Update.f updF
  rw [pvalid_K s l K (by omega), Option.bind_some]
  cases hv : validB s l with
  | false => rw [if_neg (by decide), if_neg (by decide)]
  | true =>
    rw [if_pos rfl, if_pos rfl]
    have := pupd_l0 s l locs hl locs.length 0 (K - locs.length - 1) [] (by omega) (by simp)
    rw [show K - locs.length - 1 + locs.length + 1 = K by omega] at this
    exact this

theorem rupd_K (s : Int) (l : List S48) (locs : List Int) (hl : locs.length ≤ 1000) (K : Nat) (hK : 60000 ≤ K) : masterdiscref39_Update.f K s l locs = some (updF s l locs) := by
  unfold masterdiscref39_Update.f updF
  rw [rvalid_K s l K (by omega), Option.bind_some]
  cases hv : validB s l with
  | false => rw [if_neg (by decide), if_neg (by decide)]
  | true =>
    rw [if_pos rfl, if_pos rfl]
    have := rupd_l0 s l locs hl locs.length 0 (K - 50000 - locs.length - 1) [] (by omega) (by simp)
    rw [show K - 50000 - locs.length - 1 + 50000 + locs.length + 1 = K by omega] at this
    exact this

theorem updL_len (s : Int) (l : List S48) : ∀ (ks : List Int) (acc : List S65), (updL s l ks acc).1.length ≤ acc.length + ks.length
  | [], acc => by simp [updL]
  | k :: ks, acc => by
    unfold updL
    split
    · have := updL_len s l ks (acc ++ [⟨k, [(encG s l k).1], true, false⟩])
      simp at this ⊢
      omega
    · simp

/-! ### Writes -/
theorem strs_l0 (l : List ByteArray) (hl : l.length ≤ 1000000) : ∀ (r i m : Nat), i + r = l.length → masterdiscref01_Strings.l0 (m + r + 1) l l i = some true
  | 0, i, m, h => by
    rw [masterdiscref01_Strings.l0, if_neg (by omega)]
  | r + 1, i, m, h => by
    have hw : wrap64 ((i : Int) + 1) = ((i + 1 : Nat) : Int) := by rw [w64e _ (by omega)]; omega
    rw [masterdiscref01_Strings.l0, if_pos (by omega), if_pos (by omega), if_pos (by omega), if_pos rfl, hw, show m + (r + 1) = m + r + 1 by omega]
    exact strs_l0 l hl r (i + 1) m (by omega)
theorem strs_K (l : List ByteArray) (hl : l.length ≤ 1000000) (K : Nat) (hK : l.length + 1 ≤ K) : masterdiscref01_Strings.f K l l = some true := by
  obtain ⟨m, rfl⟩ : ∃ m, K = m + l.length + 1 := ⟨K - (l.length + 1), by omega⟩
  unfold masterdiscref01_Strings.f
  rw [if_pos rfl]
  exact strs_l0 l hl l.length 0 m (by omega)

theorem updL_one (s : Int) (l : List S48) : ∀ (ks : List Int) (acc : List S65), (∀ x ∈ acc, x.f1.length ≤ 1) → ∀ x ∈ (updL s l ks acc).1, x.f1.length ≤ 1
  | [], acc, h => h
  | k :: ks, acc, h => by
    unfold updL
    split
    · refine updL_one s l ks _ (fun x hx => ?_)
      rcases List.mem_append.1 hx with hx | hx
      · exact h x hx
      · rw [List.mem_singleton.1 hx]; simp
    · intro x hx
      cases hx

theorem rd65 (L : List S65) (i : Nat) (h : i < L.length) : rd_T65 L i = L[i] := by
  unfold rd_T65
  rw [Int.toNat_natCast, List.getD_eq_getElem?_getD, List.getElem?_eq_getElem h]; rfl

end Go.Proofs.YtdepicgdbealpaaGreat.Enc
