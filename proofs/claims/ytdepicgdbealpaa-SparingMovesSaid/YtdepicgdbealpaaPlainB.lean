/- Plain facts behind the law SparingApart. -/
import Derived.Test.YtdepicgdbealpaaPlain
namespace Go.Proofs.Ytdepicgdbealpaa.Spare
open Go.RowKit Go.Proofs.YtdepicgdbealpaaW.PrintWords Go.Proofs.YtdepicgdbealpaaW.PrintLast Go.Proofs.YtdepicgdbealpaaW.PrintMore
open Go.Proofs.Ytdepicgdbealpaa.V

theorem newL_mem (ss : Int) : ∀ r i x, x ∈ newL ss i r → ∃ j : Nat, i ≤ j ∧ j < i + r ∧ x = ⟨4294967295, ss + 8 * j⟩
  | 0, i, x, h => by simp [newL] at h
  | r + 1, i, x, h => by
    simp only [newL, List.mem_cons] at h
    rcases h with rfl | h
    · exact ⟨i, Nat.le_refl _, by omega, rfl⟩
    · obtain ⟨j, h1, h2, h3⟩ := newL_mem ss r (i + 1) x h
      exact ⟨j, by omega, by omega, h3⟩
theorem newL_len (ss : Int) : ∀ r i, (newL ss i r).length = r
  | 0, i => rfl
  | r + 1, i => by simp [newL, newL_len ss r (i + 1)]
theorem newL_pair (ss : Int) : ∀ r i, (newL ss i r).Pairwise P
  | 0, i => List.Pairwise.nil
  | r + 1, i => by
    refine List.pairwise_cons.2 ⟨fun x hx => ?_, newL_pair ss r (i + 1)⟩
    obtain ⟨j, h1, h2, rfl⟩ := newL_mem ss r (i + 1) x hx
    exact ⟨⟨.inl (by simp only; omega), fun _ => rfl⟩, by simp only; omega⟩

/-- What holds of the table all the way. -/
structure Inv (ss sc : Int) (s : Int) (l : List S42) : Prop where
  valid : validB s l = true
  place : ∀ x ∈ l, ∃ j : Int, 0 ≤ j ∧ 8 * j + 8 ≤ sc ∧ x.f1 = ss + 8 * j

theorem inv_new {ss sc r1 r3 : Int} {r2 : List S42} (h : newF ss sc = (r1, r2, r3)) (h3 : r3 = 0) : r1 = 1 ∧ Inv ss sc r1 r2 ∧ 0 ≤ ss ∧ 8 ≤ sc ∧ sc ≤ 64 ∧ ss ≤ 4096 - sc := by
  unfold newF at h
  split at h
  · simp only [Prod.mk.injEq] at h; omega
  · next hc =>
    simp only [Prod.mk.injEq] at h
    obtain ⟨rfl, rfl, _⟩ := h
    have hd : Int.tdiv sc 8 = sc / 8 := Int.tdiv_eq_ediv_of_nonneg (by omega)
    have hn : (Int.tdiv sc 8).toNat ≤ 8 ∧ 8 * ((Int.tdiv sc 8).toNat : Int) ≤ sc := by rw [hd]; omega
    generalize (Int.tdiv sc 8).toNat = n at hn ⊢
    refine ⟨rfl, ⟨(validB_iff _ _).2 ⟨by omega, by rw [newL_len]; omega, ?_, newL_pair ss n 0⟩, ?_⟩, by omega, by omega, by omega, by omega⟩
    · intro x hx
      obtain ⟨j, h1, h2, rfl⟩ := newL_mem ss n 0 x hx
      exact ⟨⟨by simp only; omega, by simp only; omega⟩, ⟨by simp only; omega, by simp only; omega⟩, .inl rfl⟩
    · intro x hx
      obtain ⟨j, h1, h2, rfl⟩ := newL_mem ss n 0 x hx
      exact ⟨j, by omega, by omega, rfl⟩

theorem inv_step {ss sc s : Int} {l : List S42} {block : Int} (h : Inv ss sc s l) (h0 : 0 ≤ block) (h1 : block ≤ 4294967279) (hs : s < 4294967295) :
    (replaceF s l block).2.2.2 = 12 ∨ ((replaceF s l block).2.2.2 = 0 ∧ (replaceF s l block).1 = s + 1 ∧ Inv ss sc (replaceF s l block).1 (replaceF s l block).2.1) := by
  rcases replace_spec s l block h.valid h0 h1 with e | ⟨e, _⟩ | ⟨e, hd⟩
  · rw [e]; exact .inl rfl
  · omega
  · refine .inr ⟨e, hd.seq, hd.valid, fun x hx => ?_⟩
    rcases hd.mem x hx with rfl | ⟨hx, _⟩
    · obtain ⟨j, h1, h2, h3⟩ := h.place _ hd.has
      exact ⟨j, h1, h2, h3⟩
    · exact h.place _ hx

theorem look_spec (l : List S42) (ps pc i : Int) (h0 : 0 ≤ i) (h1 : i < pc) (h2 : i ≤ 9223372036854775000) :
    (∃ x ∈ l, x.f0 = i - i % 8 ∧ lookF l ps pc i = (wrap64 (x.f1 + i % 8), 0)) ∨ ((∀ x ∈ l, x.f0 ≠ i - i % 8) ∧ lookF l ps pc i = (wrap64 (ps + i), 0)) := by
  unfold lookF
  rw [if_neg (by omega), Int.tmod_eq_emod_of_nonneg h0, w64 (i - i % 8) (by omega)]
  cases h : l.find? (fun x => decide (x.f0 = i - i % 8)) with
  | some x => exact .inl ⟨x, List.mem_of_find?_eq_some h, by simpa using List.find?_some h, rfl⟩
  | none =>
    refine .inr ⟨fun x hx => ?_, rfl⟩
    simpa using List.find?_eq_none.1 h x hx

theorem two_places {s : Int} {l : List S42} (hv : validB s l = true) {x y : S42} (hx : x ∈ l) (hy : y ∈ l) : x = y ∨ D x y := by
  obtain ⟨_, _, _, hP⟩ := (validB_iff s l).1 hv
  obtain ⟨i, hi, rfl⟩ := List.mem_iff_getElem.1 hx
  obtain ⟨j, hj, rfl⟩ := List.mem_iff_getElem.1 hy
  rcases Nat.lt_trichotomy i j with h | h | h
  · exact .inr (List.pairwise_iff_getElem.1 hP i j hi hj h).1
  · subst h; exact .inl rfl
  · exact .inr (D_symm (List.pairwise_iff_getElem.1 hP j i hj hi h).1)

/-- Both lookups of the law. -/
theorem apart_plain {ss sc s ps pc i k : Int} {l : List S42} (h : Inv ss sc s l) (hss : 0 ≤ ss ∧ 8 ≤ sc ∧ sc ≤ 64 ∧ ss ≤ 4096 - sc) (hp : 0 ≤ ps ∧ ps ≤ 4096 ∧ 1 ≤ pc ∧ pc ≤ 4096)
    (hd : ¬ (ss < ps + pc ∧ ps < ss + sc)) (hi : 0 ≤ i ∧ i < pc) (hk : 0 ≤ k ∧ k < pc) :
    ∃ x y, lookF l ps pc i = (x, 0) ∧ lookF l ps pc k = (y, 0) ∧ (x = y ↔ i = k) ∧ ((ps ≤ x ∧ x < ps + pc) ∨ (ss ≤ x ∧ x < ss + sc)) := by
  have one : ∀ t, 0 ≤ t → t < pc → ∃ x, lookF l ps pc t = (x, 0) ∧ ((∃ z ∈ l, z.f0 = t - t % 8 ∧ x = z.f1 + t % 8 ∧ ss ≤ x ∧ x < ss + sc) ∨ (x = ps + t)) := by
    intro t h0 h1
    rcases look_spec l ps pc t h0 h1 (by omega) with ⟨z, hz, hf, e⟩ | ⟨_, e⟩
    · obtain ⟨j, j0, j1, j2⟩ := h.place z hz
      rw [w64 _ (by omega)] at e
      exact ⟨_, e, .inl ⟨z, hz, hf, rfl, by omega, by omega⟩⟩
    · rw [w64 _ (by omega)] at e
      exact ⟨_, e, .inr rfl⟩
  obtain ⟨x, ex, hx⟩ := one i hi.1 hi.2
  obtain ⟨y, ey, hy⟩ := one k hk.1 hk.2
  refine ⟨x, y, ex, ey, ⟨fun e => ?_, fun e => ?_⟩, ?_⟩
  · rcases hx with ⟨z, hz, z0, z1, z2, z3⟩ | hx <;> rcases hy with ⟨q, hq, q0, q1, q2, q3⟩ | hy
    · rcases two_places h.valid hz hq with rfl | hD
      · omega
      · have := hD.1; omega
    · omega
    · omega
    · omega
  · subst e
    rw [ex] at ey
    simpa using ey
  · rcases hx with ⟨z, hz, z0, z1, z2, z3⟩ | hx
    · exact .inr ⟨z2, z3⟩
    · exact .inl (by omega)

end Go.Proofs.Ytdepicgdbealpaa.Spare
