/- few: whether a table has at most 20 entries. slices.Contains at entries, in closed form. -/
import Derived.Test.YtdepicgdbealpaaAwake
import Derived.Test.YtdepicgdbealpaaPlainB
import Derived.Test.YtdepicgdbealpaaVhas
namespace Go.Proofs.Ytdepicgdbealpaa.Spare
open Go.RowKit Go.Lib Go.Proofs.YtdepicgdbealpaaW.PrintWords Go.Proofs.YtdepicgdbealpaaW.PrintLast Go.Proofs.YtdepicgdbealpaaW.PrintMore
open Go.Proofs.Ytdepicgdbealpaa.V
open Go.Proofs.Ytdepicgdbealpaa

theorem has_l0 (l : List S42) (a b : Int) (hn : l.length ≤ 9223372036854775807) : ∀ (r i m : Nat), i + r = l.length →
    ∃ z : Int, api_Spare_21.l0 (m + r + 1) l (l.length : Int) i a b = some z ∧ (0 ≤ z ↔ (⟨a, b⟩ : S42) ∈ l.drop i)
  | 0, i, m, h => by
    unfold api_Spare_21.l0
    rw [if_neg (by omega), List.drop_of_length_le (by omega)]
    exact ⟨-1, rfl, by simp⟩
  | r + 1, i, m, h => by
    unfold api_Spare_21.l0
    obtain ⟨z, hz, hz'⟩ := has_l0 l a b hn r (i + 1) m (by omega)
    rw [if_pos (by omega), if_pos (by omega), if_pos (by omega), rd_get l i (by omega), w64 _ (by omega), show ((i : Int) + 1) = ((i + 1 : Nat) : Int) by omega, show m + (r + 1) = m + r + 1 by omega, hz]
    rw [List.drop_eq_getElem_cons (show i < l.length by omega)]
    generalize l[i] = x
    obtain ⟨x0, x1⟩ := x
    by_cases hx : a = x0 ∧ b = x1
    · obtain ⟨rfl, rfl⟩ := hx
      exact ⟨i, by simp, by simp⟩
    · rw [if_neg (by simpa using hx)]
      refine ⟨z, rfl, hz'.trans ?_⟩
      simp only [List.mem_cons, S42.mk.injEq]
      exact ⟨.inr, fun h => h.resolve_left hx⟩

def hasF (l : List S42) (a b : Int) : Bool := decide ((⟨a, b⟩ : S42) ∈ l)
theorem has_is (l : List S42) (a b : Int) (hn : l.length ≤ 9223372036854775807) : api_Spare_11.f (l.length + 1) l a b = some (hasF l a b) := by
  unfold api_Spare_11.f api_Spare_21.f hasF
  obtain ⟨z, hz, hz'⟩ := has_l0 l a b hn l.length 0 0 (by omega)
  have e : api_Spare_21.l0 (l.length + 1) l (l.length : Int) 0 a b = some z := by simpa using hz
  rw [e, Option.bind_some]
  congr 1
  rw [List.drop_zero] at hz'
  exact decide_eq_decide.2 hz'

theorem has_calls (A0 : Option Addr) (c0 : Nat) (l0 : List S42) (a b : Int) (w : World) (hr0 : Kd.C k42 w A0 l0.length l0) (hc0 : l0.length ≤ c0) :
    Calls Try.prog 11 #[.slice A0 l0.length c0, .agg #[.int .i64 a, .int .i64 b]] w fun e w' => e = .returned (.bool (hasF l0 a b)) ∧ Below w.heap.size w w' :=
  api_Spare_11.calls (l0.length + 1) A0 c0 l0 a b _ w hr0 hc0 (has_is l0 a b hr0.2.1)

theorem big_calls (s : Int) (A : Option Addr) (n c : Nat) (w : World) (hn : n ≤ maxLen) :
    Calls Try.prog 19 #[.agg #[.int .i64 s, .slice A n c]] w fun e w' => e = .returned (.bool (decide (n > 20))) ∧ Below w.heap.size w w' := by
  have hu29 := Try.underlying29
  have hu27 := Try.underlying27
  have hm : n ≤ 9223372036854775807 := by simp only [maxLen] at hn; omega
  go_enter Try.func19, Try.ntmps19
  go_wp2
  go_ret
  refine ⟨?_, (Below.refl _ w).alloc (Nat.le_refl _) _⟩
  have : decide ((n : Int) > 20) = decide (n > 20) := decide_eq_decide.2 (by omega)
  rw [← this]
  rfl

set_option maxHeartbeats 4000000 in
set_option maxRecDepth 100000 in
theorem index28_calls (g : Nat) (s : Int) (A : Option Addr) (n c : Nat) (w : World) (hb : w.heap[g]? = some (.cells #[.int .i64 s, .slice A n c] 29 (0, 0))) (hm : n ≤ maxLen) :
    Calls Try.prog 28 #[.slice (some ⟨g, 0, none⟩) 1 1, .func (.func 19) #[] #[]] w fun e w' => e = .returned (.int .i64 (if n > 20 then 0 else -1)) ∧ Below w.heap.size w w' := by
  obtain ⟨r, hr⟩ : ∃ r : Int, r = if n > 20 then 0 else -1 := ⟨_, rfl⟩
  rw [← hr]
  have HRR := Aside0.mk hr
  clear hr
  have hu29 := Try.underlying29
  have hu27 := Try.underlying27
  have hu50 := Try.underlying50
  have HB := Aside0.mk hb
  have HC := fun W => big_calls s A n c W hm
  clear hb
  obtain ⟨B, hB⟩ : ∃ B, decide (n > 20) = B := ⟨_, rfl⟩
  rw [hB] at HC
  have HBB := Aside0.mk hB
  clear hB hm
  go_enter Try.func28, Try.ntmps28
  go_wp2
  go_loopg [5, 8] 1 (fun gg _ s8 wr => ∃ kk : Nat, kk ≤ 1 ∧ 1 - kk ≤ gg ∧ s8 = .int .i64 kk ∧ Aside0 (Below w.heap.size w wr) ∧ Aside0 (kk = 1 → B = false))
  case atStart => exact ⟨0, Nat.zero_le _, by omega, rfl, ⟨Below.refl _ w⟩, ⟨fun h => by cases h⟩⟩
  case round =>
    obtain ⟨kk, hkk, hg, rfl, BW, HA⟩ := hrel
    by_cases hlt : kk < 1
    · obtain rfl : kk = 0 := by omega
      have h0 : wr.cell? ⟨g, 0, none⟩ = some (.int .i64 s) := (blk_cell (blk_below HB.out BW.out) 0).trans rfl
      have h1 : wr.cell? ⟨g, 1, none⟩ = some (.slice A n c) := (blk_cell (blk_below HB.out BW.out) 1).trans rfl
      have hcall := HC wr
      cases B with
      | true =>
        go_wp2_with (go_at_call 19; refine hcall.mono ?_; rintro e w' ⟨rfl, hb'⟩)
        go_ret
        exact ⟨by rw [HRR.out, if_pos (of_decide_eq_true HBB.out)]; rfl, below_step BW.out hb'⟩
      | false =>
        go_wp2_with (go_at_call 19; refine hcall.mono ?_; rintro e w' ⟨rfl, hb'⟩)
        go_roundg 0
        case measure => omega
        case rel => exact ⟨1, by omega, by omega, by go_num, ⟨below_step BW.out hb'⟩, ⟨fun _ => by first | rfl | trivial⟩⟩
    · obtain rfl : kk = 1 := by omega
      have hf := HA.out rfl
      subst hf
      go_wp2
      go_ret
      exact ⟨by rw [HRR.out, if_neg (of_decide_eq_false HBB.out)]; rfl, BW.out⟩

theorem any18_calls (g : Nat) (s : Int) (A : Option Addr) (n c : Nat) (w : World) (hb : w.heap[g]? = some (.cells #[.int .i64 s, .slice A n c] 29 (0, 0))) (hm : n ≤ maxLen) :
    Calls Try.prog 18 #[.slice (some ⟨g, 0, none⟩) 1 1, .func (.func 19) #[] #[]] w fun e w' => e = .returned (.bool (decide (n > 20))) ∧ Below w.heap.size w w' := by
  obtain ⟨r, hr⟩ : ∃ r : Bool, r = decide (n > 20) := ⟨_, rfl⟩
  rw [← hr]
  have HRR := Aside0.mk hr
  clear hr
  have HC := index28_calls g s A n c w hb hm
  have hu50 := Try.underlying50
  go_enter Try.func18, Try.ntmps18
  by_cases h : n > 20
  · rw [if_pos h] at HC
    have HH := Aside0.mk h
    clear h hb hm
    go_wp2_with (go_at_call 28; refine HC.mono ?_; rintro e w' ⟨rfl, hb'⟩)
    go_ret
    exact ⟨by rw [HRR.out, decide_eq_true HH.out]; rfl, hb'⟩
  · rw [if_neg h] at HC
    have HH := Aside0.mk h
    clear h hb hm
    go_wp2_with (go_at_call 28; refine HC.mono ?_; rintro e w' ⟨rfl, hb'⟩)
    go_ret
    exact ⟨by rw [HRR.out, decide_eq_false HH.out]; rfl, hb'⟩

theorem few_calls (g : Nat) (s : Int) (A : Option Addr) (n c : Nat) (w : World) (hb : w.heap[g]? = some (.cells #[.int .i64 s, .slice A n c] 29 (0, 0))) (hm : n ≤ maxLen) :
    Calls Try.prog 9 #[.slice (some ⟨g, 0, none⟩) 1 1] w fun e w' => e = .returned (.bool (decide (n ≤ 20))) ∧ Below w.heap.size w w' := by
  have hd : decide (n ≤ 20) = !decide (n > 20) := by by_cases h : n > 20 <;> simp [h] <;> omega
  rw [hd]
  have HC := any18_calls g s A n c w hb hm
  have hu50 := Try.underlying50
  clear hb hm hd
  generalize decide (n > 20) = B at HC ⊢
  go_enter Try.func9, Try.ntmps9
  go_wp2_with (go_at_call 18; refine HC.mono ?_; rintro e w' ⟨rfl, hb'⟩)
  go_ret
  exact ⟨rfl, hb'⟩

/-- What fails gives nothing. -/
theorem replace_fails (s : Int) (l : List S42) (block : Int) (h : (replaceF s l block).2.2.2 ≠ 0) : (replaceF s l block).2.1 = [] ∧ (replaceF s l block).2.2.1 = 0 := by
  unfold replaceF at h ⊢
  split
  · next hv =>
    rw [if_pos hv] at h
    split
    · exact ⟨rfl, rfl⟩
    · next h1 =>
      rw [if_neg h1] at h
      simp only at h ⊢
      split
      · exact ⟨rfl, rfl⟩
      · next h2 =>
        rw [if_neg h2] at h
        split
        · exact ⟨rfl, rfl⟩
        · next h3 => rw [if_neg h3] at h; exact absurd rfl h
  · exact ⟨rfl, rfl⟩

/-- The law's core: what a replacement does to a look-up. -/
theorem moves_plain (s : Int) (l : List S42) (ps pc block other r1 : Int) (r2 : List S42) (r3 : Int) (h : replaceF s l block = (r1, r2, r3, 0)) (hb : 0 ≤ block ∧ block < 65536) (ho : 0 ≤ other ∧ other < 65536)
    (hop : other < pc) :
    validB r1 r2 = true ∧ r2.length ≤ l.length ∧ r1 = s + 1 ∧ (0 ≤ s ∧ s < 4294967296) ∧ hasF l 4294967295 r3 = true ∧ ∃ a b, lookF l ps pc other = (a, 0) ∧ lookF r2 ps pc other = (b, 0) ∧
      (block / 8 = other / 8 → b = wrap64 (r3 + other % 8)) ∧ (block / 8 ≠ other / 8 → a = b) := by
  have hv : validB s l = true := by
    cases hv : validB s l with
    | true => rfl
    | false =>
      unfold replaceF at h
      rw [if_neg (by simp [hv])] at h
      simp at h
  have hm := Int.tmod_eq_emod_of_nonneg hb.1 (b := 8)
  have hs := ((validB_iff s l).1 hv).1
  rcases replace_spec s l block hv hb.1 (by omega) with e | ⟨_, e⟩ | ⟨_, hd⟩
  · rw [e] at h; simp at h
  · rw [e] at h; simp at h
  rw [h, hm] at hd
  obtain ⟨d1, d2, d3, d4, d5, d6, d7⟩ := hd
  simp only at d1 d2 d3 d4 d5 d6 d7
  refine ⟨d1, d3, d2, hs, by unfold hasF; exact decide_eq_true d4, ?_⟩
  have L1 := look_spec l ps pc other ho.1 hop (by omega)
  have L2 := look_spec r2 ps pc other ho.1 hop (by omega)
  by_cases hg : block / 8 = other / 8
  · have hf : block - block % 8 = other - other % 8 := by omega
    rw [hf] at d5 d6 d7
    have hbx : lookF r2 ps pc other = (wrap64 (r3 + other % 8), 0) := by
      rcases L2 with ⟨x, hx, h1, h2⟩ | ⟨h1, _⟩
      · rcases d5 x hx with rfl | ⟨_, h3⟩
        · exact h2
        · exact absurd h1 h3
      · exact absurd rfl (h1 _ d6)
    obtain ⟨a, ha⟩ : ∃ a, lookF l ps pc other = (a, 0) := by
      rcases L1 with ⟨x, _, _, h2⟩ | ⟨_, h2⟩ <;> exact ⟨_, h2⟩
    exact ⟨a, _, ha, hbx, fun _ => rfl, fun h => absurd hg h⟩
  · have hf : other - other % 8 ≠ block - block % 8 := by omega
    rcases L1 with ⟨x, hx, h1, h2⟩ | ⟨h1, h2⟩
    · have hx2 := d7 x hx (by rw [h1]; exact hf) (by omega)
      rcases L2 with ⟨y, hy, h3, h4⟩ | ⟨h3, _⟩
      · have hyl : y ∈ l := by
          rcases d5 y hy with rfl | ⟨h5, _⟩
          · exact absurd h3.symm hf
          · exact h5
        have hxy : x = y := by
          rcases two_places hv hx hyl with e | e
          · exact e
          · exact absurd (e.2 (by rw [h1, h3])) (by omega)
        subst hxy
        exact ⟨_, _, h2, h4, fun h => absurd h hg, fun _ => rfl⟩
      · exact absurd h1 (h3 x hx2)
    · rcases L2 with ⟨y, hy, h3, h4⟩ | ⟨_, h4⟩
      · rcases d5 y hy with rfl | ⟨h5, _⟩
        · exact absurd h3.symm hf
        · exact absurd h3 (h1 y h5)
      · exact ⟨_, _, h2, h4, fun h => absurd h hg, fun _ => rfl⟩

end Go.Proofs.Ytdepicgdbealpaa.Spare
