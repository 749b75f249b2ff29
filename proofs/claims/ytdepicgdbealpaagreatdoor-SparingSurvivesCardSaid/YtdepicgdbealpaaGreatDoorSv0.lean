/- What the law SparingSurvives needs in plain: the update of a table at two places, what a block is decoded as, which table prevails. -/
import Derived.Test.YtdepicgdbealpaaGreatDoorPrev
import Derived.Test.YtdepicgdbealpaaGreatDoorZ1
namespace Go.Proofs.YtdepicgdbealpaaGreatDoor.Enc
set_option linter.unusedVariables false
set_option linter.unusedSimpArgs false
open Go.RowKit Go.Lib Go.Proofs.YtdepicgdbealpaaGreatDoorW.PrintWords Go.Proofs.YtdepicgdbealpaaGreatDoorW.PrintLast Go.Proofs.YtdepicgdbealpaaGreatDoorW.PrintMore
open Go.Proofs.YtdepicgdbealpaaGreatDoor Go.Proofs.YtdepicgdbealpaaGreatDoor.V Go.Proofs.YtdepicgdbealpaaGreatDoor.Spare Go.Proofs.YtdepicgdbealpaaGreatDoor.Z

theorem pvalid_K (s : Int) (l : List S54) (K : Nat) (hK : 200 ≤ K) : sparing_Valid.f K s l = some (validB s l) := by
 obtain ⟨m, rfl⟩ : ∃ m, K = 200 + m := ⟨K - 200, by omega⟩
 induction m with
 | zero => exact valid_is s l
 | succ m ih => exact sparing_Valid.mono _ _ _ _ (ih (by omega))
theorem upd2 (s : Int) (l : List S54) (a b : Int) (hv : validB s l = true) (ha : wordB a = true) (hb : wordB b = true) :
  Z.sparing_Update.f 300 s l [a, b] = some ([(⟨a, [blockB 0 1 a (bodyF s l)], true, false⟩ : S45), ⟨b, [blockB 0 1 b (bodyF s l)], true, false⟩], 0) := by
 have w1 : wrap64 ((0 : Int) + 1) = 1 := w64e _ (by decide)
 have w2 : wrap64 ((1 : Int) + 1) = 2 := w64e _ (by decide)
 have hl : (([a, b] : List Int).length : Int) = 2 := rfl
 have r0 : rd [a, b] 0 = a := rfl
 have r1 : rd [a, b] 1 = b := rfl
 unfold Z.sparing_Update.f
 rw [pvalid_K s l 300 (by decide), Option.bind_some, hv, if_pos rfl, hl, show (300 : Nat) = 297 + 1 + 1 + 1 from rfl]
 rw [Z.sparing_Update.l0, if_pos (by decide), if_pos (by decide), hl, if_pos (by decide), r0]
 unfold Encode.f
 rw [Option.bind_some, encG_ok s l a hv ha, if_pos rfl, if_pos (by decide), w1, Z.sparing_Update.l0, if_pos (by decide), if_pos (by decide), hl, if_pos (by decide), r1]
 unfold Encode.f
 rw [Option.bind_some, encG_ok s l b hv hb, if_pos rfl, if_pos (by simp), w2, Z.sparing_Update.l0, if_neg (by decide)]
 rfl
theorem upd2_bad (s : Int) (l : List S54) (a b : Int) (hv : ¬ validB s l = true) : Z.sparing_Update.f 300 s l [a, b] = some ([], 1) := by
 unfold Z.sparing_Update.f
 rw [pvalid_K s l 300 (by decide), Option.bind_some, if_neg hv]
theorem upd2_any (s : Int) (l : List S54) (a b : Int) (ha : wordB a = true) (hb : wordB b = true) : ∃ u1 u2, Z.sparing_Update.f 300 s l [a, b] = some (u1, u2) := by
 by_cases hv : validB s l = true
 ·exact ⟨_, _, upd2 s l a b hv ha hb⟩
 ·exact ⟨_, _, upd2_bad s l a b hv⟩

theorem upd_calls (s : Int) (A : Option Addr) (c : Nat) (l : List S54) (A3 : Option Addr) (a b : Int) (u1 : List S45) (u2 : Int) (W : World) (hr : Kd.C k54 W A l.length l) (hc : l.length ≤ c) (hr3 : Kd.C (Kd.int .i64) W A3 [a, b].length [a, b]) (h : Z.sparing_Update.f 300 s l [a, b] = some (u1, u2)) :
  Calls Tryz.prog 12 #[.agg #[.int .i64 s, .slice A l.length c], .slice A3 2 2] W fun e w' => ∃ v, e = .returned (.tuple #[v, .int .i64 u2]) ∧ Kd.S k45 45 w' W.heap.size (fun _ => True) v u1 ∧ Below W.heap.size W w' :=
 Z.sparing_Update.calls 300 s A c l A3 2 [a, b] u1 u2 W hr hc hr3 (Nat.le_refl _) h
/-- Two writes that a call has made: where they lie. -/
theorem two_form {W : World} {base : Nat} {v : Value} {x y : S45} (h : Kd.S k45 45 W base (fun _ => True) v [x, y]) : ∃ g cap, v = .slice (some ⟨g, 0, none⟩) 2 cap ∧ Kd.C k45 W (some ⟨g, 0, none⟩) 2 [x, y] := by
 obtain ⟨g, cap, e, _⟩ := Kd.S_form h (by show 0 < 2; decide)
 have e2 : v = .slice (some ⟨g, 0, none⟩) 2 cap := e
 subst e2
 exact ⟨g, cap, rfl, (Kd.S_reads' h).2.2⟩
/-- Two numbers in a block of one's own. -/
theorem C_two {W : World} {g t : Nat} {a b : Int} (hg : W.heap[g]? = some (.cells #[.int .i64 a, .int .i64 b] t (0, 0))) : Kd.C (Kd.int .i64) W (some ⟨g, 0, none⟩) [a, b].length [a, b] := by
 refine ⟨rfl, by show (2 : Nat) ≤ 9223372036854775807; decide, fun _ => ⟨_, rfl, fun j x hj => ⟨[.int .i64 x], rfl, rfl, fun i u hu => ?_⟩⟩⟩
 match j, hj with
 | 0, hj =>
  cases hj
  match i, hu with
  | 0, hu => cases hu; exact (blk_cell hg 0).trans rfl
 | 1, hj =>
  cases hj
  match i, hu with
  | 0, hu => cases hu; exact (blk_cell hg 1).trans rfl
/-- Two writes of one block each. -/
theorem wr_two {W : World} {g : Nat} {a b : Int} {X Y : ByteArray} (h : Kd.C k45 W (some ⟨g, 0, none⟩) 2 [(⟨a, [X], true, false⟩ : S45), ⟨b, [Y], true, false⟩]) :
  ∃ A0 c0 A1 c1, W.cell? ⟨g, 0, none⟩ = some (.int .i64 a) ∧ W.cell? ⟨g, 1, none⟩ = some (.slice (some A0) 1 c0) ∧ W.cell? ⟨g, 2, none⟩ = some (.bool true) ∧ W.cell? A0 = some (.string X) ∧
   W.cell? ⟨g, 4, none⟩ = some (.int .i64 b) ∧ W.cell? ⟨g, 5, none⟩ = some (.slice (some A1) 1 c1) ∧ W.cell? ⟨g, 6, none⟩ = some (.bool true) ∧ W.cell? A1 = some (.string Y) := by
 obtain ⟨ad, B0, c0, e, h0, h1, h2, _, _, k0⟩ := at_T45 h 0 (by decide) (by decide)
 cases e
 obtain ⟨ad, B1, c1, e, g0, g1, g2, _, _, k1⟩ := at_T45 h 1 (by decide) (by decide)
 cases e
 obtain ⟨A0, e0, x0⟩ := Kd.at_string k0 0 (by decide) (by show (0 : Int) < 1; decide)
 obtain ⟨A1, e1, x1⟩ := Kd.at_string k1 0 (by decide) (by show (0 : Int) < 1; decide)
 subst e0
 subst e1
 exact ⟨A0, c0, A1, c1, h0, h1, h2, x0, g0, g1, g2, x1⟩

/-- A block is decoded as this, wherever. -/
def Dec (m : Int) (b : ByteArray) (loc : Int) (d : Dd) : Prop := ∀ W : World, W.cell? ⟨0, 0, none⟩ = some (.int .i64 m) → Calls Tryz.prog 8 #[.string b, .int .i64 loc] W fun e w' => ∃ v, e = .returned (.tuple #[.agg #[.int .i64 d.1, v], .int .i64 d.2.2]) ∧ Kd.R k54 54 w' W.heap.size (fun _ => True) v d.2.1 ∧ Below W.heap.size W w'
theorem dec_blk (m s loc : Int) (l : List S54) (hv : validB s l = true) (hw : wordB loc = true) : Dec m (blockB 0 1 loc (bodyF s l)) loc (s, l, 0) := by
 obtain ⟨b1, b2, b3, b4, b5, b6, b7⟩ := block_read s loc l hv hw
 have h8 : l.length ≤ 8 := ((validB_iff s l).1 hv).2.1
 intro W hm
 have := decode_good (blockB 0 1 loc (bodyF s l)) loc m l.length W hm b1 b2 b4 b5 h8 (by rw [b6, b7]; exact hv)
 rw [b6, b7] at this
 exact this
theorem dec_no (m loc : Int) : Dec m ⟨#[33]⟩ loc (0, [], 10) := fun W hm => (decode_bad ⟨#[33]⟩ loc W (by decide) (Or.inl (by decide))).mono fun e w' ⟨he, hb⟩ => ⟨_, he, Kd.R_nil _ _ _ _ _, hb⟩
theorem dec_two {m : Int} {x y : ByteArray} {a b : Int} {d e : Dd} (h1 : Dec m x a d) (h2 : Dec m y b e) :
  Aside0 (∀ i : Nat, i < [x, y].length → ∀ W : World, W.cell? ⟨0, 0, none⟩ = some (.int .i64 m) → Calls Tryz.prog 8 #[.string (rdOf ByteArray.empty [x, y] i), .int .i64 (rd [a, b] i)] W fun e' w' => ∃ v, e' = .returned (.tuple #[.agg #[.int .i64 ([d, e].getD i d0).1, v], .int .i64 ([d, e].getD i d0).2.2]) ∧ Kd.R k54 54 w' W.heap.size (fun _ => True) v ([d, e].getD i d0).2.1 ∧ Below W.heap.size W w') :=
 ⟨fun i hi => match i, hi with
  | 0, _ => h1
  | 1, _ => h2⟩
theorem pk_two (d e : Dd) : pk [d, e] 2 = stepP 1 e (stepP 0 d (0, [], -1)) := rfl
theorem pk_late (s : Int) (l : List S54) : pk [(0, [], 10), (s, l, 0)] 2 = (s, l, 1) := by
 rw [pk_two]
 simp [stepP]
theorem pk_first (s : Int) (l : List S54) : pk [(s, l, 0), (0, [], 10)] 2 = (s, l, 0) := by
 rw [pk_two]
 simp [stepP]
theorem pk_both (s : Int) (l : List S54) : pk [(s, l, 0), (s, l, 0)] 2 = (s, l, 0) := by
 rw [pk_two]
 simp [stepP]
/-- The blocks after k of the second writes. -/
def mixL (F0 F1 S0 S1 : ByteArray) : Nat → List ByteArray
 | 0 => [F0, F1]
 | 1 => [S0, F1]
 | _ => [S0, S1]
theorem prev2 {m : Int} {x y : ByteArray} {a b : Int} {d e : Dd} {W : World} {g ga cap base : Nat} {q i : Int} {L : List S54} (hR : Kd.R Kd.string 9 W base (fun _ => True) (.slice (some ⟨g, 0, none⟩) 2 cap) [x, y]) (hA : Kd.C (Kd.int .i64) W (some ⟨ga, 0, none⟩) [a, b].length [a, b])
  (h1 : Dec m x a d) (h2 : Dec m y b e) (hm : W.cell? ⟨0, 0, none⟩ = some (.int .i64 m)) (hp : pk [d, e] 2 = (q, L, i)) (hi : 0 ≤ i) :
  Calls Tryz.prog 13 #[.slice (some ⟨g, 0, none⟩) 2 cap, .slice (some ⟨ga, 0, none⟩) 2 2] W fun e' w' => ∃ v, e' = .returned (.tuple #[.agg #[.int .i64 q, v], .int .i64 i, .int .i64 0]) ∧ Kd.R k54 54 w' W.heap.size (fun _ => True) v L ∧ Below W.heap.size W w' := by
 obtain ⟨_, hcap, hC⟩ := Kd.R_reads' hR
 have := prevailing_calls (some ⟨g, 0, none⟩) cap [x, y] (some ⟨ga, 0, none⟩) 2 [a, b] [d, e] m W hm hC hcap hA (Nat.le_refl _) rfl (dec_two h1 h2) (by show 0 ≤ (pk [d, e] 2).2.2; rw [hp]; exact hi)
 rw [show pk [d, e] [x, y].length = (q, L, i) from hp] at this
 exact this
/-- A replacement that succeeds. -/
theorem replace_ok (s : Int) (l : List S54) (block : Int) (h : (replaceF s l block).2.2.2 = 0) : validB s l = true ∧ validB (replaceF s l block).1 (replaceF s l block).2.1 = true := by
 by_cases hv : validB s l = true
 ·by_cases hb : block < 0 ∨ block > 4294967279
  ·unfold replaceF at h
   rw [if_pos hv, if_pos hb] at h
   exact absurd h (by decide)
  ·rcases replace_spec s l block hv (by omega) (by omega) with e | ⟨_, e⟩ | ⟨_, e⟩
   ·rw [e] at h; exact absurd h (by decide)
   ·rw [e] at h; exact absurd h (by decide)
   ·exact ⟨hv, e.valid⟩
 ·unfold replaceF at h
  rw [if_neg hv] at h
  exact absurd h (by decide)
end Go.Proofs.YtdepicgdbealpaaGreatDoor.Enc
