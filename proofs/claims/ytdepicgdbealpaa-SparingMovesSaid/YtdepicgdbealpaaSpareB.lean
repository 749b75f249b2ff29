/- slices.Clone, the closure of Replace, slices.IndexFunc and slices.DeleteFunc at Spares. -/
import Derived.Test.YtdepicgdbealpaaSpareA
import Derived.Shelf.SlicesE.Clone
namespace Go.Proofs.Ytdepicgdbealpaa.Spare
open Go.RowKit Go.Lib Go.Proofs.YtdepicgdbealpaaW.PrintWords Go.Proofs.YtdepicgdbealpaaW.PrintLast Go.Proofs.YtdepicgdbealpaaW.PrintMore
open Go.Proofs.Ytdepicgdbealpaa.V

def sv (x : S42) : Value := .agg #[.int .i64 x.f0, .int .i64 x.f1]

/-- The closure 'x.Original == first'. -/
theorem del_calls (first : Int) (x : S42) (p : Addr) (w : World) (hp : w.cell? p = some (.int .i64 first)) (hpl : p.block < w.heap.size) :
    Calls Try.prog 15 #[sv x, .pointer (some p)] w fun e w' => e = .returned (.bool (decide (x.f0 = first))) ∧ Below w.heap.size w w' := by
  have hu42 := Try.underlying42
  unfold sv
  go_enter Try.func15, Try.ntmps15
  go_wp2
  go_ret
  refine ⟨?_, ?_⟩
  · rfl
  · exact (Below.refl _ w).alloc (Nat.le_refl _) _


/-- Where the first element with this packet stands. -/
def At (first : Int) (l : List S42) (r : Int) : Prop :=
  (r = -1 ∧ ∀ (j : Nat) (x : S42), l[j]? = some x → x.f0 ≠ first) ∨ (∃ (k : Nat) (x : S42), r = k ∧ l[k]? = some x ∧ x.f0 = first ∧ ∀ (j : Nat) (y : S42), j < k → l[j]? = some y → y.f0 ≠ first)

set_option maxHeartbeats 4000000 in
set_option maxRecDepth 100000 in
theorem index_calls (first : Int) (l : List S42) (v : Value) (p : Addr) (base : Nat) (w : World) (hp : w.cell? p = some (.int .i64 first)) (hpl : p.block < w.heap.size)
    (hv : Own w base v l) (hlen : l.length ≤ maxLen) :
    Calls Try.prog 22 #[v, .func (.func 15) #[] #[.pointer (some p)]] w fun e w' => ∃ r : Int, e = .returned (.int .i64 r) ∧ At first l r ∧ Below w.heap.size w w' := by
  have hu42 := Try.underlying42
  have hu27 := Try.underlying27
  obtain ⟨A, c, rfl, hc, hR⟩ := Kd.R_reads (own_R hv)
  have HR := Aside0.mk hR
  have HV := Aside0.mk hv
  have hm : l.length ≤ 9223372036854775807 := by simp only [maxLen] at hlen; omega
  clear hv hlen hR
  go_enter Try.func22, Try.ntmps22
  go_wp2
  go_loopg [5, 8] l.length (fun gg _ s8 wr => ∃ kk : Nat, kk ≤ l.length ∧ l.length - kk ≤ gg ∧ s8 = .int .i64 kk ∧ Aside0 (Below w.heap.size w wr) ∧ Aside0 (∀ (j : Nat) (y : S42), j < kk → l[j]? = some y → y.f0 ≠ first))
  case atStart => exact ⟨0, Nat.zero_le _, by omega, rfl, ⟨Below.refl _ w⟩, ⟨fun j _ hj => absurd hj (Nat.not_lt_zero _)⟩⟩
  case round =>
    obtain ⟨kk, hkk, hg, rfl, BW, HA⟩ := hrel
    by_cases hlt : kk < l.length
    · have hltz : (kk : Int) < (l.length : Int) := by omega
      obtain ⟨ad, rfl, hc0, hc1⟩ := at_T42 (Kd.C_below HR.out BW.out) kk (by omega) (by omega)
      have hx : l[kk]? = some (rd_T42 l kk) := by
        unfold rd_T42
        rw [Int.toNat_natCast, List.getD_eq_getElem?_getD, List.getElem?_eq_getElem hlt]
        rfl
      have HX := Aside0.mk hx
      clear hx
      have hcall := del_calls first (rd_T42 l kk) p wr (by rw [BW.out.cell hpl]; exact hp) (Nat.lt_of_lt_of_le hpl BW.out.size)
      generalize rd_T42 l kk = x at hc0 hc1 hcall HX
      unfold sv at hcall
      rw [Int.toNat_natCast] at hc0 hc1
      by_cases hq : x.f0 = first
      · rw [decide_eq_true hq] at hcall
        have HQ := Aside0.mk hq
        clear hq
        go_wp2_with (go_at_call 15; refine hcall.mono ?_; rintro e w' ⟨rfl, hb'⟩)
        go_ret
        exact ⟨_, rfl, .inr ⟨kk, x, rfl, HX.out, HQ.out, HA.out⟩, below_step BW.out hb'⟩
      · rw [decide_eq_false hq] at hcall
        have HQ := Aside0.mk hq
        clear hq
        go_wp2_with (go_at_call 15; refine hcall.mono ?_; rintro e w' ⟨rfl, hb'⟩)
        go_roundg (l.length - (kk + 1))
        case measure => omega
        case rel =>
          refine ⟨kk + 1, by omega, by omega, by go_num, ⟨below_step BW.out hb'⟩, ⟨fun j y hj hy => ?_⟩⟩
          by_cases e : j = kk
          · subst e
            rw [HX.out] at hy
            cases hy
            exact HQ.out
          · exact HA.out j y (by omega) hy
    · have hltz : ¬ (kk : Int) < (l.length : Int) := by omega
      obtain rfl : kk = l.length := by omega
      go_wp2
      go_ret
      refine ⟨_, rfl, .inl ⟨rfl, fun j y hy => HA.out j y ?_ hy⟩, BW.out⟩
      exact (List.getElem?_eq_some_iff.1 hy).1

/-- 'clear' on elements of two numbers. -/
theorem clear_two {P : Program} (w : World) (t e ty : TypeId) (ht : P.underlying t = some (.slice e)) (hv : ∀ w, (zeroValue e).run P w = .ok (.agg #[.int .i64 0, .int .i64 0]) w) (b o n c : Nat) (hn : 0 < n)
    (hc : ∀ j, j < n * 2 → (w.cell? ⟨b, o + j, none⟩).isSome = true) (hf : ∀ j, j < n * 2 → w.frozen? ⟨b, o + j, none⟩ = false) :
    (Builtin.clear_ #[t] ty #[.slice (some ⟨b, o, none⟩) n c]).run P w = .ok (.tuple #[]) (w.setCells b o (List.replicate (n * 2) (.int .i64 0))) := by
  have hzc : (Builtin.zeroCells (#[.int .i64 0, .int .i64 0] : Array Value) n).toList = List.replicate (n * 2) (.int .i64 0) := by
    simp [Builtin.zeroCells]
    apply List.ext_getElem
    · simp
    · intro i h1 h2
      rcases Nat.mod_two_eq_zero_or_one i with h | h <;> simp [h]
  have hst := run_storeCells_cells (P := P) b o (List.replicate (n * 2) (.int .i64 0)) 0 w (by simpa using hc) (by simpa using hf) (by intro v hv'; rw [List.eq_of_mem_replicate hv']; rfl)
  simp only [Nat.add_zero] at hst
  obtain ⟨m, rfl⟩ : ∃ m, n = m + 1 := ⟨n - 1, by omega⟩
  have hcells : (Value.agg #[.int .i64 0, .int .i64 0]).cells = #[.int .i64 0, .int .i64 0] := rfl
  simp [Builtin.clear_, run_underlying ht, hv, hcells, hzc, hst]

theorem setCells_blk {t : TypeId} : ∀ (vs : List Value) (o : Nat) (w : World) (g : Nat) (cs : Array Value), w.heap[g]? = some (.cells cs t (0, 0)) →
    ∃ cs', (w.setCells g o vs).heap[g]? = some (.cells cs' t (0, 0)) ∧ cs'.size = cs.size ∧ (∀ k, k < o → cs'[k]? = cs[k]?) ∧ w.grownBy (w.setCells g o vs) (some g)
  | [], o, w, g, cs, h => ⟨cs, h, rfl, fun _ _ => rfl, grown_refl _ _⟩
  | v :: r, o, w, g, cs, h => by
    obtain ⟨cs', h1, h2, h3, h4⟩ := setCells_blk r (o + 1) _ g _ (blk_set h o v)
    refine ⟨cs', h1, by rw [h2]; simp, fun k hk => ?_, grown_trans (grown_set v) h4⟩
    rw [h3 k (by omega), Array.getElem?_setIfInBounds, if_neg (by omega)]

theorem own_below' {w W : World} {base : Nat} {v : Value} {l : List S42} (h : Own w base v l) (hb : Below w.heap.size w W) : Own W base v l :=
  own_move h (fun k hk => hb.block k (own_lt h k hk))

def keepB (first : Int) (x : S42) : Bool := decide (x.f0 ≠ first)

theorem filter_keep {first : Int} {l : List S42} (h : ∀ (j : Nat) (x : S42), l[j]? = some x → x.f0 ≠ first) : l.filter (keepB first) = l := by
  rw [List.filter_eq_self]
  intro x hx
  obtain ⟨j, hj⟩ := List.getElem?_of_mem hx
  simpa [keepB] using h j x hj

theorem take_succ_filter {first : Int} {l : List S42} {j : Nat} {x : S42} (h : l[j]? = some x) : (l.take (j + 1)).filter (keepB first) = (l.take j).filter (keepB first) ++ (if keepB first x then [x] else []) := by
  rw [List.take_add_one, h]
  simp [List.filter_cons]

set_option maxHeartbeats 4000000 in
set_option maxRecDepth 100000 in
theorem delete_calls (first : Int) (l : List S42) (v : Value) (p : Addr) (base : Nat) (w : World) (hp : w.cell? p = some (.int .i64 first)) (hpl : p.block < w.heap.size)
    (hne : some p.block ≠ v.ownBlock) (hv : Own w base v l) (hlen : l.length ≤ maxLen) :
    Calls Try.prog 13 #[v, .func (.func 15) #[] #[.pointer (some p)]] w fun e w' => ∃ v' : Value, e = .returned v' ∧ Own w' base v' (l.filter (keepB first)) ∧ v'.ownBlock = v.ownBlock ∧ w.grownBy w' v.ownBlock := by
  have hu42 := Try.underlying42
  have hu27 := Try.underlying27
  have hidx := index_calls first l v p base w hp hpl hv hlen
  have HV := Aside0.mk hv
  clear hv
  have HNE := Aside0.mk hne
  clear hne
  go_enter Try.func13, Try.ntmps13
  go_wp2_with (go_at_call 22; refine hidx.mono ?_; rintro e w1 ⟨r, rfl, hr, hb⟩; have HR := Aside0.mk hr; have HB := Aside0.mk hb; clear hr hb)
  · next hr1 =>
    go_ret
    have e1 : r = -1 := by simpa using hr1
    have hall : ∀ (j : Nat) (x : S42), l[j]? = some x → x.f0 ≠ first := by
      rcases HR.out with ⟨_, h⟩ | ⟨k, x, h, _⟩
      · exact h
      · omega
    rw [filter_keep hall]
    exact ⟨v, rfl, own_below' HV.out HB.out, rfl, grown_below HB.out _⟩
  · rename_i hr1 _ _
    have e1 : r ≠ -1 := by simpa using hr1
    clear hr1
    obtain ⟨k0, x0, rfl, hk0, hx0, hbef⟩ : ∃ (k : Nat) (x : S42), r = k ∧ l[k]? = some x ∧ x.f0 = first ∧ ∀ (j : Nat) (y : S42), j < k → l[j]? = some y → y.f0 ≠ first := by
      rcases HR.out with ⟨h, _⟩ | h
      · exact absurd h e1
      · exact h
    have hk0l : k0 < l.length := (List.getElem?_eq_some_iff.1 hk0).1
    obtain ⟨g, cap, cur, rfl, hbg, hcur, hlc, hcm, hcs, hlies⟩ := own_open (own_below' HV.out HB.out) (by omega)
    have hkeep0 : (l.take (k0 + 1)).filter (keepB first) = l.take k0 := by
      rw [take_succ_filter hk0, if_neg (by simp [keepB, hx0]), List.append_nil]
      refine filter_keep (fun j x hj => ?_)
      rw [List.getElem?_take] at hj
      split at hj
      · exact hbef j x (by assumption) hj
      · cases hj
    have hgne : p.block ≠ g := by
      have := HNE.out
      simpa [Value.ownBlock] using this
    have HS : Aside0 (∃ lk : List S42, lk.length = l.length ∧ Lies cur lk ∧ lk.take k0 = (l.take (k0 + 1)).filter (keepB first) ∧ lk.drop (k0 + 1) = l.drop (k0 + 1)) := ⟨⟨l, rfl, hlies, hkeep0.symm, rfl⟩⟩
    have HC := Aside0.mk hcur
    have HZ := Aside0.mk hcs
    clear hkeep0 hlies hbef hk0 hx0 hcur hcs e1
    have hmx : cap ≤ 9223372036854775807 := by simp only [maxLen] at hcm; omega
    go_loopg [5, 6, 7] l.length (fun gg s5 s6 _ wr => ∃ (i j : Nat) (cs : Array Value), s5 = .int .i64 i ∧ s6 = .int .i64 j ∧ i < j ∧ j ≤ l.length ∧ l.length - j ≤ gg ∧ Aside0 (wr.heap[g]? = some (.cells cs 42 (0, 0))) ∧ Aside0 (cs.size = cap * 2) ∧
      Aside0 (∃ lk : List S42, lk.length = l.length ∧ Lies cs lk ∧ lk.take i = (l.take j).filter (keepB first) ∧ lk.drop j = l.drop j) ∧ Aside0 (w.grownBy wr (some g)))
    case atStart => exact ⟨k0, k0 + 1, cur, rfl, by first | go_num | (congr 1; unfold wrap64; omega), by omega, by omega, by omega, HC, HZ, HS, ⟨grown_below HB.out _⟩⟩
    case round =>
      obtain ⟨i, j, cs, rfl, rfl, hij, hjl, hgg, HC, HZ, HS, HG⟩ := hrel
      by_cases hlt : j < l.length
      · have hltz : (j : Int) < (l.length : Int) := by omega
        obtain ⟨lk, hlk, hlies, htk, hdk⟩ := HS.out
        obtain ⟨x, hx⟩ : ∃ x, l[j]? = some x := ⟨_, List.getElem?_eq_getElem hlt⟩
        have hxk : lk[j]? = some x := by
          have h1 : (lk.drop j)[0]? = (l.drop j)[0]? := by rw [hdk]
          simpa [List.getElem?_drop, hx] using h1
        have hc := hlies j x hxk
        have hcell0 : wr.cell? ⟨g, j * 2, none⟩ = some (.int .i64 x.f0) := by rw [blk_cell HC.out, Nat.mul_comm]; exact hc.1
        have hcell1 : wr.cell? ⟨g, j * 2 + 1, none⟩ = some (.int .i64 x.f1) := by rw [blk_cell HC.out, Nat.mul_comm]; exact hc.2
        have HP : wr.cell? p = some (.int .i64 first) := HG.out.cell hp (by intro e; injection e with e; exact hgne e)
        have HPL : p.block < wr.heap.size := Nat.lt_of_lt_of_le hpl HG.out.size
        have HX := Aside0.mk hx
        have HK := Aside0.mk hxk
        have HLK := Aside0.mk hlk
        have HL := Aside0.mk hlies
        have HTK := Aside0.mk htk
        have HDK := Aside0.mk hdk
        clear hx hxk hlk hlies htk hdk hc
        have hcall := del_calls first x p (wr.alloc (.cells #[.int .i64 x.f0, .int .i64 x.f1] 42)) (cell?_alloc_some _ HP) (by simp; omega)
        unfold sv at hcall
        have hgl : g < wr.heap.size := blk_lt HC.out
        by_cases hq : x.f0 = first
        · rw [decide_eq_true hq] at hcall
          have HQ := Aside0.mk hq
          clear hq
          go_wp2_with fail
          refine hcall.mono ?_
          rintro e w2 ⟨rfl, hb2⟩
          have HB2 := Aside0.mk hb2
          clear hb2 hcell0 hcell1
          go_wp2
          go_roundg (l.length - (j + 1))
          case measure => omega
          case rel =>
            refine ⟨i, j + 1, cs, rfl, by first | go_num | (congr 1; unfold wrap64; omega), by omega, by omega, by omega, ⟨?_⟩, HZ, ⟨lk, HLK.out, HL.out, ?_, ?_⟩, ⟨?_⟩⟩
            · exact blk_below (blk_alloc HC.out _) HB2.out
            · rw [take_succ_filter HX.out, if_neg (by simp [keepB, HQ.out]), List.append_nil]; exact HTK.out
            · have := congrArg (List.drop 1) HDK.out
              simpa [List.drop_drop] using this
            · exact grown_trans HG.out (grown_trans (World.grownBy_alloc wr _ _) (grown_below HB2.out _))
        · rw [decide_eq_false hq] at hcall
          have HQ := Aside0.mk hq
          clear hq
          go_wp2_with fail
          refine hcall.mono ?_
          rintro e w2 ⟨rfl, hb2⟩
          have HB2 := Aside0.mk hb2
          clear hb2 hcell0 hcell1
          have hv0 : w2.cell? ⟨wr.heap.size, 0, none⟩ = some (.int .i64 x.f0) := (blk_cell (blk_below (heap_alloc_new wr _) HB2.out) 0).trans rfl
          have hv1 : w2.cell? ⟨wr.heap.size, 1, none⟩ = some (.int .i64 x.f1) := (blk_cell (blk_below (heap_alloc_new wr _) HB2.out) 1).trans rfl
          have hg2 : w2.heap[g]? = some (.cells cs 42 (0, 0)) := blk_below (blk_alloc HC.out _) HB2.out
          have hcs : cs.size = cap * 2 := HZ.out
          have ho0 : (w2.cell? ⟨g, i * 2, none⟩) = some cs[i * 2] := (blk_cell hg2 _).trans (Array.getElem?_eq_getElem (by omega))
          have ho1 : (w2.cell? ⟨g, i * 2 + 1, none⟩) = some cs[i * 2 + 1] := (blk_cell hg2 _).trans (Array.getElem?_eq_getElem (by omega))
          have hf0 := blk_frozen hg2 (i * 2)
          have hf1 := blk_frozen hg2 (i * 2 + 1)
          generalize cs[i * 2] = q0 at ho0
          generalize cs[i * 2 + 1] = q1 at ho1
          have HG2 := Aside0.mk hg2
          clear hg2 hcs
          go_wp2
          go_roundg (l.length - (j + 1))
          case measure => omega
          case rel =>
            refine ⟨i + 1, j + 1, (cs.setIfInBounds (2 * i) (.int .i64 x.f0)).setIfInBounds (2 * i + 1) (.int .i64 x.f1), by first | go_num | (congr 1; unfold wrap64; omega), by first | go_num | (congr 1; unfold wrap64; omega), by omega, by omega, by omega, ⟨?_⟩, ⟨by simpa using HZ.out⟩, ⟨lk.set i x, by simpa using HLK.out, lies_set HL.out (by have := HZ.out; have := HLK.out; omega) i (by have := HLK.out; omega) x, ?_, ?_⟩, ⟨?_⟩⟩
            · rw [Nat.mul_comm 2 i]; exact blk_set (blk_set HG2.out _ _) _ _
            · rw [take_succ_filter HX.out, if_pos (by simp [keepB, HQ.out]), List.take_add_one, List.getElem?_set, if_pos rfl, if_pos (by have := HLK.out; omega), List.take_set_of_le (Nat.le_refl i), HTK.out]; rfl
            · have := congrArg (List.drop 1) HDK.out
              rw [List.drop_set_of_lt (by omega)]
              simpa [List.drop_drop] using this
            · exact grown_trans HG.out (grown_trans (World.grownBy_alloc wr _ _) (grown_trans (grown_below HB2.out _) (grown_trans (grown_set _) (grown_set _))))
      · have hltz : ¬ (j : Int) < (l.length : Int) := by omega
        obtain rfl : j = l.length := by omega
        obtain ⟨lk, hlk, hlies, htk, hdk⟩ := HS.out
        rw [List.take_length] at htk
        have hfl : (l.filter (keepB first)).length = i := by rw [← htk, List.length_take]; omega
        have hsz := HZ.out
        have hvz : ∀ w, (zeroValue 42).run Try.prog w = .ok (.agg #[.int .i64 0, .int .i64 0]) w := Try.zeroValue42
        have hcl : ∀ ty, (Builtin.clear_ #[27] ty #[.slice (some ⟨g, i * 2, none⟩) (l.length - i) (cap - i)]).run Try.prog wr = .ok (.tuple #[]) (wr.setCells g (i * 2) (List.replicate ((l.length - i) * 2) (.int .i64 0))) :=
          fun ty => clear_two wr 27 42 ty Try.underlying27 hvz g (i * 2) _ _ (by omega) (fun t ht => by rw [blk_cell HC.out, Array.getElem?_eq_getElem (by omega)]; rfl) (fun t ht => blk_frozen HC.out _)
        obtain ⟨cs', hg', hs', hlow, hgr⟩ := setCells_blk (List.replicate ((l.length - i) * 2) (Value.int .i64 0)) (i * 2) wr g cs HC.out
        generalize wr.setCells g (i * 2) (List.replicate ((l.length - i) * 2) (Value.int .i64 0)) = W at hcl hg' hgr
        have h1 := Aside0.mk hlk
        have h2 := Aside0.mk hlies
        have h3 := Aside0.mk htk
        have h4 := Aside0.mk hfl
        have h5 := Aside0.mk hg'
        have h6 := Aside0.mk hs'
        have h7 := Aside0.mk hlow
        have h8 := Aside0.mk hgr
        clear hlk hlies htk hfl hg' hs' hlow hgr hdk hsz
        go_wp2
        go_ret
        have e4 := h4.out
        refine ⟨_, rfl, ?_, ?_, grown_trans HG.out h8.out⟩
        · have hL : Lies cs' (l.filter (keepB first)) := by
            rw [← h3.out]
            intro t x hx
            have ht : t < i := by
              have := (List.getElem?_eq_some_iff.1 hx).1
              rw [List.length_take] at this
              omega
            have := lies_take h2.out i t x hx
            rw [h7.out _ (by omega), h7.out _ (by omega)]
            exact this
          have := own_mk (base := base) (cap := cap) hbg h5.out (by omega) hcm (by rw [h6.out]; exact HZ.out) hL
          rw [e4] at this
          exact this
        · rfl

end Go.Proofs.Ytdepicgdbealpaa.Spare
