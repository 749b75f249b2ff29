/-
  A region that draws its order, that reads, and then writes in one fixed order, inside a fence (a round's fence too): its operations are plain (no call, no goroutine, no deferred call).
-/
import Derived.StillTailTactics
import Derived.OrdersIn
import Derived.TacticsIn
namespace Go.Proofs.Ytificcmcddcijaa
open Go

/-- The operations that hand back a value or nothing. -/
def plainOp : Op → Bool
  | .move _ | .assign _ | .pick _ _ _ | .alloc _ | .box _ _ | .build _ _ | .load _ _ | .store _ _ _ | .binOp _ _ _ _ _ | .unOp _ _ _ | .convert _ _ _
  | .makeSlice _ _ _ | .slice _ _ _ _ _ | .fieldAddr _ _ _ | .field _ _ _ | .indexAddr _ _ _ | .index _ _ _ | .extract _ _ => true
  | _ => false

theorem not_defer {o : Op} (h : plainOp o = true) : ∀ c, o ≠ .defer c := by
  intro c e; subst e; simp [plainOp] at h

theorem about_plain {o : Oper} (h : plainOp o.op = true) (P : Program) (w : World) (ρ : Operand → Value) : o.about P w ρ = none := by
  unfold Oper.about
  cases ho : o.op <;> simp [ho, plainOp] at h ⊢

def handsValue : Result Next → Prop
  | .ok (.value _) _ => True
  | .ok .skip _ => True
  | .halt _ _ => True
  | _ => False

theorem handsValue_v {P : Program} (s : Sem Value) (w : World) : handsValue ((do pure (.value (← s)) : Sem Next).run P w) := by
  simp only [Sem.run_bind]
  cases s.run P w <;> trivial
theorem handsValue_u {P : Program} (s : Sem Unit) (w : World) : handsValue ((do s; pure .skip : Sem Next).run P w) := by
  simp only [Sem.run_bind]
  cases s.run P w <;> trivial

theorem exec_plain {o : Oper} (h : plainOp o.op = true) (P : Program) (w : World) (ρ : Operand → Value) : handsValue ((execOp ρ o).run P w) := by
  unfold execOp
  cases ho : o.op <;> simp [ho, plainOp] at h <;> simp only [] <;>
    first
      | exact handsValue_v _ _
      | exact handsValue_u _ _
      | trivial
      | (simp only [Sem.run_bind]; cases (asBool _).run P w <;> trivial)

/-- The same ends, but for 'outgrown'. -/
def noOut (Q : Exit → Act → World → Prop) : Exit → Act → World → Prop
  | .outgrown, _, _ => False
  | e, a, w => Q e a w

theorem noOut_normal {Q : Exit → Act → World → Prop} {a : Act} {w : World} (h : Q .normal a w) : noOut Q .normal a w := h

theorem noOut_lets (Q : Exit → Act → World → Prop) : ¬ LetsOut (noOut Q) := fun ⟨_, _, h⟩ => h

section
variable {F : Fence} {n : Nat} {P : Program} {ops : Array Oper} {Q : Exit → Act → World → Prop} {md : Region.Mode}

theorem Oper.wpIn_of_plain {o : Oper} {a : Act} {w : World} {K K' : Act → World → Prop} (hp : plainOp o.op = true) (hK : ∀ a w, K a w → K' a w)
    (h : o.wp P a w K (noOut Q)) : o.wpIn F n P a w K' Q := by
  refine ⟨(fun f hf => by rw [about_plain hp] at hf; cases hf), ?_⟩
  rw [Oper.semAt_eq _ _ _ (not_defer hp)]
  have hv := exec_plain hp P w a.eval
  unfold Oper.wp at h
  generalize (execOp a.eval o).run P w = r at *
  cases r with
  | ok x w' => cases x <;> simp only [Oper.upon, Oper.uponIn, handsValue] at h hv ⊢ <;> exact hK _ _ h
  | halt x w' => cases x <;> simp only [Oper.upon, Oper.uponIn] at h ⊢ <;> exact h

theorem wpAnyIn_of_wpAny (hp : ∀ (i : Nat) o, ops[i]? = some o → plainOp o.op = true) : ∀ (g : Nat) (listed : Array Bool) (a : Act) (w : World), wpAny P md ops (noOut Q) g listed a w → wpAnyIn F n P md ops Q g listed a w
  | 0, _, _, _, h => h
  | g + 1, listed, a, w, h => by
    refine ⟨h.1, fun i hi => ?_⟩
    have h2 := h.2 i hi
    unfold wpOp at h2
    unfold wpOpIn
    cases ho : ops[i]? with
    | none => simp only [ho] at h2 ⊢; exact wpAnyIn_of_wpAny hp g _ _ _ h2
    | some o =>
      simp only [ho] at h2 ⊢
      by_cases hw : Region.wanted o (yielded ops a.tmps) = true
      · simp only [hw, if_true] at h2 ⊢
        rcases h2 with h2 | ⟨_, h2⟩
        · exact Oper.wpIn_of_plain (hp i o ho) (fun a' w' h' => wpAnyIn_of_wpAny hp g _ _ _ h') h2
        · exact (noOut_lets Q h2).elim
      · simp only [hw] at h2 ⊢
        exact ⟨(fun f hf => by rw [about_plain (hp i o ho)] at hf; cases hf), wpAnyIn_of_wpAny hp g _ _ _ h2⟩

theorem wpIn_region_still_tail {id : Nat} {a : Act} {w : World} {l : List Oper} (m : Nat) (hm : P.follows .mixedOrders = true) (hB : Region.lexTailB .any l.toArray m = true) (hp : (l.all fun o => plainOp o.op) = true)
    (h : wpStill P l.toArray { w with drawn := w.drawn + 1 } (fun a' => wpList P l.toArray (noOut Q) (l.drop m) a' { w with drawn := w.drawn + 1 }) (l.take m) a) : (Code.region id l.toArray true).wpIn F n P Q a w := by
  simp only [Region.lexTailB, Bool.and_eq_true, decide_eq_true_eq] at hB
  obtain ⟨⟨⟨⟨hsel, hn⟩, hs⟩, hc⟩, hlex⟩ := hB
  have hn' : m < l.length := by simpa using hn
  have htl : (l.take m).length = m := by simp; omega
  have hdl : (l.drop m).length = l.toArray.size - m := by simp
  have inv0 : HeadInv .any l.toArray m (Array.replicate l.toArray.size false) :=
    ⟨by simp, fun j oj _ hl => (by rw [getD_replicate_false] at hl; cases hl), fun t _ ht => getD_in (by simpa using ht) (getD_replicate_false _ _)⟩
  have H := wpAnyL_lex (md := .any) (g := l.toArray.size - m) hsel hs hc hn (l.take m) 0 _ a (fun j hj => by
    have hj' : j < m := by rw [htl] at hj; exact hj
    simp [hj']) (by simpa using htl) inv0 (by rw [htl]; exact hlex) h
  refine wpIn_region_any hm (wpAnyIn_of_wpAny (fun i o ho => ?_) _ _ _ _ ?_)
  · rw [List.all_eq_true] at hp
    exact hp o (List.mem_of_getElem? (by simpa using ho))
  · have := wpAny_of_head (Q' := noOut Q) (g := l.toArray.size - m) (fun listed a' hL => by
      have := wpAny_of_seq (md := .any) (Q' := noOut Q) (l.drop m) m listed a' { w with drawn := w.drawn + 1 } (fun j => by simp [List.getElem?_drop]) (by rw [hdl]; exact hL.1) hL.2
      rwa [hdl] at this) _ _ _ H
    rw [htl, show m + (l.toArray.size - m) = l.toArray.size by omega] at this
    exact this
end
end Go.Proofs.Ytificcmcddcijaa
