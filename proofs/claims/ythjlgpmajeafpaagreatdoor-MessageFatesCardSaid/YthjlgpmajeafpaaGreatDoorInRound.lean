/-
  A region that draws its order inside a loop over a function: walked as outside of one (no defer in it, nothing lets the memory run out). No program in sight.
-/
import Derived.Test.YthjlgpmajeafpaaGreatDoorBase
import Derived.OrdersIn
import Derived.RangeFuncCalls
import Derived.TacticsIn
namespace Go.Proofs.YthjlgpmajeafpaaGreatDoor
open Go Go.RowKit
set_option linter.unusedVariables false
set_option linter.unusedSimpArgs false

section
variable {P : Program} {l : List Oper} {Q : Exit → Act → World → Prop}
/-- **A region that draws its order, whose operations from number m on stand in one order behind all others: the first m under S, and then those as a region of their own.** -/
theorem wpAny_of_split {a : Act} {w : World} (m : Nat) (S : World → Prop) (hP : P.follows .mixedOrders = true) (hok : tailOk l.toArray m = true) (hgo : guardsOk l m = true) (hm : decide (m ≤ l.length) = true) (hS : S w.drew)
    (h : S w.drew → wpAnyH P .any (l.take m).toArray (fun e a w => match e with | .normal => wpList P (l.drop m).toArray Q (l.drop m) a w | e => Q e a w) S m (Array.replicate m false) a w.drew) : wpAny P .any l.toArray Q l.toArray.size (Array.replicate l.toArray.size false) a w.drew := by
  have hm' : m ≤ l.length := of_decide_eq_true hm
  have h1 := wpAny_of_held _ _ _ _ (h hS)
  have mono : ∀ (fuel : Nat) (L : Array Bool) (a : Act) (w : World), wpAny P .any (l.take m).toArray (fun e a w => match e with | .normal => wpList P (l.drop m).toArray Q (l.drop m) a w | e => Q e a w) fuel L a w →
      wpAny P .any (l.take m).toArray (fun e a w => match e with | .normal => wpOps P l.toArray Q (List.range' m (l.length - m)) a w | e => Q e a w) fuel L a w := by
    have hn : ∀ a w, wpList P (l.drop m).toArray Q (l.drop m) a w → wpOps P l.toArray Q (List.range' m (l.length - m)) a w := fun a w h => by
      have e := wpOps_eq_wpList (P := P) (Q := Q) (ops := (l.drop m).toArray) (l.drop m) 0 (fun j => by simp)
      rw [← e] at h
      have := wpOps_drop hok _ 0 a w h
      simpa using this
    have step : ∀ {i : Nat} {K K' : Act → World → Prop} {a : Act} {w : World}, (∀ a w, K a w → K' a w) → wpOp P (l.take m).toArray (fun e a w => match e with | .normal => wpList P (l.drop m).toArray Q (l.drop m) a w | e => Q e a w) i K a w →
        wpOp P (l.take m).toArray (fun e a w => match e with | .normal => wpOps P l.toArray Q (List.range' m (l.length - m)) a w | e => Q e a w) i K' a w := by
      intro i K K' a w hk h6
      refine wpOp_mono hk ?_
      unfold wpOp at h6 ⊢
      cases ho : (l.take m).toArray[i]? with
      | none => simpa [ho] using h6
      | some o =>
        simp only [ho] at h6 ⊢
        split
        · rename_i hw
          simp only [hw, if_true] at h6
          rcases h6 with h6 | ⟨h6, h8⟩
          · refine .inl ?_
            unfold Oper.wp at h6 ⊢
            generalize (execOp a.eval o).run P w = r at h6 ⊢
            cases r with
            | ok n w' =>
              cases n <;> simp only [Oper.upon] at h6 ⊢ <;> first
                | exact h6
                | (refine Calls.mono h6 fun e w'' he => ?_
                   cases e <;> first | exact he | (obtain ⟨a0, w0, hq⟩ := he; exact ⟨a0, w0, hq⟩))
            | halt x w' => cases x <;> simp only [Oper.upon] at h6 ⊢ <;> exact h6
          · exact .inr ⟨h6, h8⟩
        · rename_i hw
          simp only [hw] at h6
          exact h6
    intro fuel
    induction fuel with
    | zero => intro L a w h; exact ⟨h.1, hn _ _ h.2⟩
    | succ fuel ih => intro L a w h; exact ⟨fun h0 => hn _ _ (h.1 h0), fun i hi => step (fun a w h => ih _ a w h) (h.2 i hi)⟩
  have h2 := wpAny_split hok hgo hm' m (Array.replicate m false) (Array.replicate l.toArray.size false) a w.drew (by simp) (by simp) (fun i hi => by rw [Array.getElem?_replicate, Array.getElem?_replicate, if_pos hi, if_pos (by simp; omega)]) (fun i _ hi => by simp [Array.getD_eq_getD_getElem?, hi]) (mono _ _ _ _ h1)
  have e : m + (l.length - m) = l.toArray.size := by simp; omega
  rw [e] at h2
  exact h2
end



section
variable {P : Program} {ops : Array Oper} {Q : Exit → Act → World → Prop}
theorem oper_in {l n : Nat} {o : Oper} {a : Act} {w : World} {K : Act → World → Prop} (hnd : ∀ c, o.op ≠ .defer c) (h : o.wp P a w K Q) : o.wpIn (Fence.wide.inRound l) n P a w K Q := by
  refine ⟨fun _ _ => trivial, ?_⟩
  have e : (Fence.wide.inRound l).round = some l := rfl
  rw [e, Oper.semAt_some l a.eval o hnd]
  unfold Oper.wp at h
  generalize (execOp a.eval o).run P w = r at h ⊢
  cases r with
  | ok x w' =>
    cases x <;> simp only [Oper.upon, Oper.uponIn] at h ⊢ <;> first
      | exact h
      | exact ⟨fun h => (by cases h), CallsIn.inRound l (callsIn_wide.2 h)⟩
      | exact ⟨fun h => (by cases h), fun c cs _ => by
          obtain ⟨v, w', r, s⟩ := h c cs
          exact ⟨v, w', r, stepsIn_wide.2 s⟩⟩
  | halt x w' => cases x <;> simp only [Oper.upon, Oper.uponIn] at h ⊢ <;> exact h
theorem wpOp_in {l n i : Nat} {a : Act} {w : World} {K : Act → World → Prop} (hnd : ∀ (j : Nat) (o : Oper), ops[j]? = some o → ∀ c, o.op ≠ .defer c) (hQ : ¬ LetsOut Q) (h : wpOp P ops Q i K a w) : wpOpIn (Fence.wide.inRound l) n P ops Q i K a w := by
  unfold wpOp at h
  unfold wpOpIn
  cases ho : ops[i]? with
  | none => simpa [ho] using h
  | some o =>
    simp only [ho] at h ⊢
    split
    · rename_i hw
      simp only [hw, if_true] at h
      rcases h with h | ⟨_, h⟩
      · exact oper_in (hnd i o ho) h
      · exact absurd h hQ
    · rename_i hw
      simp only [hw] at h
      exact ⟨fun _ _ => trivial, h⟩
theorem wpAny_in {l n : Nat} {md : Region.Mode} (hnd : ∀ (j : Nat) (o : Oper), ops[j]? = some o → ∀ c, o.op ≠ .defer c) (hQ : ¬ LetsOut Q) : ∀ (fuel : Nat) (L : Array Bool) (a : Act) (w : World), wpAny P md ops Q fuel L a w → wpAnyIn (Fence.wide.inRound l) n P md ops Q fuel L a w := by
  intro fuel
  induction fuel with
  | zero => intro L a w h; exact h
  | succ fuel ih => intro L a w h; exact ⟨h.1, fun i hi => wpOpIn_mono (fun a w h => ih _ a w h) (wpOp_in hnd hQ (h.2 i hi))⟩

def noDefers (ops : Array Oper) : Bool := ops.all fun o => match o.op with
  | .defer _ => false
  | _ => true
theorem noDefers_of {ops : Array Oper} (h : noDefers ops = true) : ∀ (j : Nat) (o : Oper), ops[j]? = some o → ∀ c, o.op ≠ .defer c := by
  intro j o ho c hc
  obtain ⟨hj, rfl⟩ := Array.getElem?_eq_some_iff.1 ho
  have h1 := (Array.all_eq_true.1 h) j hj
  rw [hc] at h1
  cases h1
end
/-- **wp_region_split inside a loop over a function.** -/
theorem wpIn_region_split {P : Program} {l : List Oper} {Q : Exit → Act → World → Prop} {id lp n : Nat} {a : Act} {w : World} (m : Nat) (S : World → Prop) (hP : P.follows .mixedOrders = true) (hok : tailOk l.toArray m = true) (hgo : guardsOk l m = true) (hm : decide (m ≤ l.length) = true) (hnd : noDefers l.toArray = true) (hQ : ¬ LetsOut Q) (hS : S w.drew)
    (h : S w.drew → wpAnyH P .any (l.take m).toArray (fun e a w => match e with | .normal => wpList P (l.drop m).toArray Q (l.drop m) a w | e => Q e a w) S m (Array.replicate m false) a w.drew) : (Code.region id l.toArray true).wpIn (Fence.wide.inRound lp) n P Q a w :=
  wpIn_region_any hP (wpAny_in (noDefers_of hnd) hQ _ _ _ _ (wpAny_of_split m S hP hok hgo hm hS h))
end Go.Proofs.YthjlgpmajeafpaaGreatDoor
