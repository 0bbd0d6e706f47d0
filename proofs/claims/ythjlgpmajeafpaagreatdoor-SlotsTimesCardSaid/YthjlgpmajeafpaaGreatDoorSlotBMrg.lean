/-
  A region that draws its order split from its forced tail, where each operation of the tail waits for the one before it. No program in sight.
-/
import Derived.Test.YthjlgpmajeafpaaGreatDoorStampMrg
import Derived.Test.YthjlgpmajeafpaaGreatDoorKeepMrg
import Derived.Test.YthjlgpmajeafpaaGreatDoorReflMrg
import Derived.Test.YthjlgpmajeafpaaGreatDoorPartsMMrg
import Derived.Maps.AppendAt
namespace Go.Proofs.YthjlgpmajeafpaaGreatDoor
open Go Go.RowKit
set_option linter.unusedVariables false
set_option linter.unusedSimpArgs false

/-- The binding edges of a region go backwards, and each operation from number m on has no guard, and waits for all that stand before it, or (behind number m) for the one before it. -/
def tailOk2 (ops : Array Oper) (m : Nat) : Bool := (List.range ops.size).all fun j => match ops[j]? with
  | none => true
  | some o => (o.after.all fun e => decide (e.on < j)) && (decide (j < m) || (o.guard.isNone && (((List.range j).all fun i => o.after.any fun e => Region.binds .any e && e.on == i) || (decide (m < j) && o.after.any fun e => Region.binds .any e && e.on == j - 1))))

section
variable {P : Program} {ops : Array Oper} {Q : Exit → Act → World → Prop}

theorem tailOk_at2 {m j : Nat} {o : Oper} (h : tailOk2 ops m = true) (ho : ops[j]? = some o) :
    (∀ e ∈ o.after, e.on < j) ∧ (m ≤ j → o.guard = none ∧ ∀ i < j, (∃ e ∈ o.after, Region.binds .any e = true ∧ e.on = i) ∨ (m < j ∧ ∃ e ∈ o.after, Region.binds .any e = true ∧ e.on = j - 1)) := by
  have hj : j < ops.size := (Array.getElem?_eq_some_iff.1 ho).1
  simp only [tailOk2, List.all_eq_true, List.mem_range] at h
  have h1 := h j hj
  simp only [ho, Bool.and_eq_true, Array.all_eq_true_iff_forall_mem, decide_eq_true_eq, Bool.or_eq_true, List.all_eq_true, List.mem_range] at h1
  refine ⟨fun e he => h1.1 e he, fun hm => ?_⟩
  rcases h1.2 with h2 | ⟨h2, h3⟩
  · omega
  · refine ⟨by simpa using h2, fun i hi => ?_⟩
    rcases h3 with h3 | ⟨h4, h3⟩
    · have := h3 i hi
      simp only [Array.any_eq_true, Bool.and_eq_true, beq_iff_eq] at this
      obtain ⟨k, hk, hb, hon⟩ := this
      exact .inl ⟨_, Array.getElem_mem hk, hb, hon⟩
    · simp only [Array.any_eq_true, Bool.and_eq_true, beq_iff_eq] at h3
      obtain ⟨k, hk, hb, hon⟩ := h3
      exact .inr ⟨h4, _, Array.getElem_mem hk, hb, hon⟩

/-- The tail, in its one order. -/
theorem wpAny_tail2 {m : Nat} (hok : tailOk2 ops m = true) : ∀ (k j : Nat) (listed : Array Bool) (a : Act) (w : World), m ≤ j → j + k = ops.size → listed.size = ops.size → (∀ i, i < j → listed.getD i false = true) → (∀ i, j ≤ i → i < ops.size → listed.getD i true = false) →
    wpOps P ops Q (List.range' j k) a w → wpAny P .any ops Q k listed a w := by
  intro k
  induction k with
  | zero =>
    intro j listed a w hm hj hsz hyes hno h
    refine ⟨?_, by simpa [wpOps] using h⟩
    refine List.eq_nil_iff_forall_not_mem.2 fun i hi => ?_
    obtain ⟨h0, o, ho, _⟩ := mem_ready.1 hi
    have hi' : i < ops.size := (Array.getElem?_eq_some_iff.1 ho).1
    have h1 := hyes i (by omega)
    have hs : i < listed.size := by omega
    simp only [Array.getD_eq_getD_getElem?, Array.getElem?_eq_getElem hs, Option.getD_some] at h0 h1
    rw [h0] at h1; cases h1
  | succ k ih =>
    intro j listed a w hm hj hsz hyes hno h
    have hjs : j < ops.size := by omega
    have hready : Region.ready .any ops listed = [j] := by
      have hmem : ∀ i, i ∈ Region.ready .any ops listed ↔ i = j := by
        intro i
        constructor
        · intro hi
          obtain ⟨h0, o, ho, hall⟩ := mem_ready.1 hi
          have hi' : i < ops.size := (Array.getElem?_eq_some_iff.1 ho).1
          rcases Nat.lt_trichotomy i j with hlt | heq | hgt
          · have h1 := hyes i hlt
            have hs : i < listed.size := by omega
            simp only [Array.getD_eq_getD_getElem?, Array.getElem?_eq_getElem hs, Option.getD_some] at h0 h1
            rw [h0] at h1; cases h1
          · exact heq
          · obtain ⟨t, htj, hti, e, he, hb, hon⟩ : ∃ t, j ≤ t ∧ t < ops.size ∧ ∃ e ∈ o.after, Region.binds .any e = true ∧ e.on = t := by
              rcases ((tailOk_at2 hok ho).2 (by omega)).2 j hgt with h | ⟨_, h⟩
              · exact ⟨j, Nat.le_refl _, hjs, h⟩
              · exact ⟨i - 1, by omega, by omega, h⟩
            have h1 := hall e he hb
            have h2 := hno t htj hti
            rw [hon] at h1
            have hs : t < listed.size := by omega
            simp only [Array.getD_eq_getD_getElem?, Array.getElem?_eq_getElem hs, Option.getD_some] at h1 h2
            rw [h2] at h1; cases h1
        · rintro rfl
          refine mem_ready.2 ⟨hno i (Nat.le_refl _) hjs, _, Array.getElem?_eq_getElem hjs, fun e he _ => hyes _ ((tailOk_at2 hok (Array.getElem?_eq_getElem hjs)).1 e he)⟩
      have hnd : (Region.ready .any ops listed).Nodup := List.filter_sublist.nodup List.nodup_range
      cases hr : Region.ready .any ops listed with
      | nil => have := (hmem j).2 rfl; rw [hr] at this; cases this
      | cons x xs =>
        rw [hr] at hmem hnd
        obtain rfl : x = j := (hmem x).1 (by simp)
        cases xs with
        | nil => rfl
        | cons y ys =>
          obtain rfl : y = x := (hmem y).1 (by simp)
          simp at hnd
    refine ⟨fun h0 => (by rw [hready] at h0; cases h0), fun i hi => ?_⟩
    rw [hready] at hi
    obtain rfl : i = j := by simpa using hi
    rw [List.range'_succ, wpOps_cons] at h
    refine wpOp_mono (fun a' w' h' => ih (i + 1) _ a' w' (by omega) (by omega) (by simp [hsz]) ?_ ?_ h') h
    · intro t ht
      by_cases hti : i = t
      · subst hti; simp [Array.getD_eq_getD_getElem?, hsz, hjs]
      · rw [getD_set_ne false hti]; exact hyes t (by omega)
    · intro t ht hts
      rw [getD_set_ne true (by omega)]; exact hno t (by omega) hts

end

section
variable {P : Program} {l : List Oper} {Q : Exit → Act → World → Prop}
theorem wpAny_split2 {m : Nat} (hok : tailOk2 l.toArray m = true) (hgo : guardsOk l m = true) (hm : m ≤ l.length) : ∀ (fuel : Nat) (L1 L : Array Bool) (a : Act) (w : World), L1.size = m → L.size = l.length → (∀ i, i < m → L[i]? = L1[i]?) → (∀ i, m ≤ i → i < l.length → L.getD i true = false) →
    wpAny P .any (l.take m).toArray (fun e a w => match e with | .normal => wpOps P l.toArray Q (List.range' m (l.length - m)) a w | e => Q e a w) fuel L1 a w → wpAny P .any l.toArray Q (fuel + (l.length - m)) L a w := by
  have hback : ∀ (j : Nat) (o : Oper), (l.take m).toArray[j]? = some o → ∀ e ∈ o.after, e.on < j := fun j o ho => by
    have : l.toArray[j]? = some o := by
      simp only [List.getElem?_toArray, List.getElem?_take] at ho ⊢
      split at ho
      · exact ho
      · cases ho
    exact (tailOk_at2 hok this).1
  have hguard : ∀ i, i < m → ∀ o, l[i]? = some o → ∀ g, o.guard = some g → g.1 < m := by
    intro i hi o ho g hg
    have hmem : o ∈ l.take m := List.mem_of_getElem? (i := i) (by simp [hi, ho])
    have := List.all_eq_true.1 hgo o hmem
    simpa [hg] using this
  have hlen : (l.take m).toArray.size = m := by simp; omega
  have stuck : ∀ (fuel : Nat) (L1 L : Array Bool) (a : Act) (w : World), L1.size = m → L.size = l.length → (∀ i, i < m → L[i]? = L1[i]?) → (∀ i, m ≤ i → i < l.length → L.getD i true = false) →
      Region.ready .any (l.take m).toArray L1 = [] → wpOps P l.toArray Q (List.range' m (l.length - m)) a w → wpAny P .any l.toArray Q (l.length - m) L a w := by
    intro fuel L1 L a w h1 h2 h3 h4 hr h
    refine wpAny_tail2 hok _ m L a w (Nat.le_refl _) (by simp; omega) (by simpa using h2) ?_ ?_ h
    · intro i hi
      have hi1 : i < L1.size := by omega
      by_cases hli : L1.getD i true = false
      · exact absurd hr (ready_ne_nil hback (by omega) (by omega) hli)
      · simp only [Array.getD_eq_getD_getElem?, h3 i hi, Array.getElem?_eq_getElem hi1, Option.getD_some] at hli ⊢
        simpa using hli
    · intro i hi hi2
      exact h4 i hi (by simpa using hi2)
  have readyEq : ∀ (L1 L : Array Bool), L1.size = m → L.size = l.length → (∀ i, i < m → L[i]? = L1[i]?) → (∀ i, m ≤ i → i < l.length → L.getD i true = false) → Region.ready .any (l.take m).toArray L1 ≠ [] →
      ∀ i, i ∈ Region.ready .any l.toArray L → i < m ∧ i ∈ Region.ready .any (l.take m).toArray L1 := by
    intro L1 L h1 h2 h3 h4 hne i hi
    obtain ⟨h0, o, ho, hall⟩ := mem_ready.1 hi
    have hil : i < l.length := by have := (Array.getElem?_eq_some_iff.1 ho).1; simpa using this
    have hD : ∀ (t : Nat) d, t < m → L.getD t d = L1.getD t d := fun t d ht => by simp only [Array.getD_eq_getD_getElem?, h3 t ht]
    by_cases him : i < m
    · refine ⟨him, mem_ready.2 ⟨by rw [← hD i true him]; exact h0, o, ?_, fun e he hb => ?_⟩⟩
      · simp only [List.getElem?_toArray, List.getElem?_take, him, if_true] at ho ⊢; exact ho
      · have hlt := (tailOk_at2 hok ho).1 e he
        rw [← hD e.on false (by omega)]; exact hall e he hb
    · exfalso
      apply hne
      refine List.eq_nil_iff_forall_not_mem.2 fun t ht => ?_
      obtain ⟨g0, ot, hot, _⟩ := mem_ready.1 ht
      have htm : t < m := by have := (Array.getElem?_eq_some_iff.1 hot).1; omega
      rcases ((tailOk_at2 hok ho).2 (by omega)).2 t (by omega) with ⟨e, he, hb, hon⟩ | ⟨hmi, e, he, hb, hon⟩
      · have h5 := hall e he hb
        rw [hon, hD t false htm] at h5
        have hs : t < L1.size := by omega
        simp only [Array.getD_eq_getD_getElem?, Array.getElem?_eq_getElem hs, Option.getD_some] at h5 g0
        rw [g0] at h5; cases h5
      · have h5 := hall e he hb
        have h6 := h4 (i - 1) (by omega) (by omega)
        rw [hon] at h5
        have hs : i - 1 < L.size := by omega
        simp only [Array.getD_eq_getD_getElem?, Array.getElem?_eq_getElem hs, Option.getD_some] at h5 h6
        rw [h6] at h5; cases h5
  intro fuel
  induction fuel with
  | zero =>
    intro L1 L a w h1 h2 h3 h4 h
    rw [Nat.zero_add]
    exact stuck 0 L1 L a w h1 h2 h3 h4 h.1 h.2
  | succ fuel ih =>
    intro L1 L a w h1 h2 h3 h4 h
    by_cases hne : Region.ready .any (l.take m).toArray L1 = []
    · have h5 := stuck 0 L1 L a w h1 h2 h3 h4 hne (h.1 hne)
      -- with more fuel than is wanted
      have more : ∀ (n k : Nat) (L : Array Bool) (a : Act) (w : World), wpAny P .any l.toArray Q n L a w → wpAny P .any l.toArray Q (n + k) L a w := by
        intro n
        induction n with
        | zero =>
          intro k L a w h
          cases k with
          | zero => exact h
          | succ k => rw [Nat.zero_add]; exact ⟨fun _ => h.2, fun i hi => by rw [h.1] at hi; cases hi⟩
        | succ n ihn =>
          intro k L a w h
          rw [show n + 1 + k = (n + k) + 1 by omega]
          exact ⟨h.1, fun i hi => wpOp_mono (fun a' w' h' => ihn k _ a' w' h') (h.2 i hi)⟩
      rw [show fuel + 1 + (l.length - m) = (l.length - m) + (fuel + 1) by omega]
      exact more _ _ _ _ _ h5
    · rw [show fuel + 1 + (l.length - m) = (fuel + (l.length - m)) + 1 by omega]
      have hreq := readyEq L1 L h1 h2 h3 h4 hne
      refine ⟨fun h0 => ?_, fun i hi => ?_⟩
      · -- something of the first part may come up here too
        exfalso
        obtain ⟨t, ht⟩ := List.exists_mem_of_ne_nil _ hne
        obtain ⟨g0, ot, hot, hall⟩ := mem_ready.1 ht
        have htm : t < m := by have := (Array.getElem?_eq_some_iff.1 hot).1; omega
        have hot' : l.toArray[t]? = some ot := by simp only [List.getElem?_toArray, List.getElem?_take, htm, if_true] at hot ⊢; exact hot
        have hD : ∀ (s : Nat) d, s < m → L.getD s d = L1.getD s d := fun s d hs => by simp only [Array.getD_eq_getD_getElem?, h3 s hs]
        have : t ∈ Region.ready .any l.toArray L := mem_ready.2 ⟨by rw [hD t true htm]; exact g0, ot, hot', fun e he hb => by
          have hlt := hback t ot hot e he
          rw [hD e.on false (by omega)]; exact hall e he hb⟩
        rw [h0] at this; cases this
      · obtain ⟨him, hi1⟩ := hreq i hi
        have h6 := wpOp_take him (hguard i him) (Q := fun e a w => match e with | .normal => wpOps P l.toArray Q (List.range' m (l.length - m)) a w | e => Q e a w) (h.2 i hi1)
        have h7 : wpOp P l.toArray Q i (wpAny P .any (l.take m).toArray (fun e a w => match e with | .normal => wpOps P l.toArray Q (List.range' m (l.length - m)) a w | e => Q e a w) fuel (L1.setIfInBounds i true)) a w := by
          unfold wpOp at h6 ⊢
          cases ho : l.toArray[i]? with
          | none => simpa [ho] using h6
          | some o =>
            simp only [ho] at h6 ⊢
            split
            · rename_i hw
              simp only [hw, if_true] at h6
              rcases h6 with h6 | ⟨h6, h8⟩
              · refine .inl ?_
                unfold Oper.wp at h6 ⊢
                generalize (execOp a.eval o).run P w = r at h6 ⊢
                cases r with
                | ok n w' =>
                  cases n <;> simp only [Oper.upon] at h6 ⊢ <;> first
                    | exact h6
                    | (refine Calls.mono h6 fun e w'' he => ?_
                       cases e <;> first | exact he | (obtain ⟨a0, w0, hq⟩ := he; exact ⟨a0, w0, hq⟩))
                | halt x w' => cases x <;> simp only [Oper.upon] at h6 ⊢ <;> exact h6
              · exact .inr ⟨h6, h8⟩
            · rename_i hw
              simp only [hw] at h6
              exact h6
        refine wpOp_mono (fun a' w' h8 => ih (L1.setIfInBounds i true) (L.setIfInBounds i true) a' w' (by simp [h1]) (by simp [h2]) ?_ ?_ h8) h7
        · intro t ht
          by_cases hti : i = t
          · subst hti
            have : i < L.size := by omega
            simp [h1, him, this]
          · simp [Array.getElem?_setIfInBounds_ne hti, h3 t ht]
        · intro t ht htl
          rw [getD_set_ne true (by omega)]; exact h4 t ht htl

/-- The list of operations behind the first m, as a region of its own. -/
theorem wpOps_drop2 {m : Nat} (hok : tailOk2 l.toArray m = true) (k : Nat) : ∀ (j : Nat) (a : Act) (w : World), wpOps P (l.drop m).toArray Q (List.range' j k) a w → wpOps P l.toArray Q (List.range' (m + j) k) a w := by
  induction k with
  | zero => intro j a w h; simpa [wpOps] using h
  | succ k ih =>
    intro j a w h
    rw [List.range'_succ, wpOps_cons] at h ⊢
    have he : (l.drop m).toArray[j]? = l.toArray[m + j]? := by simp
    have h' : wpOp P l.toArray Q (m + j) (wpOps P (l.drop m).toArray Q (List.range' (j + 1) k)) a w := by
      unfold wpOp at h ⊢
      rw [he] at h
      cases ho : l.toArray[m + j]? with
      | none => simpa [ho] using h
      | some o =>
        simp only [ho] at h ⊢
        have hg := ((tailOk_at2 hok ho).2 (by omega)).1
        have hw : ∀ y, Region.wanted o y = true := fun y => by simp [Region.wanted, hg]
        simpa only [hw, if_true] using h
    refine wpOp_mono (fun a' w' h8 => ?_) h'
    have := ih (j + 1) a' w' h8
    rwa [show m + (j + 1) = m + j + 1 by omega] at this

/-- **A region that draws its order, whose operations from number m on stand in one order behind all others: the first m under S, and then those as a region of their own.** -/
theorem wp_region_split2 {id : Nat} {a : Act} {w : World} (m : Nat) (S : World → Prop) (hP : P.follows .mixedOrders = true) (hok : tailOk2 l.toArray m = true) (hgo : guardsOk l m = true) (hm : decide (m ≤ l.length) = true) (hS : S w.drew)
    (h : S w.drew → wpAnyH P .any (l.take m).toArray (fun e a w => match e with | .normal => wpList P (l.drop m).toArray Q (l.drop m) a w | e => Q e a w) S m (Array.replicate m false) a w.drew) : (Code.region id l.toArray true).wp P Q a w := by
  have hm' : m ≤ l.length := of_decide_eq_true hm
  have h1 := wpAny_of_held _ _ _ _ (h hS)
  have mono : ∀ (fuel : Nat) (L : Array Bool) (a : Act) (w : World), wpAny P .any (l.take m).toArray (fun e a w => match e with | .normal => wpList P (l.drop m).toArray Q (l.drop m) a w | e => Q e a w) fuel L a w →
      wpAny P .any (l.take m).toArray (fun e a w => match e with | .normal => wpOps P l.toArray Q (List.range' m (l.length - m)) a w | e => Q e a w) fuel L a w := by
    have hn : ∀ a w, wpList P (l.drop m).toArray Q (l.drop m) a w → wpOps P l.toArray Q (List.range' m (l.length - m)) a w := fun a w h => by
      have e := wpOps_eq_wpList (P := P) (Q := Q) (ops := (l.drop m).toArray) (l.drop m) 0 (fun j => by simp)
      rw [← e] at h
      have := wpOps_drop2 hok _ 0 a w h
      simpa using this
    have step : ∀ {i : Nat} {K K' : Act → World → Prop} {a : Act} {w : World}, (∀ a w, K a w → K' a w) → wpOp P (l.take m).toArray (fun e a w => match e with | .normal => wpList P (l.drop m).toArray Q (l.drop m) a w | e => Q e a w) i K a w →
        wpOp P (l.take m).toArray (fun e a w => match e with | .normal => wpOps P l.toArray Q (List.range' m (l.length - m)) a w | e => Q e a w) i K' a w := by
      intro i K K' a w hk h6
      refine wpOp_mono hk ?_
      unfold wpOp at h6 ⊢
      cases ho : (l.take m).toArray[i]? with
      | none => simpa [ho] using h6
      | some o =>
        simp only [ho] at h6 ⊢
        split
        · rename_i hw
          simp only [hw, if_true] at h6
          rcases h6 with h6 | ⟨h6, h8⟩
          · refine .inl ?_
            unfold Oper.wp at h6 ⊢
            generalize (execOp a.eval o).run P w = r at h6 ⊢
            cases r with
            | ok n w' =>
              cases n <;> simp only [Oper.upon] at h6 ⊢ <;> first
                | exact h6
                | (refine Calls.mono h6 fun e w'' he => ?_
                   cases e <;> first | exact he | (obtain ⟨a0, w0, hq⟩ := he; exact ⟨a0, w0, hq⟩))
            | halt x w' => cases x <;> simp only [Oper.upon] at h6 ⊢ <;> exact h6
          · exact .inr ⟨h6, h8⟩
        · rename_i hw
          simp only [hw] at h6
          exact h6
    intro fuel
    induction fuel with
    | zero => intro L a w h; exact ⟨h.1, hn _ _ h.2⟩
    | succ fuel ih => intro L a w h; exact ⟨fun h0 => hn _ _ (h.1 h0), fun i hi => step (fun a w h => ih _ a w h) (h.2 i hi)⟩
  refine wp_region_any hP ?_
  have h2 := wpAny_split2 hok hgo hm' m (Array.replicate m false) (Array.replicate l.toArray.size false) a w.drew (by simp) (by simp) (fun i hi => by rw [Array.getElem?_replicate, Array.getElem?_replicate, if_pos hi, if_pos (by simp; omega)]) (fun i _ hi => by simp [Array.getD_eq_getD_getElem?, hi]) (mono _ _ _ _ h1)
  have e : m + (l.length - m) = l.toArray.size := by simp; omega
  rw [e] at h2
  exact h2
end
end Go.Proofs.YthjlgpmajeafpaaGreatDoor

/-
  slots.checker's method slot: the first error of a slot, and what it has counted. Conditions: the slot can be read as data below B; Tabs.
-/
namespace Go.Proofs.YthjlgpmajeafpaaGreatDoor
open Go Go.RowKit Go.Shelf
set_option linter.unusedVariables false
set_option linter.unusedSimpArgs false

/-- The error of the items, given those that came ahead, and all that came. -/
def itemsE : List Msg → List Msg → Int × List Msg
  | acc, [] => (0, acc)
  | acc, m :: r => if acc.length = 256 then (9, acc) else if msgE m ≠ 0 then (msgE m, acc) else if hasSt acc m.st = true then (7, acc) else itemsE (acc ++ [m]) r
def valsE : Nat → List Val → Int × Nat
  | k, [] => (0, k)
  | k, v :: r => if k = 4096 then (9, k) else if chkVal v ≠ 0 then (chkVal v, k) else valsE (k + 1) r
def slotE (acc : List Msg) (nv : Nat) (d : Slot) : Int × List Msg × Nat :=
  if numE d.n d.t ≠ 0 then (numE d.n d.t, acc, nv) else if (itemsE acc d.items).1 ≠ 0 then ((itemsE acc d.items).1, (itemsE acc d.items).2, nv) else ((valsE nv d.vals).1, (itemsE acc d.items).2, (valsE nv d.vals).2)
/-- The checker's block holds what it has counted. -/
structure ChkAt (CT ME B cb : Nat) (w w' : World) (acc : List Msg) (nv : Nat) (iv : Value) : Prop where
  k : KeepB B w [(cb, .cells #[iv, .int .i64 nv] CT)] w'
  r : Kept msgK ME B w' iv acc.length acc
  n : ∀ r, iv.ownBlock = some r → r ≠ cb
  m : acc.length ≤ 256
  v : nv ≤ 4096
def SlotPost (B cb : Nat) (acc : List Msg) (nv : Nat) (d : Slot) (w : World) (e : Ending) (w' : World) : Prop :=
  e = .returned (.int .i64 (slotE acc nv d).1) ∧ Below B w w' ∧ B ≤ w'.heap.size ∧ ((slotE acc nv d).1 = 0 → ∃ iv, ChkAt 111 30 B cb w w' (slotE acc nv d).2.1 (slotE acc nv d).2.2 iv)

set_option maxRecDepth 100000 in
set_option maxHeartbeats 16000000 in
theorem slot_call (W : World) (hT : Tabs W) (B cb : Nat) (c : SlC) (d : Slot) (acc0 : List Msg) (nv : Nat) (iv : Value) (w : World) (hW : Below W.heap.size W w) (hWB : W.heap.size ≤ B) (hcb : B ≤ cb) (hd : IsSl (· < B) w c d) (hk : ChkAt 111 30 B cb w w acc0 nv iv) :
    Calls Tryz.prog 78 #[.pointer (some ⟨cb, 0, none⟩), c.v] w (SlotPost B cb acc0 nv d w) := by
  obtain ⟨ti, hi, hz0, hz1, hz2⟩ := info_parts infoMsg
  obtain ⟨⟨kk, ki, ks, kt, kla, kll, klc, kfa, kfl, kfc⟩, cn, ct, ia, il, ic, wa, wl, wc⟩ := c
  have hcw : cb < w.heap.size := ltOf (hk.k.at 0 (by simp))
  have hbig := hd.items.big
  have hbig2 := hd.vals.big
  have HLI := hid hd.items.len
  have HLV := hid hd.vals.len
  have HDI := hid hd.items
  have HDV := hid hd.vals
  have HNT := hid (And.intro hd.n hd.t)
  have HCB := hid (And.intro hcb hcw)
  have TAB : Hid (∀ w', Below B w w' → Tabs w') := hid fun w' h => hT.below (hW.trans (h.mono hWB))
  dsimp only at hbig hbig2 HLI HLV HDI HDV HNT
  -- the box
  obtain ⟨wb, hwb⟩ : ∃ wb, wb = w.alloc (.cells #[.int .i64 kk, .int .i64 ki, .int .i64 ks, .string kt, .slice kla kll klc, .slice kfa kfl kfc, .int .i64 cn, .int .i64 ct, .slice ia il ic, .slice wa wl wc] 58) := ⟨_, rfl⟩
  have hkb : KeepB B w [(cb, (.cells #[iv, .int .i64 (nv : Nat)] 111)), (w.heap.size, (.cells #[.int .i64 kk, .int .i64 ki, .int .i64 ks, .string kt, .slice kla kll klc, .slice kfa kfl kfc, .int .i64 cn, .int .i64 ct, .slice ia il ic, .slice wa wl wc] 58))] wb := by
    rw [hwb]
    have h1 := (hk.k.ext ((Below.refl _ w).alloc (Nat.le_refl _) _)).cons (heap_alloc_new w (.cells #[.int .i64 kk, .int .i64 ki, .int .i64 ks, .string kt, .slice kla kll klc, .slice kfa kfl kfc, .int .i64 cn, .int .i64 ct, .slice ia il ic, .slice wa wl wc] 58))
    exact h1.sub (by intro p hp; simp only [List.mem_cons, List.mem_nil_iff, or_false, List.not_mem_nil] at hp ⊢; rcases hp with h | h <;> simp [h])
  have hrb : Kept msgK 30 B wb iv acc0.length acc0 := by rw [hwb]; exact hk.r.ext hk.k.n ((Below.refl _ w).alloc (Nat.le_refl _) _)
  have hnb : ∀ r, iv.ownBlock = some r → r ≠ cb ∧ r ≠ w.heap.size := fun r e => ⟨hk.n r e, by have := (hk.r.own r e).2; omega⟩
  have hm := hk.m
  have hv := hk.v
  have HWB := hid hwb
  have HKB := hid hkb
  have HRB := hid hrb
  have HNB := hid hnb
  clear hd hk hwb hkb hrb hnb hW hT hWB hcb hcw
  have e0 := hid (heap_alloc_new w (.cells #[.int .i64 kk, .int .i64 ki, .int .i64 ks, .string kt, .slice kla kll klc, .slice kfa kfl kfc, .int .i64 cn, .int .i64 ct, .slice ia il ic, .slice wa wl wc] 58))
  have c6 := cellOf e0.out 6
  have c7 := cellOf e0.out 7
  have c8 := cellOf e0.out 8
  (try dsimp only at c6 c7 c8)
  dsimp only [SlC.v]
  go_enter Tryz.func78, Tryz.ntmps78
  obtain ⟨u, hu⟩ : ∃ u, u = numE cn ct := ⟨_, rfl⟩
  have HU := hid hu
  have HNU : Hid (∀ w', Calls Tryz.prog 74 #[.int .i64 cn, .int .i64 ct] w' fun e w2 => e = .returned (.int .i64 u) ∧ w' = w2) := hid fun w' => by rw [hu]; exact numbers_call cn ct w'
  clear hu
  by_cases hu0 : u = 0
  case neg =>
    have r := hid (show (slotE acc0 nv d).1 = u by rw [slotE, ← HNT.out.1, ← HNT.out.2, ← HU.out, if_pos hu0])
    go_wp2_with (go_at_call 74; refine (HNU.out _).mono ?_; rintro e w2 ⟨rfl, rfl⟩)
    go_ret
    refine ⟨retI r.out.symm, ?_, ?_, fun h => absurd (r.out.symm.trans h) hu0⟩
    · rw [← HWB.out]; exact HKB.out.b
    · rw [← HWB.out]; exact HKB.out.n
  case pos =>
  subst hu0
  have R0 := hid (show slotE acc0 nv d = if (itemsE acc0 d.items).1 ≠ 0 then ((itemsE acc0 d.items).1, (itemsE acc0 d.items).2, nv) else ((valsE nv d.vals).1, (itemsE acc0 d.items).2, (valsE nv d.vals).2) by rw [slotE, ← HNT.out.1, ← HNT.out.2, ← HU.out, if_neg (by decide)])
  go_wp2_with (go_at_call 74; refine (HNU.out _).mono ?_; rintro e w2 ⟨rfl, rfl⟩)
  clear c6 c7 c8
  rw [← HWB.out]
  go_loopw [23] (fun i wr => ∃ (k : Nat) (iv : Value) (acc : List Msg), k ≤ il ∧ i = .int .i64 k ∧ KeepB B w [(cb, (.cells #[iv, .int .i64 (nv : Nat)] 111)), (w.heap.size, (.cells #[.int .i64 kk, .int .i64 ki, .int .i64 ks, .string kt, .slice kla kll klc, .slice kfa kfl kfc, .int .i64 cn, .int .i64 ct, .slice ia il ic, .slice wa wl wc] 58))] wr ∧ Kept msgK 30 B wr iv acc.length acc ∧ (∀ r, iv.ownBlock = some r → r ≠ cb ∧ r ≠ w.heap.size) ∧ itemsE acc0 d.items = itemsE acc (d.items.drop k) ∧ acc.length ≤ 256) (fun i _ => il - (intOf i).toNat)
  case atStart => exact ⟨0, iv, acc0, Nat.zero_le _, rfl, HKB.out, HRB.out, HNB.out, by rw [List.drop_zero], hm⟩
  case round =>
  obtain ⟨k, iv1, acc, hki, rfl, hkb, hrb, hnb, hit, hm1⟩ := hrel
  obtain ⟨wp, rfl⟩ : ∃ w1 : World, w1 = wr := ⟨_, rfl⟩
  clear HKB HRB HNB HWB hm e0 iv
  have HIT := hid hit
  clear hit
  obtain ⟨va, vcap, rfl, hvc⟩ := hrb.shape
  by_cases hlt : k < il
  · have hkl : k < d.items.length := by have := HLI.out; omega
    obtain ⟨b, o, rfl, hb, hx⟩ := HDI.out.slot (show 0 < il by omega)
    obtain ⟨x, hxa, hxi⟩ := hx k hkl
    obtain ⟨x0, x1, x2, x3, x4, x5, x6, x7, x8, x9⟩ := (hxa.same (hkb.b.block b hb)).m
    have hlt' : (k : Int) < (il : Int) := by omega
    have hk0 : (0 : Int) ≤ (k : Int) := by omega
    have hro := hrb.own
    have hK3 : KeepB B w [(cb, (.cells #[.slice va acc.length vcap, .int .i64 (nv : Nat)] 111)), (w.heap.size, (.cells #[.int .i64 kk, .int .i64 ki, .int .i64 ks, .string kt, .slice kla kll klc, .slice kfa kfl kfc, .int .i64 cn, .int .i64 ct, .slice (some ⟨b, o, none⟩) il ic, .slice wa wl wc] 58)), (wp.heap.size, (.cells #[.int .i64 x.st.e, .slice x.st.a x.st.n x.st.c, .int .i64 x.m, .slice x.a x.n x.c, .int .i64 x.b.k, .int .i64 x.b.i, .int .i64 x.b.s, .string x.b.t, .slice x.b.la x.b.ll x.b.lc, .slice x.b.fa x.b.fl x.b.fc] 30))] (wp.alloc (.cells #[.int .i64 x.st.e, .slice x.st.a x.st.n x.st.c, .int .i64 x.m, .slice x.a x.n x.c, .int .i64 x.b.k, .int .i64 x.b.i, .int .i64 x.b.s, .string x.b.t, .slice x.b.la x.b.ll x.b.lc, .slice x.b.fa x.b.fl x.b.fc] 30)) := by
      have h1 := (hkb.ext ((Below.refl _ wp).alloc (Nat.le_refl _) _)).cons (heap_alloc_new wp (.cells #[.int .i64 x.st.e, .slice x.st.a x.st.n x.st.c, .int .i64 x.m, .slice x.a x.n x.c, .int .i64 x.b.k, .int .i64 x.b.i, .int .i64 x.b.s, .string x.b.t, .slice x.b.la x.b.ll x.b.lc, .slice x.b.fa x.b.fl x.b.fc] 30))
      exact h1.sub (by intro p hp; simp only [List.mem_cons, List.mem_nil_iff, or_false, List.not_mem_nil] at hp ⊢; rcases hp with h | h | h <;> simp [h])
    have HC3 : Hid (∀ w', KeepB B w [(cb, (.cells #[.slice va acc.length vcap, .int .i64 (nv : Nat)] 111)), (w.heap.size, (.cells #[.int .i64 kk, .int .i64 ki, .int .i64 ks, .string kt, .slice kla kll klc, .slice kfa kfl kfc, .int .i64 cn, .int .i64 ct, .slice (some ⟨b, o, none⟩) il ic, .slice wa wl wc] 58)), (wp.heap.size, (.cells #[.int .i64 x.st.e, .slice x.st.a x.st.n x.st.c, .int .i64 x.m, .slice x.a x.n x.c, .int .i64 x.b.k, .int .i64 x.b.i, .int .i64 x.b.s, .string x.b.t, .slice x.b.la x.b.ll x.b.lc, .slice x.b.fa x.b.fl x.b.fc] 30))] w' → (w'.cell? ⟨cb, 0, none⟩ = some (.slice va acc.length vcap) ∧ w'.cell? ⟨cb, 1, none⟩ = some (.int .i64 (nv : Nat))) ∧ (w'.cell? ⟨wp.heap.size, 0, none⟩ = some (.int .i64 x.st.e) ∧ w'.cell? ⟨wp.heap.size, 1, none⟩ = some (.slice x.st.a x.st.n x.st.c) ∧ w'.cell? ⟨wp.heap.size, 2, none⟩ = some (.int .i64 x.m) ∧ w'.cell? ⟨wp.heap.size, 3, none⟩ = some (.slice x.a x.n x.c) ∧ w'.cell? ⟨wp.heap.size, 4, none⟩ = some (.int .i64 x.b.k) ∧ w'.cell? ⟨wp.heap.size, 5, none⟩ = some (.int .i64 x.b.i) ∧ w'.cell? ⟨wp.heap.size, 6, none⟩ = some (.int .i64 x.b.s) ∧ w'.cell? ⟨wp.heap.size, 7, none⟩ = some (.string x.b.t) ∧ w'.cell? ⟨wp.heap.size, 8, none⟩ = some (.slice x.b.la x.b.ll x.b.lc) ∧ w'.cell? ⟨wp.heap.size, 9, none⟩ = some (.slice x.b.fa x.b.fl x.b.fc))) := hid fun w' h => ⟨⟨cellOf (h.at 0 (by simp)) 0, cellOf (h.at 0 (by simp)) 1⟩, cellOf (h.at 2 (by simp)) 0, cellOf (h.at 2 (by simp)) 1, cellOf (h.at 2 (by simp)) 2, cellOf (h.at 2 (by simp)) 3, cellOf (h.at 2 (by simp)) 4, cellOf (h.at 2 (by simp)) 5, cellOf (h.at 2 (by simp)) 6, cellOf (h.at 2 (by simp)) 7, cellOf (h.at 2 (by simp)) 8, cellOf (h.at 2 (by simp)) 9⟩
    have RD : Hid (∀ w', Below B w w' → B ≤ w'.heap.size → IsMsg (· < w'.heap.size) w' x d.items[k]) := hid fun w' h hn => hxi.same fun b q => ⟨by omega, h.block b q⟩
    have HROW : Hid (∀ w', Below (wp.alloc (.cells #[.int .i64 x.st.e, .slice x.st.a x.st.n x.st.c, .int .i64 x.m, .slice x.a x.n x.c, .int .i64 x.b.k, .int .i64 x.b.i, .int .i64 x.b.s, .string x.b.t, .slice x.b.la x.b.ll x.b.lc, .slice x.b.fa x.b.fl x.b.fc] 30)).heap.size (wp.alloc (.cells #[.int .i64 x.st.e, .slice x.st.a x.st.n x.st.c, .int .i64 x.m, .slice x.a x.n x.c, .int .i64 x.b.k, .int .i64 x.b.i, .int .i64 x.b.s, .string x.b.t, .slice x.b.la x.b.ll x.b.lc, .slice x.b.fa x.b.fl x.b.fc] 30)) w' → IsRow msgK (· < w'.heap.size) w' va acc.length vcap acc) := hid fun w' h => (hrb.ext hkb.n (((Below.refl _ wp).alloc (Nat.le_refl _) _).trans (h.mono (by simp)))).row (Nat.le_trans hK3.n h.size) (by dsimp only; omega)
    have HK3 := hid hK3
    have HSZ := hid (show cb < wp.heap.size ∧ w.heap.size < wp.heap.size from ⟨ltOf (hkb.at 0 (by simp)), ltOf (hkb.at 1 (by simp))⟩)
    have HXI := hid (show IsMsg (· < B) w x d.items[k] from hxi)
    have HRO := hid hro
    have HNB := hid hnb
    have HRB := hid hrb
    have HKB := hid hkb
    clear hxa hxi hx hkb hrb hnb hro hb hK3
    obtain ⟨⟨q0, q1⟩, m0, m1, m2, m3, m4, m5, m6, m7, m8, m9⟩ := HC3.out _ HK3.out
    by_cases ha : acc.length = 256
    · have ha1 : (acc.length : Int) = 256 := by omega
      have ha2 : ((acc.length : Int) == 256) = true := by simp [ha1]
      have hi9 : itemsE acc0 d.items = (9, acc) := by rw [HIT.out, List.drop_eq_getElem_cons hkl, itemsE, if_pos ha]
      have r := hid (show (slotE acc0 nv d).1 = 9 by rw [R0.out, hi9]; rfl)
      clear hi9
      go_wp2
      go_ret
      exact ⟨retI r.out.symm, HK3.out.b, HK3.out.n, fun h => absurd (r.out.symm.trans h) (by decide)⟩
    have ha1 : ¬ (acc.length : Int) = 256 := by omega
    have ha2 : ((acc.length : Int) == 256) = false := by simp; omega
    have HA6 := hid ha
    clear ha
    obtain ⟨v, hv2⟩ : ∃ v, v = msgE d.items[k] := ⟨_, rfl⟩
    have HE0 := hid hv2
    have HMC : Hid (Calls Tryz.prog 80 #[.agg #[.int .i64 x.st.e, .slice x.st.a x.st.n x.st.c, .int .i64 x.m, .slice x.a x.n x.c, .int .i64 x.b.k, .int .i64 x.b.i, .int .i64 x.b.s, .string x.b.t, .slice x.b.la x.b.ll x.b.lc, .slice x.b.fa x.b.fl x.b.fc]] (wp.alloc (.cells #[.int .i64 x.st.e, .slice x.st.a x.st.n x.st.c, .int .i64 x.m, .slice x.a x.n x.c, .int .i64 x.b.k, .int .i64 x.b.i, .int .i64 x.b.s, .string x.b.t, .slice x.b.la x.b.ll x.b.lc, .slice x.b.fa x.b.fl x.b.fc] 30)) fun e w' => e = .returned (.int .i64 v) ∧ Below (wp.alloc (.cells #[.int .i64 x.st.e, .slice x.st.a x.st.n x.st.c, .int .i64 x.m, .slice x.a x.n x.c, .int .i64 x.b.k, .int .i64 x.b.i, .int .i64 x.b.s, .string x.b.t, .slice x.b.la x.b.ll x.b.lc, .slice x.b.fa x.b.fl x.b.fc] 30)).heap.size (wp.alloc (.cells #[.int .i64 x.st.e, .slice x.st.a x.st.n x.st.c, .int .i64 x.m, .slice x.a x.n x.c, .int .i64 x.b.k, .int .i64 x.b.i, .int .i64 x.b.s, .string x.b.t, .slice x.b.la x.b.ll x.b.lc, .slice x.b.fa x.b.fl x.b.fc] 30)) w') := hid (by rw [hv2]; exact msgCheck_call x _ _ (RD.out _ HK3.out.b HK3.out.n) (TAB.out _ HK3.out.b))
    clear hv2
    by_cases hv0 : v = 0
    case neg =>
      have hi9 : itemsE acc0 d.items = (v, acc) := by rw [HIT.out, List.drop_eq_getElem_cons hkl, itemsE, if_neg HA6.out, ← HE0.out, if_pos hv0]
      have r := hid (show (slotE acc0 nv d).1 = v by rw [R0.out, hi9, if_pos hv0])
      clear hi9
      go_wp2_with (go_at_call 80; refine HMC.out.mono ?_; rintro e w2 ⟨rfl, hb2⟩)
      go_ret
      exact ⟨retI r.out.symm, (HK3.out.ext hb2).b, (HK3.out.ext hb2).n, fun h => absurd (r.out.symm.trans h) hv0⟩
    case pos =>
    subst hv0
    obtain ⟨p, hp⟩ : ∃ p, p = hasSt acc d.items[k].st := ⟨_, rfl⟩
    have HH0 := hid hp
    have HHM : Hid (∀ w', Below (wp.alloc (.cells #[.int .i64 x.st.e, .slice x.st.a x.st.n x.st.c, .int .i64 x.m, .slice x.a x.n x.c, .int .i64 x.b.k, .int .i64 x.b.i, .int .i64 x.b.s, .string x.b.t, .slice x.b.la x.b.ll x.b.lc, .slice x.b.fa x.b.fl x.b.fc] 30)).heap.size (wp.alloc (.cells #[.int .i64 x.st.e, .slice x.st.a x.st.n x.st.c, .int .i64 x.m, .slice x.a x.n x.c, .int .i64 x.b.k, .int .i64 x.b.i, .int .i64 x.b.s, .string x.b.t, .slice x.b.la x.b.ll x.b.lc, .slice x.b.fa x.b.fl x.b.fc] 30)) w' → Calls Tryz.prog 89 #[.slice va acc.length vcap, .func (.func 126) #[] #[.pointer (some ⟨wp.heap.size, 0, none⟩)]] w' fun e w2 => e = .returned (.bool p) ∧ Below w'.heap.size w' w2) := hid fun w' h => by
      rw [hp]
      have hk := HK3.out.ext h
      exact hasM_call va acc.length vcap acc x.st _ wp.heap.size w' (HROW.out w' h) (RD.out w' hk.b hk.n).st (cellOf (hk.at 2 (by simp)) 0) (cellOf (hk.at 2 (by simp)) 1)
    clear hp
    cases p with
    | true =>
      have hi9 : itemsE acc0 d.items = (7, acc) := by rw [HIT.out, List.drop_eq_getElem_cons hkl, itemsE, if_neg HA6.out, ← HE0.out, if_neg (by decide), if_pos HH0.out.symm]
      have r := hid (show (slotE acc0 nv d).1 = 7 by rw [R0.out, hi9]; rfl)
      clear hi9
      go_wp2_with (first
        | (go_at_call 89; refine (HHM.out _ hb2).mono ?_; rintro e w3 ⟨rfl, hb3⟩)
        | (go_at_call 80; refine HMC.out.mono ?_; rintro e w2 ⟨rfl, hb2⟩; clear q0 q1 m0 m1 m2 m3 m4 m5 m6 m7 m8 m9; obtain ⟨⟨q0, q1⟩, m0, m1, m2, m3, m4, m5, m6, m7, m8, m9⟩ := HC3.out _ (HK3.out.ext hb2)))
      go_ret
      exact ⟨retI r.out.symm, ((HK3.out.ext hb2).ext hb3).b, ((HK3.out.ext hb2).ext hb3).n, fun h => absurd (r.out.symm.trans h) (by decide)⟩
    | false =>
      go_upto_region 14 with (first
        | (go_at_call 89; refine (HHM.out _ hb2).mono ?_; rintro e w3 ⟨rfl, hb3⟩)
        | (go_at_call 80; refine HMC.out.mono ?_; rintro e w2 ⟨rfl, hb2⟩; clear q0 q1 m0 m1 m2 m3 m4 m5 m6 m7 m8 m9; obtain ⟨⟨q0, q1⟩, m0, m1, m2, m3, m4, m5, m6, m7, m8, m9⟩ := HC3.out _ (HK3.out.ext hb2)))
      clear q0 q1 m0 m1 m2 m3 m4 m5 m6 m7 m8 m9
      have hs3 := (HK3.out.ext hb2).ext hb3
      have hs3d := hs3.ext ((Below.refl _ w3).drew)
      have hbp : Below wp.heap.size wp w3.drew := (((Below.refl _ wp).alloc (Nat.le_refl _) _).trans ((hb2.trans (hb3.mono hb2.size)).mono (by simp))).drew
      obtain ⟨cs, hcs, hl0, hown, hel⟩ := HRB.out.ext HKB.out.n hbp
      have HS3 := hid (show wp.heap.size < w3.heap.size from ltOf (hs3.at 2 (by simp)))
      have HS3D := hid hs3d
      have HXD := hid (HXI.out.same (S' := (· < B)) (w' := w3.drew) fun b q => ⟨q, hs3d.b.block b q⟩)
      have HOWN := hid hown
      have HEL := hid hel
      have HCL := hid hcs
      have HNE := hid (show ∀ r, (Value.slice va acc.length vcap).ownBlock = some r → B ≤ r ∧ ∀ p ∈ ([(cb, (.cells #[.slice va acc.length vcap, .int .i64 (nv : Nat)] 111)), (w.heap.size, (.cells #[.int .i64 kk, .int .i64 ki, .int .i64 ks, .string kt, .slice kla kll klc, .slice kfa kfl kfc, .int .i64 cn, .int .i64 ct, .slice (some ⟨b, o, none⟩) il ic, .slice wa wl wc] 58)), (wp.heap.size, (.cells #[.int .i64 x.st.e, .slice x.st.a x.st.n x.st.c, .int .i64 x.m, .slice x.a x.n x.c, .int .i64 x.b.k, .int .i64 x.b.i, .int .i64 x.b.s, .string x.b.t, .slice x.b.la x.b.ll x.b.lc, .slice x.b.fa x.b.fl x.b.fc] 30))] : List (Nat × Obj)), p.1 ≠ r from fun r e => ⟨(HRO.out r e).1, fun p hp => by
        have h1 := HNB.out r e
        have h2 := (HRO.out r e).2
        simp only [List.mem_cons, List.not_mem_nil, or_false] at hp
        rcases hp with rfl | rfl | rfl
        · exact fun h => h1.1 h.symm
        · exact fun h => h1.2 h.symm
        · exact fun h => by dsimp only at h; omega⟩)
      have hcap1 : acc.length + 1 ≤ maxLen := by unfold maxLen; omega
      have hcap2 : (acc.length + 1) * 152 ≤ 140737488355328 := by omega
      clear hs3 hs3d hbp hown hel hcs hl0 hb2 hb3 HHM HMC HROW RD TAB x0 x1 x2 x3 x4 x5 x6 x7 x8 x9
      refine wp_region_split2 8 (fun w' => KeepB B w [(cb, (.cells #[.slice va acc.length vcap, .int .i64 (nv : Nat)] 111)), (w.heap.size, (.cells #[.int .i64 kk, .int .i64 ki, .int .i64 ks, .string kt, .slice kla kll klc, .slice kfa kfl kfc, .int .i64 cn, .int .i64 ct, .slice (some ⟨b, o, none⟩) il ic, .slice wa wl wc] 58)), (wp.heap.size, (.cells #[.int .i64 x.st.e, .slice x.st.a x.st.n x.st.c, .int .i64 x.m, .slice x.a x.n x.c, .int .i64 x.b.k, .int .i64 x.b.i, .int .i64 x.b.s, .string x.b.t, .slice x.b.la x.b.ll x.b.lc, .slice x.b.fa x.b.fl x.b.fc] 30))] w') (by kernel_rfl) (by kernel_rfl) (by kernel_rfl) (by decide) (HS3D.out) (fun hS => ?_)
      simp only [List.take_succ_cons, List.take_zero, List.drop_succ_cons, List.drop_zero]
      refine wpAnyH_take (i := 0) (oi := _) (v := ?_) rfl (by kernel_rfl) (by kernel_rfl) (by kernel_rfl) (fun _ _ _ h => h) (Or.inl ⟨by rfl, ?_⟩) hS ?_
      rotate_left
      · intro w' hw'
        have hcells := HC3.out w' hw'
        go_simp
        (try with_reducible rfl)
      simp only [Act.put, List.getElem_toArray, List.getElem_cons_succ, List.getElem_cons_zero, List.setIfInBounds_toArray, List.set_cons_zero, List.set_cons_succ]
      refine wpAnyH_take (i := 1) (oi := _) (v := ?_) rfl (by kernel_rfl) (by kernel_rfl) (by kernel_rfl) (fun _ _ _ h => h) (Or.inl ⟨by rfl, ?_⟩) hS ?_
      rotate_left
      · intro w' hw'
        have hcells := HC3.out w' hw'
        go_simp
        (try with_reducible rfl)
      simp only [Act.put, List.getElem_toArray, List.getElem_cons_succ, List.getElem_cons_zero, List.setIfInBounds_toArray, List.set_cons_zero, List.set_cons_succ]
      refine wpAnyH_take (i := 2) (oi := _) (v := ?_) rfl (by kernel_rfl) (by kernel_rfl) (by kernel_rfl) (fun _ _ _ h => h) (Or.inl ⟨by rfl, ?_⟩) hS ?_
      rotate_left
      · intro w' hw'
        have hcells := HC3.out w' hw'
        go_simp
        (try with_reducible rfl)
      simp only [Act.put, List.getElem_toArray, List.getElem_cons_succ, List.getElem_cons_zero, List.setIfInBounds_toArray, List.set_cons_zero, List.set_cons_succ]
      refine wpAnyH_take (i := 3) (oi := _) (v := ?_) rfl (by kernel_rfl) (by kernel_rfl) (by kernel_rfl) (fun _ _ _ h => h) (Or.inl ⟨by rfl, ?_⟩) hS ?_
      rotate_left
      · intro w' hw'
        have hcells := HC3.out w' hw'
        go_simp
        (try with_reducible rfl)
      simp only [Act.put, List.getElem_toArray, List.getElem_cons_succ, List.getElem_cons_zero, List.setIfInBounds_toArray, List.set_cons_zero, List.set_cons_succ]
      refine wpAnyH_take (i := 4) (oi := _) (v := ?_) rfl (by kernel_rfl) (by kernel_rfl) (by kernel_rfl) (fun _ _ _ h => h) (Or.inl ⟨by rfl, ?_⟩) hS ?_
      rotate_left
      · intro w' hw'
        have hcells := HC3.out w' hw'
        go_simp
        (try with_reducible rfl)
      simp only [Act.put, List.getElem_toArray, List.getElem_cons_succ, List.getElem_cons_zero, List.setIfInBounds_toArray, List.set_cons_zero, List.set_cons_succ]
      refine wpAnyH_take (i := 5) (oi := _) (v := ?_) rfl (by kernel_rfl) (by kernel_rfl) (by kernel_rfl) (fun _ _ _ h => h) (Or.inl ⟨by rfl, ?_⟩) hS ?_
      rotate_left
      · intro w' hw'
        have hcells := HC3.out w' hw'
        go_simp
        (try with_reducible rfl)
      simp only [Act.put, List.getElem_toArray, List.getElem_cons_succ, List.getElem_cons_zero, List.setIfInBounds_toArray, List.set_cons_zero, List.set_cons_succ]
      refine wpAnyH_ready (rs := [6]) (by kernel_rfl) (by simp) ?_
      refine AllReadyH.cons (o := _) rfl (fun K hK => ?_) AllReadyH.nil
      go_simp
      refine hK.out _ _ (hS.ext ((Below.refl _ _).alloc (Nat.le_refl _) _)) (fun hS => ?_)
      clear hK K
      (try simp only [Act.put, List.getElem_toArray, List.getElem_cons_succ, List.getElem_cons_zero, List.setIfInBounds_toArray, List.set_cons_zero, List.set_cons_succ])
      refine wpAnyH_ready (rs := [7]) (by kernel_rfl) (by simp) ?_
      refine AllReadyH.cons (o := _) rfl (fun K hK => ?_) AllReadyH.nil
      refine step_append_lies _ (by rfl) _ _ _ (by rfl) B 30 ti _ 10 152 Tryz.underlying36 hi hz0 hz1 hz2 rfl (by omega) (.slice va acc.length vcap) acc.length (cs.flatMap MC.cs) (by rfl) (HOWN.out.alloc _) ⟨w3.heap.size, 0, none⟩ 1 1 (MC.cs x) (by rfl) (by rfl) (World.news_of_block (heap_alloc_new w3.drew _)) (by simp [MC.cs, Value.oneCell']) (by omega) hcap1 hcap2 hS.n _ rfl ?_
      intro gg cap5 w6 hown2 hgrow hat hlt2
      have hS6 := hS.grown hgrow HNE.out
      have HO2 := hid hown2
      have HG := hid hgrow
      have HAT := hid hat
      clear hown2 hgrow hat hlt2
      refine hK.out _ _ (hS6) (fun hS => ?_)
      clear hK K
      (try simp only [Act.put, List.getElem_toArray, List.getElem_cons_succ, List.getElem_cons_zero, List.setIfInBounds_toArray, List.set_cons_zero, List.set_cons_succ])
      refine wpAnyH_done (by kernel_rfl) ?_ _
      (try dsimp only)
      have HS6 := hid hS
      have hc6 := hS.at 0 (by simp)
      dsimp only [List.getElem_cons_zero] at hc6
      clear hS hS6 hi hz0 hz1 hz2
      have z0 := cellOf hc6 0
      have zf0 := freeOf hc6 0
      (try dsimp only at z0)
      clear hc6
      go_wp2
      go_roundw
      case rel =>
        have hk2 : Kept msgK 30 B w6 (.slice (some ⟨gg, 0, none⟩) (acc.length + 1) cap5) (acc.length + 1) (acc ++ [d.items[k]]) :=
          Kept.push (K := msgK) (w1 := w3.drew) (c := x) HCL.out rfl HEL.out HS3D.out.n HXD.out (fun r e => (HNE.out r e).1) HO2.out HG.out
        have hat := HAT.out
        have hs3 := HS3.out
        have hsz3 := HSZ.out
        have hcb := HCB.out
        refine ⟨k + 1, .slice (some ⟨gg, 0, none⟩) (acc.length + 1) cap5, acc ++ [d.items[k]], by omega, by go_num, ?_, ?_, fun r e => ?_, ?_, by simp; omega⟩
        · exact (HS6.out.set (o := 0) (.slice (some ⟨gg, 0, none⟩) (acc.length + 1) cap5) HCB.out.1 (by simp; omega)).sub (by simp)
        · rw [List.length_append]
          refine hk2.set _ _ HCB.out.1 (fun e => ?_)
          have hr : gg = cb := Option.some.inj e
          rcases hat with h | h
          · exact (HNE.out gg h).2 _ (List.mem_cons_self ..) hr.symm
          · rw [h] at hr; simp at hr; omega
        · have hr : r = gg := (Option.some.inj e).symm
          subst hr
          rcases hat with h | h
          · have h1 := (HNE.out r h).2
            exact ⟨fun e => h1 _ (List.mem_cons_self ..) e.symm, fun e => h1 _ (List.mem_cons_of_mem _ (List.mem_cons_self ..)) e.symm⟩
          · rw [h]; simp; omega
        · rw [HIT.out, List.drop_eq_getElem_cons hkl, itemsE, if_neg HA6.out, ← HE0.out, if_neg (by decide), ← HH0.out, if_neg (by decide)]
      case measure => simp [intOf]; omega
  · obtain rfl : k = il := by omega
    have hi0 : itemsE acc0 d.items = (0, acc) := by rw [HIT.out, show k = d.items.length from HLI.out, List.drop_length, itemsE]
    have R1 := hid (show slotE acc0 nv d = ((valsE nv d.vals).1, acc, (valsE nv d.vals).2) by rw [R0.out, hi0, if_neg (show ¬ ((0 : Int), acc).1 ≠ 0 from fun h => h rfl)])
    have HNB := hid hnb
    have c9 := cellOf (hkb.at 1 (by simp)) 9
    (try dsimp only [List.getElem_cons_zero, List.getElem_cons_succ] at c9)
    have HKB := hid (hkb.sub (l' := [(cb, (.cells #[.slice va acc.length vcap, .int .i64 (nv : Nat)] 111))]) (by intro p hp; simp only [List.mem_cons, List.not_mem_nil, or_false] at hp; simp [hp]))
    have HRB := hid hrb
    clear hi0 hnb hkb hrb HIT hi hz0 hz1 hz2
    go_wp2
    clear c9
    go_loopw [58] (fun i wr => ∃ (q kv : Nat), q ≤ wl ∧ i = .int .i64 q ∧ KeepB B w [(cb, (.cells #[.slice va acc.length vcap, .int .i64 (kv : Nat)] 111))] wr ∧ Kept msgK 30 B wr (.slice va acc.length vcap) acc.length acc ∧ valsE nv d.vals = valsE kv (d.vals.drop q) ∧ kv ≤ 4096) (fun i _ => wl - (intOf i).toNat)
    case atStart => exact ⟨0, nv, Nat.zero_le _, rfl, HKB.out, HRB.out, by rw [List.drop_zero], hv⟩
    case round =>
    obtain ⟨q, kv, hq, rfl, hkb, hrb, hvt, hkv⟩ := hrel
    obtain ⟨wq, rfl⟩ : ∃ w1 : World, w1 = wr := ⟨_, rfl⟩
    clear HKB HRB
    have HVT := hid hvt
    clear hvt
    by_cases hlt : q < wl
    · have hql : q < d.vals.length := by have := HLV.out; omega
      obtain ⟨b, o, rfl, hb, hx⟩ := HDV.out.slot (show 0 < wl by omega)
      obtain ⟨x, hxa, hxi⟩ := hx q hql
      obtain ⟨x0, x1, x2, x3, x4, x5⟩ := (hxa.same (hkb.b.block b hb)).val
      have hlt' : (q : Int) < (wl : Int) := by omega
      have hq0 : (0 : Int) ≤ (q : Int) := by omega
      have hK2 : KeepB B w [(cb, (.cells #[.slice va acc.length vcap, .int .i64 (kv : Nat)] 111)), (wq.heap.size, (.cells #[.int .i64 x.k, .int .i64 x.i, .int .i64 x.s, .string x.t, .slice x.la x.ll x.lc, .slice x.fa x.fl x.fc] 28))] (wq.alloc (.cells #[.int .i64 x.k, .int .i64 x.i, .int .i64 x.s, .string x.t, .slice x.la x.ll x.lc, .slice x.fa x.fl x.fc] 28)) := by
        have h1 := (hkb.ext ((Below.refl _ wq).alloc (Nat.le_refl _) _)).cons (heap_alloc_new wq (.cells #[.int .i64 x.k, .int .i64 x.i, .int .i64 x.s, .string x.t, .slice x.la x.ll x.lc, .slice x.fa x.fl x.fc] 28))
        exact h1.sub (by intro p hp; simp only [List.mem_cons, List.mem_nil_iff, or_false, List.not_mem_nil] at hp ⊢; rcases hp with h | h <;> simp [h])
      have HC2 : Hid (∀ w', KeepB B w [(cb, (.cells #[.slice va acc.length vcap, .int .i64 (kv : Nat)] 111)), (wq.heap.size, (.cells #[.int .i64 x.k, .int .i64 x.i, .int .i64 x.s, .string x.t, .slice x.la x.ll x.lc, .slice x.fa x.fl x.fc] 28))] w' → (w'.cell? ⟨cb, 1, none⟩ = some (.int .i64 (kv : Nat)) ∧ w'.frozen? ⟨cb, 1, none⟩ = false) ∧ (w'.cell? ⟨wq.heap.size, 0, none⟩ = some (.int .i64 x.k) ∧ w'.cell? ⟨wq.heap.size, 1, none⟩ = some (.int .i64 x.i) ∧ w'.cell? ⟨wq.heap.size, 2, none⟩ = some (.int .i64 x.s) ∧ w'.cell? ⟨wq.heap.size, 3, none⟩ = some (.string x.t) ∧ w'.cell? ⟨wq.heap.size, 4, none⟩ = some (.slice x.la x.ll x.lc) ∧ w'.cell? ⟨wq.heap.size, 5, none⟩ = some (.slice x.fa x.fl x.fc))) := hid fun w' h => ⟨⟨cellOf (h.at 0 (by simp)) 1, freeOf (h.at 0 (by simp)) 1⟩, cellOf (h.at 1 (by simp)) 0, cellOf (h.at 1 (by simp)) 1, cellOf (h.at 1 (by simp)) 2, cellOf (h.at 1 (by simp)) 3, cellOf (h.at 1 (by simp)) 4, cellOf (h.at 1 (by simp)) 5⟩
      have RD : Hid (IsVal (· < (wq.alloc (.cells #[.int .i64 x.k, .int .i64 x.i, .int .i64 x.s, .string x.t, .slice x.la x.ll x.lc, .slice x.fa x.fl x.fc] 28)).heap.size) (wq.alloc (.cells #[.int .i64 x.k, .int .i64 x.i, .int .i64 x.s, .string x.t, .slice x.la x.ll x.lc, .slice x.fa x.fl x.fc] 28)) x d.vals[q]) := hid (hxi.same fun b q => ⟨by have := hK2.n; omega, hK2.b.block b q⟩)
      have HK2 := hid hK2
      have HRB := hid hrb
      have HKB := hid hkb
      clear hxa hxi hx hkb hrb hb hK2
      obtain ⟨⟨q1, q2⟩, m0, m1, m2, m3, m4, m5⟩ := HC2.out _ HK2.out
      by_cases ha : kv = 4096
      · have ha1 : (kv : Int) = 4096 := by omega
        have ha2 : ((kv : Int) == 4096) = true := by simp [ha1]
        have r := hid (show (slotE acc0 nv d).1 = 9 by rw [R1.out, HVT.out, List.drop_eq_getElem_cons hql, valsE, if_pos ha])
        clear ha
        go_wp2
        go_ret
        exact ⟨retI r.out.symm, HK2.out.b, HK2.out.n, fun h => absurd (r.out.symm.trans h) (by decide)⟩
      have ha1 : ¬ (kv : Int) = 4096 := by omega
      have ha2 : ((kv : Int) == 4096) = false := by simp; omega
      have ha3 : (kv : Int) ≤ 4096 := by omega
      have ha4 : (0 : Int) ≤ (kv : Int) := by omega
      have HA6 := hid ha
      clear ha
      obtain ⟨v, hv2⟩ : ∃ v, v = chkVal d.vals[q] := ⟨_, rfl⟩
      have HE0 := hid hv2
      have HMC : Hid (Calls Tryz.prog 75 #[.agg #[.int .i64 x.k, .int .i64 x.i, .int .i64 x.s, .string x.t, .slice x.la x.ll x.lc, .slice x.fa x.fl x.fc]] (wq.alloc (.cells #[.int .i64 x.k, .int .i64 x.i, .int .i64 x.s, .string x.t, .slice x.la x.ll x.lc, .slice x.fa x.fl x.fc] 28)) fun e w' => e = .returned (.int .i64 v) ∧ Below (wq.alloc (.cells #[.int .i64 x.k, .int .i64 x.i, .int .i64 x.s, .string x.t, .slice x.la x.ll x.lc, .slice x.fa x.fl x.fc] 28)).heap.size (wq.alloc (.cells #[.int .i64 x.k, .int .i64 x.i, .int .i64 x.s, .string x.t, .slice x.la x.ll x.lc, .slice x.fa x.fl x.fc] 28)) w') := hid (by rw [hv2]; exact check_call x _ _ RD.out (TAB.out _ HK2.out.b))
      clear hv2
      by_cases hv0 : v = 0
      case neg =>
        have r := hid (show (slotE acc0 nv d).1 = v by rw [R1.out, HVT.out, List.drop_eq_getElem_cons hql, valsE, if_neg HA6.out, ← HE0.out, if_pos hv0])
        go_wp2_with (go_at_call 75; refine HMC.out.mono ?_; rintro e w2 ⟨rfl, hb2⟩)
        go_ret
        exact ⟨retI r.out.symm, (HK2.out.ext hb2).b, (HK2.out.ext hb2).n, fun h => absurd (r.out.symm.trans h) hv0⟩
      case pos =>
      subst hv0
      go_wp2_with (go_at_call 75; refine HMC.out.mono ?_; rintro e w2 ⟨rfl, hb2⟩; clear q1 q2 m0 m1 m2 m3 m4 m5; obtain ⟨⟨q1, q2⟩, m0, m1, m2, m3, m4, m5⟩ := HC2.out _ (HK2.out.ext hb2))
      go_roundw
      case rel =>
        have hk4 := HK2.out.ext hb2
        have hr4 := HRB.out.ext HKB.out.n (((Below.refl _ wq).alloc (Nat.le_refl _) (.cells #[.int .i64 x.k, .int .i64 x.i, .int .i64 x.s, .string x.t, .slice x.la x.ll x.lc, .slice x.fa x.fl x.fc] 28)).trans (hb2.mono (by simp)))
        have hsz : cb < wq.heap.size := ltOf (HKB.out.at 0 (by simp))
        refine ⟨q + 1, kv + 1, by omega, by go_num, ?_, hr4.set _ _ HCB.out.1 (fun e => (HNB.out cb e).1 rfl), ?_, by have := HA6.out; omega⟩
        · have h := hk4.set (o := 1) (.int .i64 ((kv : Int) + 1)) HCB.out.1 (by simp; omega)
          rw [show ((kv : Int) + 1) = ((kv + 1 : Nat) : Int) by omega] at h
          exact h.sub (by simp)
        · rw [HVT.out, List.drop_eq_getElem_cons hql, valsE, if_neg HA6.out, ← HE0.out, if_neg (by decide)]
      case measure => simp [intOf]; omega
    · obtain rfl : q = wl := by omega
      have R2 := hid (show slotE acc0 nv d = (0, acc, kv) by rw [R1.out, HVT.out, show q = d.vals.length from HLV.out, List.drop_length, valsE])
      go_wp2
      go_ret
      exact ⟨retI (by rw [R2.out]), hkb.b, hkb.n, fun _ => by rw [R2.out]; exact ⟨_, hkb, hrb, fun r e => (HNB.out r e).1, hm1, hkv⟩⟩
end Go.Proofs.YthjlgpmajeafpaaGreatDoor
