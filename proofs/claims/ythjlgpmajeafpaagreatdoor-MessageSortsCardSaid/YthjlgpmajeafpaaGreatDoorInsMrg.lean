/-
  Plain: insertion of elements from the end of a list; a row of cells whose elements are stored one by one. No program in sight.
-/
import Derived.Test.YthjlgpmajeafpaaGreatDoorAppMrg
import Derived.Test.YthjlgpmajeafpaaGreatDoorStampMrg
import Derived.Deep.RegionHeld
import Derived.Test.YthjlgpmajeafpaaGreatDoorKeepMrg
namespace Go.Proofs.YthjlgpmajeafpaaGreatDoor
open Go Go.RowKit
set_option linter.unusedVariables false
set_option linter.unusedSimpArgs false

section
variable {α β : Type}
/-- Where x comes to stand among the first k of A: behind the last that it is not less than. -/
def scanP (lt : α → α → Bool) (x : α) (A : List α) : Nat → Nat
  | 0 => 0
  | k + 1 => match A[k]? with
    | some a => if lt x a = true then scanP lt x A k else k + 1
    | none => k + 1
def insL (lt : α → α → Bool) (A : List α) (x : α) : List α := A.take (scanP lt x A A.length) ++ x :: A.drop (scanP lt x A A.length)
def sortT (lt : α → α → Bool) (l : List α) : Nat → List α
  | 0 => []
  | i + 1 => match l[i]? with
    | some x => insL lt (sortT lt l i) x
    | none => sortT lt l i
theorem scanP_le (lt : α → α → Bool) (x : α) (A : List α) : ∀ k, scanP lt x A k ≤ k
  | 0 => Nat.le_refl _
  | k + 1 => by
    rw [scanP]
    split
    · split
      · have := scanP_le lt x A k; omega
      · exact Nat.le_refl _
    · exact Nat.le_refl _
theorem insL_len (lt : α → α → Bool) (A : List α) (x : α) : (insL lt A x).length = A.length + 1 := by
  have := scanP_le lt x A A.length
  simp only [insL, List.length_append, List.length_take, List.length_cons, List.length_drop]
  omega
theorem sortT_len (lt : α → α → Bool) (l : List α) : ∀ i, i ≤ l.length → (sortT lt l i).length = i
  | 0, _ => rfl
  | i + 1, h => by
    rw [sortT, List.getElem?_eq_getElem (by omega)]
    dsimp only
    rw [insL_len, sortT_len lt l i (by omega)]
theorem sortT_succ (lt : α → α → Bool) (l : List α) (i : Nat) (h : i < l.length) : sortT lt l (i + 1) = insL lt (sortT lt l i) l[i] := by
  rw [sortT, List.getElem?_eq_getElem h]
theorem scanP_pass {lt : α → α → Bool} {x : α} {A : List α} {j : Nat} (h : j < A.length) (hl : lt x A[j] = true) : scanP lt x A (j + 1) = scanP lt x A j := by
  rw [scanP, List.getElem?_eq_getElem h]
  dsimp only
  rw [if_pos hl]
theorem scanP_stop {lt : α → α → Bool} {x : α} {A : List α} {j : Nat} (h : j < A.length) (hl : lt x A[j] = false) : scanP lt x A (j + 1) = j + 1 := by
  rw [scanP, List.getElem?_eq_getElem h]
  dsimp only
  rw [if_neg (by rw [hl]; decide)]
theorem insL_of {lt : α → α → Bool} {A : List α} {x : α} {j : Nat} (h : scanP lt x A A.length = j) : insL lt A x = A.take j ++ x :: A.drop j := by rw [insL, h]
theorem scanP_map (f : α → β) (lt : α → α → Bool) (lt' : β → β → Bool) (h : ∀ a b, lt a b = lt' (f a) (f b)) (x : α) (A : List α) : ∀ k, scanP lt x A k = scanP lt' (f x) (A.map f) k
  | 0 => rfl
  | k + 1 => by
    rw [scanP, scanP, List.getElem?_map]
    cases hA : A[k]? with
    | none => rfl
    | some a => simp only [Option.map_some, h, scanP_map f lt lt' h x A k]
theorem insL_map (f : α → β) (lt : α → α → Bool) (lt' : β → β → Bool) (h : ∀ a b, lt a b = lt' (f a) (f b)) (A : List α) (x : α) : (insL lt A x).map f = insL lt' (A.map f) (f x) := by
  rw [insL, insL, scanP_map f lt lt' h, List.length_map]
  simp [List.map_take, List.map_drop]
theorem sortT_map (f : α → β) (lt : α → α → Bool) (lt' : β → β → Bool) (h : ∀ a b, lt a b = lt' (f a) (f b)) (l : List α) : ∀ i, (sortT lt l i).map f = sortT lt' (l.map f) i
  | 0 => rfl
  | i + 1 => by
    rw [sortT, sortT, List.getElem?_map]
    cases hl : l[i]? with
    | none => exact sortT_map f lt lt' h l i
    | some a =>
      dsimp only [Option.map_some]
      rw [insL_map f lt lt' h, sortT_map f lt lt' h l i]
/-- The state of the inner loop: x stands at place j. -/
def midL (A : List α) (x : α) (j : Nat) (r : List α) : List α := A.take j ++ x :: (A.drop j ++ r)
theorem midL_len {A : List α} {x : α} {j : Nat} {r : List α} (h : j ≤ A.length) : (midL A x j r).length = A.length + 1 + r.length := by
  simp only [midL, List.length_append, List.length_take, List.length_cons, List.length_drop]
  omega
theorem midL_at {A : List α} {x : α} {j : Nat} {r : List α} (h : j ≤ A.length) (g : j < (midL A x j r).length) : (midL A x j r)[j] = x := by
  simp only [midL]
  rw [List.getElem_append_right (by rw [List.length_take]; omega)]
  simp [List.length_take, Nat.min_eq_left h]
theorem midL_prev {A : List α} {x : α} {j : Nat} {r : List α} (h : j < A.length) (g : j < (midL A x (j + 1) r).length) : (midL A x (j + 1) r)[j] = A[j] := by
  simp only [midL]
  rw [List.getElem_append_left (by rw [List.length_take]; omega)]
  simp
theorem midL_swap {A : List α} {x : α} {j : Nat} {r : List α} (h : j < A.length) : ((midL A x (j + 1) r).set (j + 1) A[j]).set j x = midL A x j r := by
  have e1 : A.take (j + 1) = A.take j ++ [A[j]] := by rw [List.take_succ_eq_append_getElem h]
  have e2 : A.drop j = A[j] :: A.drop (j + 1) := List.drop_eq_getElem_cons h
  have hl : (A.take j).length = j := by rw [List.length_take]; omega
  rw [midL, midL, e1, e2, List.append_assoc]
  simp only [List.cons_append, List.nil_append]
  rw [List.set_append_right _ _ (by omega), List.set_append_right _ _ (by omega), hl, show j + 1 - j = 1 by omega, Nat.sub_self]
  rfl
theorem midL_end {A : List α} {x : α} (r : List α) : midL A x A.length r = A ++ x :: r := by simp [midL]
end

/-! ### Rows stored in place -/
def setMA (cur : Array Value) : Nat → List Value → Array Value
  | _, [] => cur
  | o, v :: vs => setMA (cur.setIfInBounds o v) (o + 1) vs
theorem setMA_size : ∀ (vs : List Value) (cur : Array Value) (o : Nat), (setMA cur o vs).size = cur.size
  | [], _, _ => rfl
  | v :: vs, cur, o => by rw [setMA, setMA_size vs, Array.size_setIfInBounds]
theorem setMA_in : ∀ (vs : List Value) (cur : Array Value) (o i : Nat), o + vs.length ≤ cur.size → i < vs.length → (setMA cur o vs)[o + i]? = vs[i]?
  | v :: vs, cur, o, 0, h, _ => by
    have hout : ∀ (vs : List Value) (cur : Array Value) (o t : Nat), t < o → (setMA cur o vs)[t]? = cur[t]? := by
      intro vs
      induction vs with
      | nil => intros; rfl
      | cons v vs ih => intro cur o t ht; rw [setMA, ih _ _ _ (by omega), Array.getElem?_setIfInBounds, if_neg (by omega)]
    rw [setMA, hout _ _ _ _ (by omega), Array.getElem?_setIfInBounds]
    simp at h ⊢
    omega
  | v :: vs, cur, o, i + 1, h, hi => by
    rw [setMA, show o + (i + 1) = o + 1 + i by omega, setMA_in vs _ (o + 1) i (by simp at h ⊢; omega) (by simpa using hi)]
    rfl
theorem setMA_out : ∀ (vs : List Value) (cur : Array Value) (o t : Nat), (t < o ∨ o + vs.length ≤ t) → (setMA cur o vs)[t]? = cur[t]?
  | [], _, _, _, _ => rfl
  | v :: vs, cur, o, t, h => by
    rw [setMA, setMA_out vs _ _ _ (by simp at h; omega), Array.getElem?_setIfInBounds, if_neg (by simp at h; omega)]
def stW (w : World) (g : Nat) : Nat → List Value → World
  | _, [] => w
  | o, v :: vs => stW (w.setCell ⟨g, o, none⟩ v) g (o + 1) vs
theorem stW_heap : ∀ (vs : List Value) {w : World} {g o : Nat} {cur : Array Value} {T : TypeId} {fr : Nat × Nat}, w.heap[g]? = some (.cells cur T fr) → (stW w g o vs).heap[g]? = some (.cells (setMA cur o vs) T fr)
  | [], _, _, _, _, _, _, h => h
  | v :: vs, _, _, _, _, _, _, h => stW_heap vs (heapSet v h)
/-- All but the block g is as it was; more blocks may lie behind. -/
structure Off (g : Nat) (w w' : World) : Prop where
  os : w'.os = w.os
  tape : w'.tape = w.tape
  output : w'.output = w.output
  size : w.heap.size ≤ w'.heap.size
  block : ∀ k, k < w.heap.size → k ≠ g → w'.heap[k]? = w.heap[k]?
theorem Off.refl (g : Nat) (w : World) : Off g w w := ⟨rfl, rfl, rfl, Nat.le_refl _, fun _ _ _ => rfl⟩
theorem Off.trans {g : Nat} {a b c : World} (h : Off g a b) (k : Off g b c) : Off g a c :=
  ⟨k.os.trans h.os, k.tape.trans h.tape, k.output.trans h.output, Nat.le_trans h.size k.size, fun i hi hg => (k.block i (Nat.lt_of_lt_of_le hi h.size) hg).trans (h.block i hi hg)⟩
theorem Off.of {g : Nat} {w w' : World} (h : Below w.heap.size w w') : Off g w w' := ⟨h.os, h.tape, h.output, h.size, fun k hk _ => h.block k hk⟩
theorem Off.below {g B : Nat} {w w' : World} (h : Off g w w') (hg : B ≤ g) (hB : B ≤ w.heap.size) : Below B w w' := ⟨h.os, h.tape, h.output, h.size, fun k hk => h.block k (by omega) (by omega)⟩
theorem Off.set (g o : Nat) (v : Value) (w : World) : Off g w (w.setCell ⟨g, o, none⟩ v) := by
  have h : Below g w (w.setCell ⟨g, o, none⟩ v) := (Below.refl _ _).setCell (p := ⟨g, o, none⟩) (Nat.le_refl _) v
  exact ⟨h.os, h.tape, h.output, h.size, fun k _ hk => Below.heap_setCell _ _ _ _ hk⟩
theorem Off.st (g : Nat) : ∀ (vs : List Value) (o : Nat) (w : World), Off g w (stW w g o vs)
  | [], _, w => Off.refl g w
  | v :: vs, o, w => (Off.set g o v w).trans (Off.st g vs (o + 1) _)
theorem stW_size (g : Nat) : ∀ (vs : List Value) (o : Nat) (w : World), (stW w g o vs).heap.size = w.heap.size
  | [], _, w => rfl
  | v :: vs, o, w => by rw [stW, stW_size g vs]; simp [World.setCell]
section
variable {C D : Type} (K : Kit C D)
/-- The block g holds a row of such things. -/
def InRow (T : Nat) (w : World) (g cap : Nat) (cs : List C) : Prop :=
  ∃ cur, w.heap[g]? = some (.cells cur T (0, 0)) ∧ cur.size = cap * K.n ∧ cs.length ≤ cap ∧ ∀ j (h : j < cs.length) i, i < K.n → cur[j * K.n + i]? = (K.cs cs[j])[i]?
variable {K}
theorem InRow.ofOwn {T B : Nat} {w : World} {g n cap : Nat} {cs : List C} (hcs : cs.length = n) (h : w.ownsRow B T K.n (.slice (some ⟨g, 0, none⟩) n cap) n (cs.flatMap K.cs)) : InRow K T w g cap cs := by
  have hat := fun j (hj : j < cs.length) => AtG.ofRow (K := K) h j hj
  obtain ⟨_, h4 | ⟨g', cap', cur, hv, hB, hg, hcap, _, hsz, _⟩⟩ := h
  · exact absurd h4.1 (by simp)
  · simp only [Value.slice.injEq, Option.some.injEq, Addr.mk.injEq, and_true] at hv
    obtain ⟨rfl, _, rfl⟩ := hv
    refine ⟨cur, hg, hsz, by omega, fun j hj i hi => ?_⟩
    rw [← hat j hj i hi, cellOf hg]
theorem InRow.at' {T : Nat} {w : World} {g cap : Nat} {cs : List C} (h : InRow K T w g cap cs) (j : Nat) (hj : j < cs.length) : AtG K w g (j * K.n) cs[j] := by
  obtain ⟨cur, hg, _, _, hc⟩ := h
  intro i hi
  rw [cellOf hg, hc j hj i hi]
theorem InRow.free {T : Nat} {w : World} {g cap : Nat} {cs : List C} (h : InRow K T w g cap cs) (o : Nat) : w.frozen? ⟨g, o, none⟩ = false := by
  obtain ⟨cur, hg, _⟩ := h
  exact freeOf hg o
theorem InRow.ext {T : Nat} {w w' : World} {g cap : Nat} {cs : List C} (h : InRow K T w g cap cs) (hb : Below w.heap.size w w') : InRow K T w' g cap cs := by
  obtain ⟨cur, hg, h2⟩ := h
  exact ⟨cur, heapExt hb hg, h2⟩
theorem InRow.put {T : Nat} {w : World} {g cap : Nat} {cs : List C} (h : InRow K T w g cap cs) (j : Nat) (hj : j < cs.length) (c : C) : InRow K T (stW w g (j * K.n) (K.cs c)) g cap (cs.set j c) := by
  obtain ⟨cur, hg, hsz, hcap, hc⟩ := h
  have hn := K.pos
  have hl := K.len c
  have hjn : j * K.n + K.n ≤ cap * K.n := by rw [← Nat.succ_mul]; exact Nat.mul_le_mul_right _ (by omega)
  refine ⟨_, stW_heap _ hg, by rw [setMA_size]; exact hsz, by simpa using hcap, fun j' hj' i hi => ?_⟩
  have hj2 : j' < cs.length := by simpa using hj'
  by_cases e : j' = j
  · subst e
    rw [setMA_in _ _ _ _ (by omega) (by omega)]
    simp
  · have hne : (cs.set j c)[j'] = cs[j'] := by rw [List.getElem_set_ne (fun h => e h.symm)]
    rw [hne, setMA_out, hc j' hj2 i hi]
    rcases Nat.lt_or_ge j' j with g1 | g1
    · left
      have : (j' + 1) * K.n ≤ j * K.n := Nat.mul_le_mul_right _ g1
      rw [Nat.succ_mul] at this
      omega
    · right
      have : (j + 1) * K.n ≤ j' * K.n := Nat.mul_le_mul_right _ (by omega)
      rw [Nat.succ_mul] at this
      omega
end
end Go.Proofs.YthjlgpmajeafpaaGreatDoor

/-
  A region that draws its order with stores behind its loads: one condition on the world that holds till the first store comes up, and none behind it. (After the base's Derived/OrdersHeld.) No program in sight.
-/
namespace Go.Proofs.YthjlgpmajeafpaaGreatDoor
open Go Go.RowKit
set_option linter.unusedVariables false
set_option linter.unusedSimpArgs false

section
variable {P : Program} {ops : Array Oper} {Q : Exit → Act → World → Prop} {md : Region.Mode} {S : World → Prop}

/-- S holds as long as number st has not come up. -/
def SL (st : Nat) (S : World → Prop) (L : Array Bool) (w : World) : Prop := L.getD st true = false → S w
def wpAnyT (P : Program) (md : Region.Mode) (ops : Array Oper) (Q : Exit → Act → World → Prop) (st : Nat) (S : World → Prop) : Nat → Array Bool → Act → World → Prop
  | 0, listed, a, w => Region.ready md ops listed = [] ∧ Q .normal a w
  | fuel + 1, listed, a, w =>
    (Region.ready md ops listed = [] → Q .normal a w) ∧
    ∀ i ∈ Region.ready md ops listed, wpOp P ops Q i (fun a' w' => SL st S (listed.setIfInBounds i true) w' ∧ wpAnyT P md ops Q st S fuel (listed.setIfInBounds i true) a' w') a w
theorem wpAny_of_T {st : Nat} : ∀ (fuel : Nat) (listed : Array Bool) (a : Act) (w : World), wpAnyT P md ops Q st S fuel listed a w → wpAny P md ops Q fuel listed a w
  | 0, _, _, _, h => h
  | fuel + 1, _, _, _, h => ⟨h.1, fun i hi => wpOp_mono (fun a' w' h' => wpAny_of_T fuel _ a' w' h'.2) (h.2 i hi)⟩
theorem SL_set {st i : Nat} (hi : i ≠ st) (L : Array Bool) (w : World) : SL st S (L.setIfInBounds i true) w = SL st S L w := by
  unfold SL
  have e : (L.setIfInBounds i true).getD st true = L.getD st true := by
    simp only [Array.getD_eq_getD_getElem?, Array.getElem?_setIfInBounds]
    rw [if_neg hi]
  rw [e]
theorem wpAnyT_first {st i : Nat} {oi : Oper} {v : Value} {Y : World → Prop} {Inv : Array Bool → Prop} (hist : i ≠ st) (hi : ops[i]? = some oi) (hsel : ∀ (j : Nat) (o : Oper) cs b, ops[j]? = some o → o.op ≠ .select cs b)
    (hQ : ∀ c a w, Q (.panic c) (a.put oi.dst v) w → Q (.panic c) a w)
    (hY : ∀ L w, Inv L → SL st S L w → Y w) (hInv : ∀ L j, Inv L → L.getD i true = false → j ∈ Region.ready md ops L → j ≠ i → Inv (L.setIfInBounds j true)) :
    ∀ (fuel : Nat) (listed : Array Bool) (a : Act) (w : World), Inv listed →
      (∀ j oj, ops[j]? = some oj → j ≠ i → listed.getD j true = false → (∀ e ∈ oj.after, Region.binds md e = true → e.on ≠ i) → oi.apart ops oj = true) →
      i ∈ Region.ready md ops listed → YieldsIf P ops Y oi v a → SL st S listed w →
      wpAnyT P md ops Q st S fuel (listed.setIfInBounds i true) (a.put oi.dst v) w → wpAnyT P md ops Q st S (fuel + 1) listed a w := by
  intro fuel
  induction fuel with
  | zero =>
    intro listed a w hI _ hr hy hS H
    refine ⟨fun h => (by rw [h] at hr; cases hr), fun j hj => ?_⟩
    by_cases hji : j = i
    · subst hji; exact hy.wpOp hi (hY _ _ hI hS) ⟨by rw [SL_set hist]; exact hS, H⟩
    · have := ready_mono hj hji
      rw [H.1] at this
      cases this
  | succ fuel ih =>
    intro listed a w hI hfree hr hy hS H
    refine ⟨fun h => (by rw [h] at hr; cases hr), fun j hj => ?_⟩
    by_cases hji : j = i
    · subst hji; exact hy.wpOp hi (hY _ _ hI hS) ⟨by rw [SL_set hist]; exact hS, H⟩
    · have h1 := H.2 j (ready_mono hj hji)
      obtain ⟨hjun, oj, hoj, hall⟩ := mem_ready.1 hj
      have hnot : ∀ e ∈ oj.after, Region.binds md e = true → e.on ≠ i := fun e he hb heq => by
        have h1 := hall e he hb
        have h0 := (mem_ready.1 hr).1
        rw [heq] at h1
        rcases Nat.lt_or_ge i listed.size with h' | h'
        · simp [h'] at h0 h1; rw [h0] at h1; cases h1
        · simp [Array.getElem?_eq_none h'] at h1
      have h2 := wpOp_putIf hoj (hfree j oj hoj hji hjun hnot) (fun cs b => hsel i oi cs b hi) (fun cs b => hsel j oj cs b hoj) hQ hy h1
      have hfree' : ∀ k ok, ops[k]? = some ok → k ≠ i → (listed.setIfInBounds j true).getD k true = false →
          (∀ e ∈ ok.after, Region.binds md e = true → e.on ≠ i) → oi.apart ops ok = true := fun k ok hk hki hun hno => by
        refine hfree k ok hk hki ?_ hno
        by_cases hjk : j = k
        · subst hjk; exact hjun
        · rw [getD_set_ne true hjk] at hun; exact hun
      have hI' : Inv (listed.setIfInBounds j true) := hInv listed j hI (mem_ready.1 hr).1 hj hji
      refine wpOp_mono (fun a' w' h3 => ?_) h2
      have hS' : SL st S (listed.setIfInBounds j true) w' := by
        have := h3.2.1
        rw [Array.setIfInBounds_comm _ _ (Ne.symm hji), SL_set hist] at this
        exact this
      refine ⟨hS', ih (listed.setIfInBounds j true) a' w' hI' hfree' (ready_mono hr (Ne.symm hji)) h3.1 hS' ?_⟩
      rw [Array.setIfInBounds_comm _ _ hji]
      exact h3.2.2
/-- A register operation: in whatever world. -/
theorem wpAnyT_reg {st i : Nat} {oi : Oper} {v : Value} {fuel : Nat} {listed : Array Bool} {a : Act} {w : World} (hi : ops[i]? = some oi) (hist : decide (i ≠ st) = true)
    (hs : Region.noSelect ops = true) (hf : Region.free md ops listed i = true) (hr : (Region.ready md ops listed).contains i = true)
    (hQ : ∀ c a w, Q (.panic c) (a.put oi.dst v) w → Q (.panic c) a w) (hy : YieldsIf P ops (fun _ => True) oi v a) (hS : SL st S listed w)
    (h : wpAnyT P md ops Q st S fuel (listed.setIfInBounds i true) (a.put oi.dst v) w) : wpAnyT P md ops Q st S (fuel + 1) listed a w :=
  wpAnyT_first (Inv := fun _ => True) (of_decide_eq_true hist) hi (Region.noSelect_spec hs) hQ (fun _ _ _ _ => trivial) (fun _ _ _ _ _ _ => trivial) fuel listed a w trivial (Region.free_spec hi hf) (by simpa using hr) hy hS h
/-- Number st waits for i. -/
def waitsFor (md : Region.Mode) (ops : Array Oper) (st i : Nat) : Bool := match ops[st]? with
  | none => false
  | some o => o.after.any fun e => Region.binds md e && e.on == i
/-- A load, that number st waits for: in the worlds that meet S. -/
theorem wpAnyT_load {st i : Nat} {oi : Oper} {v : Value} {fuel : Nat} {listed : Array Bool} {a : Act} {w : World} (hi : ops[i]? = some oi) (hist : decide (i ≠ st) = true) (hw : waitsFor md ops st i = true) (hst : listed.getD st true = false)
    (hs : Region.noSelect ops = true) (hf : Region.free md ops listed i = true) (hr : (Region.ready md ops listed).contains i = true)
    (hQ : ∀ c a w, Q (.panic c) (a.put oi.dst v) w → Q (.panic c) a w) (hy : YieldsIf P ops S oi v a) (hS : SL st S listed w)
    (h : wpAnyT P md ops Q st S fuel (listed.setIfInBounds i true) (a.put oi.dst v) w) : wpAnyT P md ops Q st S (fuel + 1) listed a w := by
  refine wpAnyT_first (Inv := fun L => L.getD st true = false) (of_decide_eq_true hist) hi (Region.noSelect_spec hs) hQ (fun L w hI hSL => hSL hI) (fun L j hI hun hj hji => ?_) fuel listed a w hst (Region.free_spec hi hf) (by simpa using hr) hy hS h
  have hjst : j ≠ st := fun e => by
    subst e
    obtain ⟨_, o, ho, hall⟩ := mem_ready.1 hj
    simp only [waitsFor, ho, Array.any_eq_true, Bool.and_eq_true, beq_iff_eq] at hw
    obtain ⟨k, hk, hb, hon⟩ := hw
    have h1 := hall _ (Array.getElem_mem hk) hb
    rw [hon] at h1
    rcases Nat.lt_or_ge i L.size with h' | h'
    · simp [h'] at hun h1; rw [hun] at h1; cases h1
    · simp [Array.getElem?_eq_none h'] at h1
  rw [getD_set_ne true hjst]
  exact hI
def AllReadyT (P : Program) (md : Region.Mode) (ops : Array Oper) (Q : Exit → Act → World → Prop) (st : Nat) (S : World → Prop) (fuel : Nat) (listed : Array Bool) (a : Act) (w : World) (rs : List Nat) : Prop :=
  ∀ i ∈ rs, wpOp P ops Q i (fun a' w' => SL st S (listed.setIfInBounds i true) w' ∧ wpAnyT P md ops Q st S fuel (listed.setIfInBounds i true) a' w') a w
/-- One operation alone may come up: number st or one behind it. -/
theorem wpAnyT_one {st i : Nat} {o : Oper} {fuel : Nat} {listed : Array Bool} {a : Act} {w : World} (hr : Region.ready md ops listed = [i]) (hst : (listed.setIfInBounds i true).getD st true = true) (ho : ops[i]? = some o)
    (h : ∀ K' : Act → World → Prop, Shut (∀ a w, wpAnyT P md ops Q st S fuel (listed.setIfInBounds i true) a w → K' a w) → if Region.wanted o (yielded ops a.tmps) = true then Oper.wp P o a w K' Q else K' (a.put o.dst undef) w) : wpAnyT P md ops Q st S (fuel + 1) listed a w := by
  refine ⟨fun h0 => absurd (hr ▸ h0) (by simp), fun j hj => ?_⟩
  rw [hr] at hj
  obtain rfl := List.mem_singleton.1 hj
  exact wpOp_step ho (fun K' hK => h K' (fun a w hW => hK a w ⟨(fun h1 => by rw [hst] at h1; cases h1), hW⟩))
theorem wpAnyT_done {st : Nat} {listed : Array Bool} {a : Act} {w : World} (hr : Region.ready md ops listed = []) (h : Q .normal a w) : ∀ fuel, wpAnyT P md ops Q st S fuel listed a w
  | 0 => ⟨hr, h⟩
  | _ + 1 => ⟨fun _ => h, by rw [hr]; simp⟩
theorem wp_region_two {id : Nat} {a : Act} {w : World} (st : Nat) (hm : P.follows .mixedOrders = true)
    (h : wpAnyT P .any ops Q st (fun w' => w' = w.drew) ops.size (Array.replicate ops.size false) a w.drew) : (Code.region id ops true).wp P Q a w :=
  wp_region_any hm (wpAny_of_T _ _ _ _ h)
end
end Go.Proofs.YthjlgpmajeafpaaGreatDoor

/-
  slices.insertionSortCmpFunc over messages by message.Sort's function: a row in place is sorted by insertion. Conditions: the row lies in one block; its elements can be read elsewhere.
-/
namespace Go.Proofs.YthjlgpmajeafpaaGreatDoor
open Go Go.RowKit Go.Shelf
set_option linter.unusedVariables false
set_option linter.unusedSimpArgs false

theorem sort1_call (x y : MC) (d e : Msg) (w : World) (hd : IsMsg (· < w.heap.size) w x d) (he : IsMsg (· < w.heap.size) w y e) : Calls Tryz.prog 94 #[x.v, y.v] w fun r w' => r = .returned (.int .i64 (cmpSt d.st e.st)) ∧ Below w.heap.size w w' := by
  have hb : Below w.heap.size w ((w.alloc (mObj x)).alloc (mObj y)) := ((Below.refl _ w).alloc (Nat.le_refl _) _).alloc (by simp) _
  have hc := stCompare_call x.st y.st d.st e.st _ (hd.st.same fun b q => ⟨Nat.lt_of_lt_of_le q hb.size, hb.block b q⟩) (he.st.same fun b q => ⟨Nat.lt_of_lt_of_le q hb.size, hb.block b q⟩)
  have g1 := heapAlloc (mObj y) (heap_alloc_new w (mObj x))
  have x0 := cellOf g1 0
  have x1 := cellOf g1 1
  (try dsimp only [mObj] at x0 x1)
  have HC := hid hc
  have HB := hid hb
  clear hc hb hd he g1
  dsimp only [mObj, MC.v, SC.v] at HC HB x0 x1 ⊢
  go_enter Tryz.func94, Tryz.ntmps94
  go_wp2_with (go_at_call 49; refine HC.out.mono ?_; rintro e w2 ⟨rfl, hb2⟩)
  go_ret
  exact ⟨rfl, HB.out.trans (hb2.mono HB.out.size)⟩
abbrev ltD (d e : Msg) : Bool := decide (cmpSt d.st e.st < 0)
abbrev ltM (p q : MC × Msg) : Bool := ltD p.2 q.2
theorem sort_in {lt : MC × Msg → MC × Msg → Bool} {A : List (MC × Msg)} {x : MC × Msg} {q : MC × Msg} (h : q ∈ insL lt A x) : q ∈ A ∨ q = x := by
  rw [insL, List.mem_append, List.mem_cons] at h
  rcases h with h | h | h
  · exact .inl (List.mem_of_mem_take h)
  · exact .inr h
  · exact .inl (List.mem_of_mem_drop h)
theorem sortT_in {lt : MC × Msg → MC × Msg → Bool} {l : List (MC × Msg)} : ∀ (i : Nat) (q : MC × Msg), q ∈ sortT lt l i → q ∈ l
  | 0, q, h => by cases h
  | i + 1, q, h => by
    rw [sortT] at h
    cases hl : l[i]? with
    | none => rw [hl] at h; exact sortT_in i q h
    | some x =>
      rw [hl] at h
      rcases sort_in h with h | h
      · exact sortT_in i q h
      · rw [h]; exact List.mem_of_getElem? hl

set_option maxRecDepth 100000 in
set_option maxHeartbeats 16000000 in
theorem insM_call (g cap n : Nat) (ps : List (MC × Msg)) (w : World) (hn : ps.length = n) (h20 : n ≤ 20) (hg : g < w.heap.size) (hrow : InRow msgK 30 w g cap (ps.map Prod.fst)) (hel : ∀ p ∈ ps, IsMsg (fun b => b < w.heap.size ∧ b ≠ g) w p.1 p.2) :
    Calls Tryz.prog 161 #[.slice (some ⟨g, 0, none⟩) n cap, .int .i64 0, .int .i64 n, .func (.func 94) #[] #[]] w fun e w' => e = .returned (.tuple #[]) ∧ Off g w w' ∧ InRow msgK 30 w' g cap ((sortT ltM ps n).map Prod.fst) := by
  have hen : ∀ args w, (callFunc 94 args).run Tryz.prog w = .ok (.enter 94 args) w := enters_of Tryz.func94 (by kernel_rfl) rfl
  have HN := hid hn
  have HG := hid hg
  have HROW := hid hrow
  have HEL := hid hel
  clear hn hg hrow hel
  go_enter Tryz.func161, Tryz.ntmps161
  go_wp2
  go_loopw [8] (fun i wr => ∃ k : Nat, 1 ≤ k ∧ (k ≤ n ∨ k = 1) ∧ i = .int .i64 k ∧ Off g w wr ∧ InRow msgK 30 wr g cap ((sortT ltM ps k ++ ps.drop k).map Prod.fst)) (fun i _ => n + 1 - (intOf i).toNat)
  case atStart =>
    refine ⟨1, Nat.le_refl _, .inr rfl, rfl, Off.refl _ _, ?_⟩
    have e : sortT ltM ps 1 ++ ps.drop 1 = ps := by
      cases ps with
      | nil => rfl
      | cons x r => rfl
    rw [e]
    exact HROW.out
  case round =>
  obtain ⟨k, hk1, hk, rfl, hof, hrw⟩ := hrel
  obtain ⟨wp, rfl⟩ : ∃ w1 : World, w1 = wr := ⟨_, rfl⟩
  by_cases hlt : k < n
  · have hkl : k < ps.length := by have := HN.out; omega
    have hlt' : (k : Int) < (n : Int) := by omega
    obtain ⟨x, hx⟩ : ∃ x, x = ps[k] := ⟨_, rfl⟩
    obtain ⟨r, hr⟩ : ∃ r, r = ps.drop (k + 1) := ⟨_, rfl⟩
    obtain ⟨A, hA⟩ : ∃ A, A = sortT ltM ps k := ⟨_, rfl⟩
    have hAl : A.length = k := by rw [hA]; exact sortT_len _ _ _ (by omega)
    have hmid : sortT ltM ps k ++ ps.drop k = midL A x k r := by
      rw [← hA, List.drop_eq_getElem_cons hkl, ← hx, ← hr]
      have := midL_end (A := A) (x := x) r
      rw [hAl] at this
      exact this.symm
    rw [hmid] at hrw
    have HNX := hid (show sortT ltM ps (k + 1) = insL ltM A x by rw [sortT_succ _ _ _ hkl, ← hA, ← hx])
    have HXI := hid (show IsMsg (fun b => b < w.heap.size ∧ b ≠ g) w x.1 x.2 from HEL.out x (by rw [hx]; exact List.getElem_mem hkl))
    have HAI := hid (show ∀ p ∈ A, IsMsg (fun b => b < w.heap.size ∧ b ≠ g) w p.1 p.2 from fun p hp => HEL.out p (by rw [hA] at hp; exact sortT_in _ _ hp))
    have HR := hid hr
    have HAL := hid hAl
    have HOF0 := hid hof
    have HRW0 := hid hrw
    have HK := hid hk
    clear hx hr hA hmid hof hrw hk hAl
    go_wp2
    go_loopw [9] (fun jv wr2 => ∃ j : Nat, j ≤ k ∧ jv = .int .i64 j ∧ Off g w wr2 ∧ InRow msgK 30 wr2 g cap ((midL A x j r).map Prod.fst) ∧ scanP ltM x A A.length = scanP ltM x A j) (fun i _ => (intOf i).toNat)
    case atStart => exact ⟨k, Nat.le_refl _, rfl, HOF0.out, HRW0.out, by rw [HAL.out]⟩
    case round =>
    obtain ⟨j, hj, rfl, hof, hrw, hsc⟩ := hrel
    obtain ⟨ws, hws⟩ : ∃ ws, ws = wr := ⟨_, rfl⟩
    rw [← hws] at hof hrw ⊢
    clear hws HOF0 HRW0
    have HOF := hid hof
    have HRW := hid hrw
    by_cases hj0 : j = 0
    · have hjd : decide ((0 : Int) < (j : Int)) = false := by simp; omega
      have hjd2 : decide (0 < j) = false := by simp; omega
      have hjn : ¬ (0 : Int) < (j : Int) := by omega
      have HOUT := hid (show sortT ltM ps (k + 1) ++ ps.drop (k + 1) = midL A x j r by
        rw [HNX.out, ← HR.out, insL_of (j := j) (by rw [hsc, hj0]; rfl), midL, List.append_assoc]
        rfl)
      clear hsc hof hrw hj0
      go_upto_region 4 with (fail)
      refine wp_region_split 17 (fun w' => Below ws.heap.size ws w') (by kernel_rfl) (by kernel_rfl) (by kernel_rfl) (by decide) ((Below.refl _ _).drew) (fun hS => ?_)
      simp only [List.take_succ_cons, List.take_zero, List.drop_succ_cons, List.drop_zero]
      refine wpAnyH_take (i := 0) (oi := _) (v := ?_) rfl (by kernel_rfl) (by kernel_rfl) (by kernel_rfl) (fun _ _ _ h => h) (Or.inl ⟨by rfl, ?_⟩) hS ?_
      rotate_left
      · intro w' hw'
        (try dsimp only at hw')
        go_simp
        (try with_reducible rfl)
      simp only [Act.put, List.getElem_toArray, List.getElem_cons_succ, List.getElem_cons_zero, List.setIfInBounds_toArray, List.set_cons_zero, List.set_cons_succ]
      refine wpAnyH_take (i := 1) (oi := _) (v := ?_) rfl (by kernel_rfl) (by kernel_rfl) (by kernel_rfl) (fun _ _ _ h => h) (Or.inl ⟨by rfl, ?_⟩) hS ?_
      rotate_left
      · intro w' hw'
        (try dsimp only at hw')
        go_simp
        (try with_reducible rfl)
      simp only [Act.put, List.getElem_toArray, List.getElem_cons_succ, List.getElem_cons_zero, List.setIfInBounds_toArray, List.set_cons_zero, List.set_cons_succ]
      refine wpAnyH_take (i := 2) (oi := _) (v := ?_) rfl (by kernel_rfl) (by kernel_rfl) (by kernel_rfl) (fun _ _ _ h => h) (Or.inl ⟨by rfl, ?_⟩) hS ?_
      rotate_left
      · intro w' hw'
        (try dsimp only at hw')
        go_simp
        (try with_reducible rfl)
      simp only [Act.put, List.getElem_toArray, List.getElem_cons_succ, List.getElem_cons_zero, List.setIfInBounds_toArray, List.set_cons_zero, List.set_cons_succ]
      refine wpAnyH_take (i := 3) (oi := _) (v := ?_) rfl (by kernel_rfl) (by kernel_rfl) (by kernel_rfl) (fun _ _ _ h => h) (Or.inl ⟨by rfl, ?_⟩) hS ?_
      rotate_left
      · intro w' hw'
        (try dsimp only at hw')
        go_simp
        (try with_reducible rfl)
      simp only [Act.put, List.getElem_toArray, List.getElem_cons_succ, List.getElem_cons_zero, List.setIfInBounds_toArray, List.set_cons_zero, List.set_cons_succ]
      refine wpAnyH_take (i := 4) (oi := _) (v := undef) rfl (by kernel_rfl) (by kernel_rfl) (by kernel_rfl) (fun _ _ _ h => h) (Or.inr ⟨by rfl, rfl⟩) hS ?_
      simp only [Act.put, List.getElem_toArray, List.getElem_cons_succ, List.getElem_cons_zero, List.setIfInBounds_toArray, List.set_cons_zero, List.set_cons_succ]
      refine wpAnyH_take (i := 5) (oi := _) (v := undef) rfl (by kernel_rfl) (by kernel_rfl) (by kernel_rfl) (fun _ _ _ h => h) (Or.inr ⟨by rfl, rfl⟩) hS ?_
      simp only [Act.put, List.getElem_toArray, List.getElem_cons_succ, List.getElem_cons_zero, List.setIfInBounds_toArray, List.set_cons_zero, List.set_cons_succ]
      refine wpAnyH_take (i := 6) (oi := _) (v := undef) rfl (by kernel_rfl) (by kernel_rfl) (by kernel_rfl) (fun _ _ _ h => h) (Or.inr ⟨by rfl, rfl⟩) hS ?_
      simp only [Act.put, List.getElem_toArray, List.getElem_cons_succ, List.getElem_cons_zero, List.setIfInBounds_toArray, List.set_cons_zero, List.set_cons_succ]
      refine wpAnyH_take (i := 7) (oi := _) (v := undef) rfl (by kernel_rfl) (by kernel_rfl) (by kernel_rfl) (fun _ _ _ h => h) (Or.inr ⟨by rfl, rfl⟩) hS ?_
      simp only [Act.put, List.getElem_toArray, List.getElem_cons_succ, List.getElem_cons_zero, List.setIfInBounds_toArray, List.set_cons_zero, List.set_cons_succ]
      refine wpAnyH_take (i := 8) (oi := _) (v := undef) rfl (by kernel_rfl) (by kernel_rfl) (by kernel_rfl) (fun _ _ _ h => h) (Or.inr ⟨by rfl, rfl⟩) hS ?_
      simp only [Act.put, List.getElem_toArray, List.getElem_cons_succ, List.getElem_cons_zero, List.setIfInBounds_toArray, List.set_cons_zero, List.set_cons_succ]
      refine wpAnyH_take (i := 9) (oi := _) (v := undef) rfl (by kernel_rfl) (by kernel_rfl) (by kernel_rfl) (fun _ _ _ h => h) (Or.inr ⟨by rfl, rfl⟩) hS ?_
      simp only [Act.put, List.getElem_toArray, List.getElem_cons_succ, List.getElem_cons_zero, List.setIfInBounds_toArray, List.set_cons_zero, List.set_cons_succ]
      refine wpAnyH_take (i := 10) (oi := _) (v := undef) rfl (by kernel_rfl) (by kernel_rfl) (by kernel_rfl) (fun _ _ _ h => h) (Or.inr ⟨by rfl, rfl⟩) hS ?_
      simp only [Act.put, List.getElem_toArray, List.getElem_cons_succ, List.getElem_cons_zero, List.setIfInBounds_toArray, List.set_cons_zero, List.set_cons_succ]
      refine wpAnyH_take (i := 11) (oi := _) (v := undef) rfl (by kernel_rfl) (by kernel_rfl) (by kernel_rfl) (fun _ _ _ h => h) (Or.inr ⟨by rfl, rfl⟩) hS ?_
      simp only [Act.put, List.getElem_toArray, List.getElem_cons_succ, List.getElem_cons_zero, List.setIfInBounds_toArray, List.set_cons_zero, List.set_cons_succ]
      refine wpAnyH_take (i := 12) (oi := _) (v := undef) rfl (by kernel_rfl) (by kernel_rfl) (by kernel_rfl) (fun _ _ _ h => h) (Or.inr ⟨by rfl, rfl⟩) hS ?_
      simp only [Act.put, List.getElem_toArray, List.getElem_cons_succ, List.getElem_cons_zero, List.setIfInBounds_toArray, List.set_cons_zero, List.set_cons_succ]
      refine wpAnyH_take (i := 13) (oi := _) (v := undef) rfl (by kernel_rfl) (by kernel_rfl) (by kernel_rfl) (fun _ _ _ h => h) (Or.inr ⟨by rfl, rfl⟩) hS ?_
      simp only [Act.put, List.getElem_toArray, List.getElem_cons_succ, List.getElem_cons_zero, List.setIfInBounds_toArray, List.set_cons_zero, List.set_cons_succ]
      refine wpAnyH_take (i := 14) (oi := _) (v := undef) rfl (by kernel_rfl) (by kernel_rfl) (by kernel_rfl) (fun _ _ _ h => h) (Or.inr ⟨by rfl, rfl⟩) hS ?_
      simp only [Act.put, List.getElem_toArray, List.getElem_cons_succ, List.getElem_cons_zero, List.setIfInBounds_toArray, List.set_cons_zero, List.set_cons_succ]
      refine wpAnyH_take (i := 15) (oi := _) (v := undef) rfl (by kernel_rfl) (by kernel_rfl) (by kernel_rfl) (fun _ _ _ h => h) (Or.inr ⟨by rfl, rfl⟩) hS ?_
      simp only [Act.put, List.getElem_toArray, List.getElem_cons_succ, List.getElem_cons_zero, List.setIfInBounds_toArray, List.set_cons_zero, List.set_cons_succ]
      refine wpAnyH_take (i := 16) (oi := _) (v := ?_) rfl (by kernel_rfl) (by kernel_rfl) (by kernel_rfl) (fun _ _ _ h => h) (Or.inl ⟨by rfl, ?_⟩) hS ?_
      rotate_left
      · intro w' hw'
        (try dsimp only at hw')
        go_simp
        (try with_reducible rfl)
      simp only [Act.put, List.getElem_toArray, List.getElem_cons_succ, List.getElem_cons_zero, List.setIfInBounds_toArray, List.set_cons_zero, List.set_cons_succ]
      refine wpAnyH_done (by kernel_rfl) ?_ _
      (try dsimp only)
      have HBZ := hid (Off.of (g := g) hS)
      have HBZ2 := hid hS
      clear hS
      go_wp2
      go_roundw
      case rel =>
        refine ⟨k + 1, by omega, .inl (by omega), by go_num, HOF.out.trans HBZ.out, ?_⟩
        have e := HOUT.out
        rw [e]
        exact HRW.out.ext HBZ2.out
      case measure => simp [intOf]; omega
    · obtain ⟨q, hq⟩ : ∃ q, j = q + 1 := ⟨j - 1, by omega⟩
      have hwr : IntKind.i64.wrap ((j : Int) - 1) = (j : Int) - 1 := IntWalk.i64_in _ (by omega)
      have hj1 : (0 : Int) ≤ (j : Int) - 1 := by omega
      have hj2 : (1 : Int) ≤ (j : Int) := by omega
      have hj3 : 1 ≤ j := by omega
      have hj4 : (j : Int) - 1 < (n : Int) := by omega
      have hj5 : (j : Int) < (n : Int) := by omega
      have hj6 : (0 : Int) < (j : Int) := by omega
      have hjd : decide ((0 : Int) < (j : Int)) = true := decide_eq_true hj6
      have hjd2 : decide (0 < j) = true := decide_eq_true (by omega)
      have hj7 : (0 : Int) ≤ (j : Int) := by omega
      have hjt : j - 1 = q := by omega
      have hqA : q < A.length := by have := HAL.out; omega
      obtain ⟨cc, hcc⟩ : ∃ cc, cc = cmpSt x.2.st A[q].2.st := ⟨_, rfl⟩
      obtain ⟨y, hy⟩ : ∃ y, y = A[q] := ⟨_, rfl⟩
      rw [← hy] at hcc
      have HYI := hid (show IsMsg (fun b => b < w.heap.size ∧ b ≠ g) w y.1 y.2 from HAI.out y (by rw [hy]; exact List.getElem_mem hqA))
      have HC4 : Hid (∀ w', Below ws.heap.size ws w' → (w'.cell? ⟨g, j * 10, none⟩ = some (.int .i64 x.1.st.e) ∧ w'.cell? ⟨g, j * 10 + 1, none⟩ = some (.slice x.1.st.a x.1.st.n x.1.st.c) ∧ w'.cell? ⟨g, j * 10 + 2, none⟩ = some (.int .i64 x.1.m) ∧ w'.cell? ⟨g, j * 10 + 3, none⟩ = some (.slice x.1.a x.1.n x.1.c) ∧ w'.cell? ⟨g, j * 10 + 4, none⟩ = some (.int .i64 x.1.b.k) ∧ w'.cell? ⟨g, j * 10 + 5, none⟩ = some (.int .i64 x.1.b.i) ∧ w'.cell? ⟨g, j * 10 + 6, none⟩ = some (.int .i64 x.1.b.s) ∧ w'.cell? ⟨g, j * 10 + 7, none⟩ = some (.string x.1.b.t) ∧ w'.cell? ⟨g, j * 10 + 8, none⟩ = some (.slice x.1.b.la x.1.b.ll x.1.b.lc) ∧ w'.cell? ⟨g, j * 10 + 9, none⟩ = some (.slice x.1.b.fa x.1.b.fl x.1.b.fc)) ∧ (w'.cell? ⟨g, (j - 1) * 10, none⟩ = some (.int .i64 y.1.st.e) ∧ w'.cell? ⟨g, (j - 1) * 10 + 1, none⟩ = some (.slice y.1.st.a y.1.st.n y.1.st.c) ∧ w'.cell? ⟨g, (j - 1) * 10 + 2, none⟩ = some (.int .i64 y.1.m) ∧ w'.cell? ⟨g, (j - 1) * 10 + 3, none⟩ = some (.slice y.1.a y.1.n y.1.c) ∧ w'.cell? ⟨g, (j - 1) * 10 + 4, none⟩ = some (.int .i64 y.1.b.k) ∧ w'.cell? ⟨g, (j - 1) * 10 + 5, none⟩ = some (.int .i64 y.1.b.i) ∧ w'.cell? ⟨g, (j - 1) * 10 + 6, none⟩ = some (.int .i64 y.1.b.s) ∧ w'.cell? ⟨g, (j - 1) * 10 + 7, none⟩ = some (.string y.1.b.t) ∧ w'.cell? ⟨g, (j - 1) * 10 + 8, none⟩ = some (.slice y.1.b.la y.1.b.ll y.1.b.lc) ∧ w'.cell? ⟨g, (j - 1) * 10 + 9, none⟩ = some (.slice y.1.b.fa y.1.b.fl y.1.b.fc))) := hid fun w' h => by
        have hR := HRW.out.ext h
        have hl : ((midL A x j r).map Prod.fst).length = A.length + 1 + r.length := by rw [List.length_map, midL_len (by have := HAL.out; omega)]
        have a1 := hR.at' j (by omega)
        have a2 := hR.at' q (by omega)
        rw [List.getElem_map, midL_at (by have := HAL.out; omega)] at a1
        subst hq
        rw [List.getElem_map, midL_prev hqA, ← hy] at a2
        rw [hjt]
        exact ⟨⟨a1 0 (by decide), a1 1 (by decide), a1 2 (by decide), a1 3 (by decide), a1 4 (by decide), a1 5 (by decide), a1 6 (by decide), a1 7 (by decide), a1 8 (by decide), a1 9 (by decide)⟩, a2 0 (by decide), a2 1 (by decide), a2 2 (by decide), a2 3 (by decide), a2 4 (by decide), a2 5 (by decide), a2 6 (by decide), a2 7 (by decide), a2 8 (by decide), a2 9 (by decide)⟩
      have HCM : Hid (∀ w', Below ws.heap.size ws w' → Calls Tryz.prog 94 #[.agg #[.int .i64 x.1.st.e, .slice x.1.st.a x.1.st.n x.1.st.c, .int .i64 x.1.m, .slice x.1.a x.1.n x.1.c, .int .i64 x.1.b.k, .int .i64 x.1.b.i, .int .i64 x.1.b.s, .string x.1.b.t, .slice x.1.b.la x.1.b.ll x.1.b.lc, .slice x.1.b.fa x.1.b.fl x.1.b.fc], .agg #[.int .i64 y.1.st.e, .slice y.1.st.a y.1.st.n y.1.st.c, .int .i64 y.1.m, .slice y.1.a y.1.n y.1.c, .int .i64 y.1.b.k, .int .i64 y.1.b.i, .int .i64 y.1.b.s, .string y.1.b.t, .slice y.1.b.la y.1.b.ll y.1.b.lc, .slice y.1.b.fa y.1.b.fl y.1.b.fc]] w' fun e w2 => e = .returned (.int .i64 cc) ∧ Below w'.heap.size w' w2) := hid fun w' h => by
        rw [hcc]
        have ho := HOF.out.trans (Off.of h)
        have hs := ho.size
        exact sort1_call x.1 y.1 x.2 y.2 w' (HXI.out.same fun b q => ⟨by omega, ho.block b q.1 q.2⟩) (HYI.out.same fun b q => ⟨by omega, ho.block b q.1 q.2⟩)
      have HLT : Hid (∀ (h : q < A.length), ltM x (A[q]'h) = decide (cc < 0)) := hid fun h => by rw [hcc, hy]
      have HQ := hid hq
      have HSC := hid hsc
      have HY : Hid (∀ (h : q < A.length), y = (A[q]'h)) := hid fun h => hy
      clear hcc hy hof hrw hsc hjt hq hqA
      by_cases hcn : cc < 0
      · go_upto_region 4 with (fail)
        refine wp_region_split 17 (fun w' => Below ws.heap.size ws w') (by kernel_rfl) (by kernel_rfl) (by kernel_rfl) (by decide) ((Below.refl _ _).drew) (fun hS => ?_)
        simp only [List.take_succ_cons, List.take_zero, List.drop_succ_cons, List.drop_zero]
        refine wpAnyH_take (i := 0) (oi := _) (v := ?_) rfl (by kernel_rfl) (by kernel_rfl) (by kernel_rfl) (fun _ _ _ h => h) (Or.inl ⟨by rfl, ?_⟩) hS ?_
        rotate_left
        · intro w' hw'
          have hcells := HC4.out w' hw'
          go_simp
          (try with_reducible rfl)
        simp only [Act.put, List.getElem_toArray, List.getElem_cons_succ, List.getElem_cons_zero, List.setIfInBounds_toArray, List.set_cons_zero, List.set_cons_succ]
        refine wpAnyH_take (i := 1) (oi := _) (v := ?_) rfl (by kernel_rfl) (by kernel_rfl) (by kernel_rfl) (fun _ _ _ h => h) (Or.inl ⟨by rfl, ?_⟩) hS ?_
        rotate_left
        · intro w' hw'
          have hcells := HC4.out w' hw'
          go_simp
          (try with_reducible rfl)
        simp only [Act.put, List.getElem_toArray, List.getElem_cons_succ, List.getElem_cons_zero, List.setIfInBounds_toArray, List.set_cons_zero, List.set_cons_succ]
        refine wpAnyH_take (i := 2) (oi := _) (v := ?_) rfl (by kernel_rfl) (by kernel_rfl) (by kernel_rfl) (fun _ _ _ h => h) (Or.inl ⟨by rfl, ?_⟩) hS ?_
        rotate_left
        · intro w' hw'
          have hcells := HC4.out w' hw'
          go_simp
          (try with_reducible rfl)
        simp only [Act.put, List.getElem_toArray, List.getElem_cons_succ, List.getElem_cons_zero, List.setIfInBounds_toArray, List.set_cons_zero, List.set_cons_succ]
        refine wpAnyH_take (i := 3) (oi := _) (v := ?_) rfl (by kernel_rfl) (by kernel_rfl) (by kernel_rfl) (fun _ _ _ h => h) (Or.inl ⟨by rfl, ?_⟩) hS ?_
        rotate_left
        · intro w' hw'
          have hcells := HC4.out w' hw'
          go_simp
          (try with_reducible rfl)
        simp only [Act.put, List.getElem_toArray, List.getElem_cons_succ, List.getElem_cons_zero, List.setIfInBounds_toArray, List.set_cons_zero, List.set_cons_succ]
        refine wpAnyH_take (i := 4) (oi := _) (v := ?_) rfl (by kernel_rfl) (by kernel_rfl) (by kernel_rfl) (fun _ _ _ h => h) (Or.inl ⟨by rfl, ?_⟩) hS ?_
        rotate_left
        · intro w' hw'
          have hcells := HC4.out w' hw'
          go_simp
          (try with_reducible rfl)
        simp only [Act.put, List.getElem_toArray, List.getElem_cons_succ, List.getElem_cons_zero, List.setIfInBounds_toArray, List.set_cons_zero, List.set_cons_succ]
        refine wpAnyH_take (i := 5) (oi := _) (v := ?_) rfl (by kernel_rfl) (by kernel_rfl) (by kernel_rfl) (fun _ _ _ h => h) (Or.inl ⟨by rfl, ?_⟩) hS ?_
        rotate_left
        · intro w' hw'
          have hcells := HC4.out w' hw'
          go_simp
          (try with_reducible rfl)
        simp only [Act.put, List.getElem_toArray, List.getElem_cons_succ, List.getElem_cons_zero, List.setIfInBounds_toArray, List.set_cons_zero, List.set_cons_succ]
        refine wpAnyH_take (i := 6) (oi := _) (v := ?_) rfl (by kernel_rfl) (by kernel_rfl) (by kernel_rfl) (fun _ _ _ h => h) (Or.inl ⟨by rfl, ?_⟩) hS ?_
        rotate_left
        · intro w' hw'
          have hcells := HC4.out w' hw'
          go_simp
          (try with_reducible rfl)
        simp only [Act.put, List.getElem_toArray, List.getElem_cons_succ, List.getElem_cons_zero, List.setIfInBounds_toArray, List.set_cons_zero, List.set_cons_succ]
        refine wpAnyH_take (i := 7) (oi := _) (v := ?_) rfl (by kernel_rfl) (by kernel_rfl) (by kernel_rfl) (fun _ _ _ h => h) (Or.inl ⟨by rfl, ?_⟩) hS ?_
        rotate_left
        · intro w' hw'
          have hcells := HC4.out w' hw'
          go_simp
          (try with_reducible rfl)
        simp only [Act.put, List.getElem_toArray, List.getElem_cons_succ, List.getElem_cons_zero, List.setIfInBounds_toArray, List.set_cons_zero, List.set_cons_succ]
        refine wpAnyH_take (i := 8) (oi := _) (v := ?_) rfl (by kernel_rfl) (by kernel_rfl) (by kernel_rfl) (fun _ _ _ h => h) (Or.inl ⟨by rfl, ?_⟩) hS ?_
        rotate_left
        · intro w' hw'
          have hcells := HC4.out w' hw'
          go_simp
          (try with_reducible rfl)
        simp only [Act.put, List.getElem_toArray, List.getElem_cons_succ, List.getElem_cons_zero, List.setIfInBounds_toArray, List.set_cons_zero, List.set_cons_succ]
        refine wpAnyH_take (i := 9) (oi := _) (v := ?_) rfl (by kernel_rfl) (by kernel_rfl) (by kernel_rfl) (fun _ _ _ h => h) (Or.inl ⟨by rfl, ?_⟩) hS ?_
        rotate_left
        · intro w' hw'
          have hcells := HC4.out w' hw'
          go_simp
          (try with_reducible rfl)
        simp only [Act.put, List.getElem_toArray, List.getElem_cons_succ, List.getElem_cons_zero, List.setIfInBounds_toArray, List.set_cons_zero, List.set_cons_succ]
        refine wpAnyH_take (i := 10) (oi := _) (v := ?_) rfl (by kernel_rfl) (by kernel_rfl) (by kernel_rfl) (fun _ _ _ h => h) (Or.inl ⟨by rfl, ?_⟩) hS ?_
        rotate_left
        · intro w' hw'
          have hcells := HC4.out w' hw'
          go_simp
          (try with_reducible rfl)
        simp only [Act.put, List.getElem_toArray, List.getElem_cons_succ, List.getElem_cons_zero, List.setIfInBounds_toArray, List.set_cons_zero, List.set_cons_succ]
        refine wpAnyH_take (i := 11) (oi := _) (v := ?_) rfl (by kernel_rfl) (by kernel_rfl) (by kernel_rfl) (fun _ _ _ h => h) (Or.inl ⟨by rfl, ?_⟩) hS ?_
        rotate_left
        · intro w' hw'
          have hcells := HC4.out w' hw'
          go_simp
          (try with_reducible rfl)
        simp only [Act.put, List.getElem_toArray, List.getElem_cons_succ, List.getElem_cons_zero, List.setIfInBounds_toArray, List.set_cons_zero, List.set_cons_succ]
        refine wpAnyH_take (i := 12) (oi := _) (v := ?_) rfl (by kernel_rfl) (by kernel_rfl) (by kernel_rfl) (fun _ _ _ h => h) (Or.inl ⟨by rfl, ?_⟩) hS ?_
        rotate_left
        · intro w' hw'
          have hcells := HC4.out w' hw'
          go_simp
          (try with_reducible rfl)
        simp only [Act.put, List.getElem_toArray, List.getElem_cons_succ, List.getElem_cons_zero, List.setIfInBounds_toArray, List.set_cons_zero, List.set_cons_succ]
        refine wpAnyH_take (i := 13) (oi := _) (v := ?_) rfl (by kernel_rfl) (by kernel_rfl) (by kernel_rfl) (fun _ _ _ h => h) (Or.inl ⟨by rfl, ?_⟩) hS ?_
        rotate_left
        · intro w' hw'
          have hcells := HC4.out w' hw'
          go_simp
          (try with_reducible rfl)
        simp only [Act.put, List.getElem_toArray, List.getElem_cons_succ, List.getElem_cons_zero, List.setIfInBounds_toArray, List.set_cons_zero, List.set_cons_succ]
        refine wpAnyH_ready (rs := [14]) (by kernel_rfl) (by simp) ?_
        refine AllReadyH.cons (o := _) rfl (fun K hK => ?_) AllReadyH.nil
        go_simp; go_at_call 94; refine (HCM.out _ hS).mono ?_
        rintro e w4 ⟨rfl, hb4⟩
        refine hK.out _ _ (hS.trans (hb4.mono hS.size)) (fun hS => ?_)
        clear hK K
        (try simp only [Act.put, List.getElem_toArray, List.getElem_cons_succ, List.getElem_cons_zero, List.setIfInBounds_toArray, List.set_cons_zero, List.set_cons_succ])
        refine wpAnyH_take (i := 15) (oi := _) (v := ?_) rfl (by kernel_rfl) (by kernel_rfl) (by kernel_rfl) (fun _ _ _ h => h) (Or.inl ⟨by rfl, ?_⟩) hS ?_
        rotate_left
        · intro w' hw'
          have hcells := HC4.out w' hw'
          go_simp
          (try with_reducible rfl)
        simp only [Act.put, List.getElem_toArray, List.getElem_cons_succ, List.getElem_cons_zero, List.setIfInBounds_toArray, List.set_cons_zero, List.set_cons_succ]
        refine wpAnyH_take (i := 16) (oi := _) (v := ?_) rfl (by kernel_rfl) (by kernel_rfl) (by kernel_rfl) (fun _ _ _ h => h) (Or.inl ⟨by rfl, ?_⟩) hS ?_
        rotate_left
        · intro w' hw'
          have hcells := HC4.out w' hw'
          go_simp
          (try with_reducible rfl)
        simp only [Act.put, List.getElem_toArray, List.getElem_cons_succ, List.getElem_cons_zero, List.setIfInBounds_toArray, List.set_cons_zero, List.set_cons_succ]
        refine wpAnyH_done (by kernel_rfl) ?_ _
        (try dsimp only)
        have HBZ := hid (Off.of (g := g) hS)
        have HBZ2 := hid hS
        clear hS
        obtain ⟨wv, hwv⟩ : ∃ wv, wv = w4 := ⟨_, rfl⟩
        rw [← hwv] at HBZ HBZ2 ⊢
        clear hwv
        have HRV := hid (HRW.out.ext HBZ2.out)
        go_upto_region 6 with (fail)
        obtain ⟨⟨u0, u1, u2, u3, u4, u5, u6, u7, u8, u9⟩, ⟨v0, v1, v2, v3, v4, v5, v6, v7, v8, v9⟩⟩ := HC4.out _ HBZ2.out
        refine wp_region_two 15 (by kernel_rfl) ?_
        refine wpAnyT_reg (i := 0) (oi := _) (v := ?_) rfl (by decide) (by kernel_rfl) (by kernel_rfl) (by kernel_rfl) (fun _ _ _ h => h) (Or.inl ⟨by rfl, ?_⟩) (fun _ => rfl) ?_
        rotate_left
        · intro w' hw'
          go_simp
          (try with_reducible rfl)
        simp only [Act.put, List.getElem_toArray, List.getElem_cons_succ, List.getElem_cons_zero, List.setIfInBounds_toArray, List.set_cons_zero, List.set_cons_succ]
        refine wpAnyT_reg (i := 1) (oi := _) (v := ?_) rfl (by decide) (by kernel_rfl) (by kernel_rfl) (by kernel_rfl) (fun _ _ _ h => h) (Or.inl ⟨by rfl, ?_⟩) (fun _ => rfl) ?_
        rotate_left
        · intro w' hw'
          go_simp
          (try with_reducible rfl)
        simp only [Act.put, List.getElem_toArray, List.getElem_cons_succ, List.getElem_cons_zero, List.setIfInBounds_toArray, List.set_cons_zero, List.set_cons_succ]
        refine wpAnyT_reg (i := 2) (oi := _) (v := ?_) rfl (by decide) (by kernel_rfl) (by kernel_rfl) (by kernel_rfl) (fun _ _ _ h => h) (Or.inl ⟨by rfl, ?_⟩) (fun _ => rfl) ?_
        rotate_left
        · intro w' hw'
          go_simp
          (try with_reducible rfl)
        simp only [Act.put, List.getElem_toArray, List.getElem_cons_succ, List.getElem_cons_zero, List.setIfInBounds_toArray, List.set_cons_zero, List.set_cons_succ]
        refine wpAnyT_reg (i := 3) (oi := _) (v := ?_) rfl (by decide) (by kernel_rfl) (by kernel_rfl) (by kernel_rfl) (fun _ _ _ h => h) (Or.inl ⟨by rfl, ?_⟩) (fun _ => rfl) ?_
        rotate_left
        · intro w' hw'
          go_simp
          (try with_reducible rfl)
        simp only [Act.put, List.getElem_toArray, List.getElem_cons_succ, List.getElem_cons_zero, List.setIfInBounds_toArray, List.set_cons_zero, List.set_cons_succ]
        refine wpAnyT_reg (i := 4) (oi := _) (v := ?_) rfl (by decide) (by kernel_rfl) (by kernel_rfl) (by kernel_rfl) (fun _ _ _ h => h) (Or.inl ⟨by rfl, ?_⟩) (fun _ => rfl) ?_
        rotate_left
        · intro w' hw'
          go_simp
          (try with_reducible rfl)
        simp only [Act.put, List.getElem_toArray, List.getElem_cons_succ, List.getElem_cons_zero, List.setIfInBounds_toArray, List.set_cons_zero, List.set_cons_succ]
        refine wpAnyT_reg (i := 5) (oi := _) (v := ?_) rfl (by decide) (by kernel_rfl) (by kernel_rfl) (by kernel_rfl) (fun _ _ _ h => h) (Or.inl ⟨by rfl, ?_⟩) (fun _ => rfl) ?_
        rotate_left
        · intro w' hw'
          go_simp
          (try with_reducible rfl)
        simp only [Act.put, List.getElem_toArray, List.getElem_cons_succ, List.getElem_cons_zero, List.setIfInBounds_toArray, List.set_cons_zero, List.set_cons_succ]
        refine wpAnyT_reg (i := 6) (oi := _) (v := ?_) rfl (by decide) (by kernel_rfl) (by kernel_rfl) (by kernel_rfl) (fun _ _ _ h => h) (Or.inl ⟨by rfl, ?_⟩) (fun _ => rfl) ?_
        rotate_left
        · intro w' hw'
          go_simp
          (try with_reducible rfl)
        simp only [Act.put, List.getElem_toArray, List.getElem_cons_succ, List.getElem_cons_zero, List.setIfInBounds_toArray, List.set_cons_zero, List.set_cons_succ]
        refine wpAnyT_reg (i := 7) (oi := _) (v := ?_) rfl (by decide) (by kernel_rfl) (by kernel_rfl) (by kernel_rfl) (fun _ _ _ h => h) (Or.inl ⟨by rfl, ?_⟩) (fun _ => rfl) ?_
        rotate_left
        · intro w' hw'
          go_simp
          (try with_reducible rfl)
        simp only [Act.put, List.getElem_toArray, List.getElem_cons_succ, List.getElem_cons_zero, List.setIfInBounds_toArray, List.set_cons_zero, List.set_cons_succ]
        refine wpAnyT_reg (i := 8) (oi := _) (v := ?_) rfl (by decide) (by kernel_rfl) (by kernel_rfl) (by kernel_rfl) (fun _ _ _ h => h) (Or.inl ⟨by rfl, ?_⟩) (fun _ => rfl) ?_
        rotate_left
        · intro w' hw'
          go_simp
          (try with_reducible rfl)
        simp only [Act.put, List.getElem_toArray, List.getElem_cons_succ, List.getElem_cons_zero, List.setIfInBounds_toArray, List.set_cons_zero, List.set_cons_succ]
        refine wpAnyT_load (i := 9) (oi := _) (v := ?_) rfl (by decide) (by kernel_rfl) (by kernel_rfl) (by kernel_rfl) (by kernel_rfl) (by kernel_rfl) (fun _ _ _ h => h) (Or.inl ⟨by rfl, ?_⟩) (fun _ => rfl) ?_
        rotate_left
        · intro w' hw'
          subst hw'
          go_simp
          (try with_reducible rfl)
        simp only [Act.put, List.getElem_toArray, List.getElem_cons_succ, List.getElem_cons_zero, List.setIfInBounds_toArray, List.set_cons_zero, List.set_cons_succ]
        refine wpAnyT_reg (i := 10) (oi := _) (v := ?_) rfl (by decide) (by kernel_rfl) (by kernel_rfl) (by kernel_rfl) (fun _ _ _ h => h) (Or.inl ⟨by rfl, ?_⟩) (fun _ => rfl) ?_
        rotate_left
        · intro w' hw'
          go_simp
          (try with_reducible rfl)
        simp only [Act.put, List.getElem_toArray, List.getElem_cons_succ, List.getElem_cons_zero, List.setIfInBounds_toArray, List.set_cons_zero, List.set_cons_succ]
        refine wpAnyT_reg (i := 11) (oi := _) (v := ?_) rfl (by decide) (by kernel_rfl) (by kernel_rfl) (by kernel_rfl) (fun _ _ _ h => h) (Or.inl ⟨by rfl, ?_⟩) (fun _ => rfl) ?_
        rotate_left
        · intro w' hw'
          go_simp
          (try with_reducible rfl)
        simp only [Act.put, List.getElem_toArray, List.getElem_cons_succ, List.getElem_cons_zero, List.setIfInBounds_toArray, List.set_cons_zero, List.set_cons_succ]
        refine wpAnyT_reg (i := 12) (oi := _) (v := ?_) rfl (by decide) (by kernel_rfl) (by kernel_rfl) (by kernel_rfl) (fun _ _ _ h => h) (Or.inl ⟨by rfl, ?_⟩) (fun _ => rfl) ?_
        rotate_left
        · intro w' hw'
          go_simp
          (try with_reducible rfl)
        simp only [Act.put, List.getElem_toArray, List.getElem_cons_succ, List.getElem_cons_zero, List.setIfInBounds_toArray, List.set_cons_zero, List.set_cons_succ]
        refine wpAnyT_load (i := 13) (oi := _) (v := ?_) rfl (by decide) (by kernel_rfl) (by kernel_rfl) (by kernel_rfl) (by kernel_rfl) (by kernel_rfl) (fun _ _ _ h => h) (Or.inl ⟨by rfl, ?_⟩) (fun _ => rfl) ?_
        rotate_left
        · intro w' hw'
          subst hw'
          go_simp
          (try with_reducible rfl)
        simp only [Act.put, List.getElem_toArray, List.getElem_cons_succ, List.getElem_cons_zero, List.setIfInBounds_toArray, List.set_cons_zero, List.set_cons_succ]
        refine wpAnyT_reg (i := 14) (oi := _) (v := ?_) rfl (by decide) (by kernel_rfl) (by kernel_rfl) (by kernel_rfl) (fun _ _ _ h => h) (Or.inl ⟨by rfl, ?_⟩) (fun _ => rfl) ?_
        rotate_left
        · intro w' hw'
          go_simp
          (try with_reducible rfl)
        simp only [Act.put, List.getElem_toArray, List.getElem_cons_succ, List.getElem_cons_zero, List.setIfInBounds_toArray, List.set_cons_zero, List.set_cons_succ]
        clear u0 v0 u1 v1 u2 v2 u3 v3 u4 v4 u5 v5 u6 v6 u7 v7 u8 v8 u9 v9
        obtain ⟨wd, hwd⟩ : ∃ wd, wd = wv.drew := ⟨_, rfl⟩
        rw [← hwd]
        have HR0 : Hid (InRow msgK 30 wd g cap ((midL A x j r).map Prod.fst)) := hid (by rw [hwd]; exact HRV.out.ext ((Below.refl _ wv).drew))
        have HOD := hid (show Off g wv wd by rw [hwd]; exact Off.of ((Below.refl _ wv).drew))
        clear hwd
        have HLEN15 := hid (show j < ((midL A x j r).map Prod.fst).length by rw [List.length_map, midL_len (by have := HAL.out; omega)]; have := HAL.out; omega)
        refine wpAnyT_one (i := 15) (o := _) (by kernel_rfl) (by kernel_rfl) rfl (fun K hK => ?_)
        obtain ⟨c15, ha⟩ : ∃ c : MC, AtG msgK wd g ((j) * 10) c := ⟨_, HR0.out.at' (j) HLEN15.out⟩
        obtain ⟨z0, z1, z2, z3, z4, z5, z6, z7, z8, z9⟩ := ha.m
        have zf0 := HR0.out.free ((j) * 10)
        have zf1 := HR0.out.free ((j) * 10 + 1)
        have zf2 := HR0.out.free ((j) * 10 + 2)
        have zf3 := HR0.out.free ((j) * 10 + 3)
        have zf4 := HR0.out.free ((j) * 10 + 4)
        have zf5 := HR0.out.free ((j) * 10 + 5)
        have zf6 := HR0.out.free ((j) * 10 + 6)
        have zf7 := HR0.out.free ((j) * 10 + 7)
        have zf8 := HR0.out.free ((j) * 10 + 8)
        have zf9 := HR0.out.free ((j) * 10 + 9)
        clear ha
        go_simp
        obtain ⟨w5, hw5⟩ : ∃ u, u = stW wd g ((j) * 10) (MC.cs y.1) := ⟨_, rfl⟩
        have hw5' := hw5
        simp only [stW, MC.cs, Nat.add_assoc, Nat.reduceAdd] at hw5'
        rw [← hw5']
        clear z0 zf0 z1 zf1 z2 zf2 z3 zf3 z4 zf4 z5 zf5 z6 zf6 z7 zf7 z8 zf8 z9 zf9 hw5'
        refine hK.out _ _ ?_
        clear hK K
        (try simp only [Act.put, List.getElem_toArray, List.getElem_cons_succ, List.getElem_cons_zero, List.setIfInBounds_toArray, List.set_cons_zero, List.set_cons_succ])
        have HR5 : Hid (InRow msgK 30 w5 g cap (((midL A x j r).map Prod.fst).set j y.1)) := hid (by rw [hw5]; exact HR0.out.put j HLEN15.out y.1)
        have HO5 := hid (show Off g wd w5 by rw [hw5]; exact Off.st g _ _ _)
        have HLEN17 := hid (show j - 1 < (((midL A x j r).map Prod.fst).set j y.1).length by rw [List.length_set]; have := HLEN15.out; omega)
        clear hw5
        refine wpAnyT_reg (i := 16) (oi := _) (v := ?_) rfl (by decide) (by kernel_rfl) (by kernel_rfl) (by kernel_rfl) (fun _ _ _ h => h) (Or.inl ⟨by rfl, ?_⟩) (fun h => absurd h (by decide)) ?_
        rotate_left
        · intro w' hw'
          go_simp
          (try with_reducible rfl)
        simp only [Act.put, List.getElem_toArray, List.getElem_cons_succ, List.getElem_cons_zero, List.setIfInBounds_toArray, List.set_cons_zero, List.set_cons_succ]
        refine wpAnyT_one (i := 17) (o := _) (by kernel_rfl) (by kernel_rfl) rfl (fun K hK => ?_)
        obtain ⟨c17, ha⟩ : ∃ c : MC, AtG msgK w5 g ((j - 1) * 10) c := ⟨_, HR5.out.at' (j - 1) HLEN17.out⟩
        obtain ⟨z0, z1, z2, z3, z4, z5, z6, z7, z8, z9⟩ := ha.m
        have zf0 := HR5.out.free ((j - 1) * 10)
        have zf1 := HR5.out.free ((j - 1) * 10 + 1)
        have zf2 := HR5.out.free ((j - 1) * 10 + 2)
        have zf3 := HR5.out.free ((j - 1) * 10 + 3)
        have zf4 := HR5.out.free ((j - 1) * 10 + 4)
        have zf5 := HR5.out.free ((j - 1) * 10 + 5)
        have zf6 := HR5.out.free ((j - 1) * 10 + 6)
        have zf7 := HR5.out.free ((j - 1) * 10 + 7)
        have zf8 := HR5.out.free ((j - 1) * 10 + 8)
        have zf9 := HR5.out.free ((j - 1) * 10 + 9)
        clear ha
        go_simp
        obtain ⟨w6, hw6⟩ : ∃ u, u = stW w5 g ((j - 1) * 10) (MC.cs x.1) := ⟨_, rfl⟩
        have hw6' := hw6
        simp only [stW, MC.cs, Nat.add_assoc, Nat.reduceAdd] at hw6'
        rw [← hw6']
        clear z0 zf0 z1 zf1 z2 zf2 z3 zf3 z4 zf4 z5 zf5 z6 zf6 z7 zf7 z8 zf8 z9 zf9 hw6'
        refine hK.out _ _ ?_
        clear hK K
        (try simp only [Act.put, List.getElem_toArray, List.getElem_cons_succ, List.getElem_cons_zero, List.setIfInBounds_toArray, List.set_cons_zero, List.set_cons_succ])
        have HR6 : Hid (InRow msgK 30 w6 g cap ((((midL A x j r).map Prod.fst).set j y.1).set (j - 1) x.1)) := hid (by rw [hw6]; exact HR5.out.put (j - 1) HLEN17.out x.1)
        have HO6 := hid (show Off g w5 w6 by rw [hw6]; exact Off.st g _ _ _)
        clear hw6
        refine wpAnyT_done (by kernel_rfl) ?_ _
        (try dsimp only)
        go_wp2
        go_roundw
        case rel =>
          have hq := HQ.out
          have hqA : q < A.length := by have := HAL.out; omega
          have h1 := HR6.out
          subst hq
          have e := midL_swap (A := A) (x := x) (r := r) hqA
          have e2 : ((((midL A x (q + 1) r).map Prod.fst).set (q + 1) y.1).set q x.1) = ((midL A x q r).map Prod.fst) := by rw [← e, List.map_set, List.map_set, HY.out hqA]
          rw [show q + 1 - 1 = q from rfl, e2] at h1
          refine ⟨q, by omega, by go_num, HOF.out.trans (HBZ.out.trans (HOD.out.trans (HO5.out.trans HO6.out))), h1, ?_⟩
          rw [HSC.out, scanP_pass hqA (by rw [HLT.out hqA]; exact decide_eq_true hcn)]
        case measure => simp [intOf]; omega
      · have hcn' : 0 ≤ cc := by omega
        have HOUT := hid (show sortT ltM ps (k + 1) ++ ps.drop (k + 1) = midL A x j r by
          have hq := HQ.out
          have hqA : q < A.length := by have := HAL.out; omega
          rw [HNX.out, ← HR.out, insL_of (j := j) (by rw [HSC.out, hq, scanP_stop hqA (by rw [HLT.out hqA]; exact decide_eq_false hcn)]), midL, List.append_assoc]
          rfl)
        go_upto_region 4 with (fail)
        refine wp_region_split 17 (fun w' => Below ws.heap.size ws w') (by kernel_rfl) (by kernel_rfl) (by kernel_rfl) (by decide) ((Below.refl _ _).drew) (fun hS => ?_)
        simp only [List.take_succ_cons, List.take_zero, List.drop_succ_cons, List.drop_zero]
        refine wpAnyH_take (i := 0) (oi := _) (v := ?_) rfl (by kernel_rfl) (by kernel_rfl) (by kernel_rfl) (fun _ _ _ h => h) (Or.inl ⟨by rfl, ?_⟩) hS ?_
        rotate_left
        · intro w' hw'
          have hcells := HC4.out w' hw'
          go_simp
          (try with_reducible rfl)
        simp only [Act.put, List.getElem_toArray, List.getElem_cons_succ, List.getElem_cons_zero, List.setIfInBounds_toArray, List.set_cons_zero, List.set_cons_succ]
        refine wpAnyH_take (i := 1) (oi := _) (v := ?_) rfl (by kernel_rfl) (by kernel_rfl) (by kernel_rfl) (fun _ _ _ h => h) (Or.inl ⟨by rfl, ?_⟩) hS ?_
        rotate_left
        · intro w' hw'
          have hcells := HC4.out w' hw'
          go_simp
          (try with_reducible rfl)
        simp only [Act.put, List.getElem_toArray, List.getElem_cons_succ, List.getElem_cons_zero, List.setIfInBounds_toArray, List.set_cons_zero, List.set_cons_succ]
        refine wpAnyH_take (i := 2) (oi := _) (v := ?_) rfl (by kernel_rfl) (by kernel_rfl) (by kernel_rfl) (fun _ _ _ h => h) (Or.inl ⟨by rfl, ?_⟩) hS ?_
        rotate_left
        · intro w' hw'
          have hcells := HC4.out w' hw'
          go_simp
          (try with_reducible rfl)
        simp only [Act.put, List.getElem_toArray, List.getElem_cons_succ, List.getElem_cons_zero, List.setIfInBounds_toArray, List.set_cons_zero, List.set_cons_succ]
        refine wpAnyH_take (i := 3) (oi := _) (v := ?_) rfl (by kernel_rfl) (by kernel_rfl) (by kernel_rfl) (fun _ _ _ h => h) (Or.inl ⟨by rfl, ?_⟩) hS ?_
        rotate_left
        · intro w' hw'
          have hcells := HC4.out w' hw'
          go_simp
          (try with_reducible rfl)
        simp only [Act.put, List.getElem_toArray, List.getElem_cons_succ, List.getElem_cons_zero, List.setIfInBounds_toArray, List.set_cons_zero, List.set_cons_succ]
        refine wpAnyH_take (i := 4) (oi := _) (v := ?_) rfl (by kernel_rfl) (by kernel_rfl) (by kernel_rfl) (fun _ _ _ h => h) (Or.inl ⟨by rfl, ?_⟩) hS ?_
        rotate_left
        · intro w' hw'
          have hcells := HC4.out w' hw'
          go_simp
          (try with_reducible rfl)
        simp only [Act.put, List.getElem_toArray, List.getElem_cons_succ, List.getElem_cons_zero, List.setIfInBounds_toArray, List.set_cons_zero, List.set_cons_succ]
        refine wpAnyH_take (i := 5) (oi := _) (v := ?_) rfl (by kernel_rfl) (by kernel_rfl) (by kernel_rfl) (fun _ _ _ h => h) (Or.inl ⟨by rfl, ?_⟩) hS ?_
        rotate_left
        · intro w' hw'
          have hcells := HC4.out w' hw'
          go_simp
          (try with_reducible rfl)
        simp only [Act.put, List.getElem_toArray, List.getElem_cons_succ, List.getElem_cons_zero, List.setIfInBounds_toArray, List.set_cons_zero, List.set_cons_succ]
        refine wpAnyH_take (i := 6) (oi := _) (v := ?_) rfl (by kernel_rfl) (by kernel_rfl) (by kernel_rfl) (fun _ _ _ h => h) (Or.inl ⟨by rfl, ?_⟩) hS ?_
        rotate_left
        · intro w' hw'
          have hcells := HC4.out w' hw'
          go_simp
          (try with_reducible rfl)
        simp only [Act.put, List.getElem_toArray, List.getElem_cons_succ, List.getElem_cons_zero, List.setIfInBounds_toArray, List.set_cons_zero, List.set_cons_succ]
        refine wpAnyH_take (i := 7) (oi := _) (v := ?_) rfl (by kernel_rfl) (by kernel_rfl) (by kernel_rfl) (fun _ _ _ h => h) (Or.inl ⟨by rfl, ?_⟩) hS ?_
        rotate_left
        · intro w' hw'
          have hcells := HC4.out w' hw'
          go_simp
          (try with_reducible rfl)
        simp only [Act.put, List.getElem_toArray, List.getElem_cons_succ, List.getElem_cons_zero, List.setIfInBounds_toArray, List.set_cons_zero, List.set_cons_succ]
        refine wpAnyH_take (i := 8) (oi := _) (v := ?_) rfl (by kernel_rfl) (by kernel_rfl) (by kernel_rfl) (fun _ _ _ h => h) (Or.inl ⟨by rfl, ?_⟩) hS ?_
        rotate_left
        · intro w' hw'
          have hcells := HC4.out w' hw'
          go_simp
          (try with_reducible rfl)
        simp only [Act.put, List.getElem_toArray, List.getElem_cons_succ, List.getElem_cons_zero, List.setIfInBounds_toArray, List.set_cons_zero, List.set_cons_succ]
        refine wpAnyH_take (i := 9) (oi := _) (v := ?_) rfl (by kernel_rfl) (by kernel_rfl) (by kernel_rfl) (fun _ _ _ h => h) (Or.inl ⟨by rfl, ?_⟩) hS ?_
        rotate_left
        · intro w' hw'
          have hcells := HC4.out w' hw'
          go_simp
          (try with_reducible rfl)
        simp only [Act.put, List.getElem_toArray, List.getElem_cons_succ, List.getElem_cons_zero, List.setIfInBounds_toArray, List.set_cons_zero, List.set_cons_succ]
        refine wpAnyH_take (i := 10) (oi := _) (v := ?_) rfl (by kernel_rfl) (by kernel_rfl) (by kernel_rfl) (fun _ _ _ h => h) (Or.inl ⟨by rfl, ?_⟩) hS ?_
        rotate_left
        · intro w' hw'
          have hcells := HC4.out w' hw'
          go_simp
          (try with_reducible rfl)
        simp only [Act.put, List.getElem_toArray, List.getElem_cons_succ, List.getElem_cons_zero, List.setIfInBounds_toArray, List.set_cons_zero, List.set_cons_succ]
        refine wpAnyH_take (i := 11) (oi := _) (v := ?_) rfl (by kernel_rfl) (by kernel_rfl) (by kernel_rfl) (fun _ _ _ h => h) (Or.inl ⟨by rfl, ?_⟩) hS ?_
        rotate_left
        · intro w' hw'
          have hcells := HC4.out w' hw'
          go_simp
          (try with_reducible rfl)
        simp only [Act.put, List.getElem_toArray, List.getElem_cons_succ, List.getElem_cons_zero, List.setIfInBounds_toArray, List.set_cons_zero, List.set_cons_succ]
        refine wpAnyH_take (i := 12) (oi := _) (v := ?_) rfl (by kernel_rfl) (by kernel_rfl) (by kernel_rfl) (fun _ _ _ h => h) (Or.inl ⟨by rfl, ?_⟩) hS ?_
        rotate_left
        · intro w' hw'
          have hcells := HC4.out w' hw'
          go_simp
          (try with_reducible rfl)
        simp only [Act.put, List.getElem_toArray, List.getElem_cons_succ, List.getElem_cons_zero, List.setIfInBounds_toArray, List.set_cons_zero, List.set_cons_succ]
        refine wpAnyH_take (i := 13) (oi := _) (v := ?_) rfl (by kernel_rfl) (by kernel_rfl) (by kernel_rfl) (fun _ _ _ h => h) (Or.inl ⟨by rfl, ?_⟩) hS ?_
        rotate_left
        · intro w' hw'
          have hcells := HC4.out w' hw'
          go_simp
          (try with_reducible rfl)
        simp only [Act.put, List.getElem_toArray, List.getElem_cons_succ, List.getElem_cons_zero, List.setIfInBounds_toArray, List.set_cons_zero, List.set_cons_succ]
        refine wpAnyH_ready (rs := [14]) (by kernel_rfl) (by simp) ?_
        refine AllReadyH.cons (o := _) rfl (fun K hK => ?_) AllReadyH.nil
        go_simp; go_at_call 94; refine (HCM.out _ hS).mono ?_
        rintro e w4 ⟨rfl, hb4⟩
        refine hK.out _ _ (hS.trans (hb4.mono hS.size)) (fun hS => ?_)
        clear hK K
        (try simp only [Act.put, List.getElem_toArray, List.getElem_cons_succ, List.getElem_cons_zero, List.setIfInBounds_toArray, List.set_cons_zero, List.set_cons_succ])
        refine wpAnyH_take (i := 15) (oi := _) (v := ?_) rfl (by kernel_rfl) (by kernel_rfl) (by kernel_rfl) (fun _ _ _ h => h) (Or.inl ⟨by rfl, ?_⟩) hS ?_
        rotate_left
        · intro w' hw'
          have hcells := HC4.out w' hw'
          go_simp
          (try with_reducible rfl)
        simp only [Act.put, List.getElem_toArray, List.getElem_cons_succ, List.getElem_cons_zero, List.setIfInBounds_toArray, List.set_cons_zero, List.set_cons_succ]
        refine wpAnyH_take (i := 16) (oi := _) (v := ?_) rfl (by kernel_rfl) (by kernel_rfl) (by kernel_rfl) (fun _ _ _ h => h) (Or.inl ⟨by rfl, ?_⟩) hS ?_
        rotate_left
        · intro w' hw'
          have hcells := HC4.out w' hw'
          go_simp
          (try with_reducible rfl)
        simp only [Act.put, List.getElem_toArray, List.getElem_cons_succ, List.getElem_cons_zero, List.setIfInBounds_toArray, List.set_cons_zero, List.set_cons_succ]
        refine wpAnyH_done (by kernel_rfl) ?_ _
        (try dsimp only)
        have HBZ := hid (Off.of (g := g) hS)
        have HBZ2 := hid hS
        clear hS
        go_wp2
        go_roundw
        case rel =>
          refine ⟨k + 1, by omega, .inl (by omega), by go_num, HOF.out.trans HBZ.out, ?_⟩
          have e := HOUT.out
          rw [e]
          exact HRW.out.ext HBZ2.out
        case measure => simp [intOf]; omega
  · have HOF := hid hof
    have HRW := hid hrw
    have hnl : ¬ (k : Int) < (n : Int) := by omega
    have HE := hid (show sortT ltM ps k ++ ps.drop k = sortT ltM ps n by
      have hl := HN.out
      rcases hk with hk | hk
      · obtain rfl : k = n := by omega
        rw [List.drop_eq_nil_of_le (show ps.length ≤ k by omega), List.append_nil]
      · subst hk
        cases ps with
        | nil => simp at hl; subst hl; rfl
        | cons x r =>
          rw [List.length_cons] at hl
          have h1 : n = 1 := by omega
          rw [List.drop_eq_nil_of_le (show (x :: r).length ≤ 1 by rw [List.length_cons]; omega), List.append_nil, h1])
    clear hof hrw hk
    go_wp2
    go_end0
    exact ⟨rfl, HOF.out, by rw [← HE.out]; exact HRW.out⟩
end Go.Proofs.YthjlgpmajeafpaaGreatDoor
