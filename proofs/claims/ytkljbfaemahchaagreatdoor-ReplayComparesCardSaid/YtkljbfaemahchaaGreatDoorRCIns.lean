/-
  Plain: insertion of elements from the end of a list; a row of cells whose elements are stored one by one. No program in sight.
-/
import Derived.Test.YtkljbfaemahchaaGreatDoorRCApp
namespace Go.Proofs.YtkljbfaemahchaaGreatDoor
open Go Go.RowKit
set_option linter.unusedVariables false
set_option linter.unusedSimpArgs false

section
variable {α β : Type}
/-- Where x comes to stand among the first k of A: behind the last that it is not less than. -/
def scanP (lt : α → α → Bool) (x : α) (A : List α) : Nat → Nat
  | 0 => 0
  | k + 1 => match A[k]? with
    | some a => if lt x a = true then scanP lt x A k else k + 1
    | none => k + 1
def insL (lt : α → α → Bool) (A : List α) (x : α) : List α := A.take (scanP lt x A A.length) ++ x :: A.drop (scanP lt x A A.length)
def sortT (lt : α → α → Bool) (l : List α) : Nat → List α
  | 0 => []
  | i + 1 => match l[i]? with
    | some x => insL lt (sortT lt l i) x
    | none => sortT lt l i
theorem scanP_le (lt : α → α → Bool) (x : α) (A : List α) : ∀ k, scanP lt x A k ≤ k
  | 0 => Nat.le_refl _
  | k + 1 => by
    rw [scanP]
    split
    · split
      · have := scanP_le lt x A k; omega
      · exact Nat.le_refl _
    · exact Nat.le_refl _
theorem insL_len (lt : α → α → Bool) (A : List α) (x : α) : (insL lt A x).length = A.length + 1 := by
  have := scanP_le lt x A A.length
  simp only [insL, List.length_append, List.length_take, List.length_cons, List.length_drop]
  omega
theorem sortT_len (lt : α → α → Bool) (l : List α) : ∀ i, i ≤ l.length → (sortT lt l i).length = i
  | 0, _ => rfl
  | i + 1, h => by
    rw [sortT, List.getElem?_eq_getElem (by omega)]
    dsimp only
    rw [insL_len, sortT_len lt l i (by omega)]
theorem sortT_succ (lt : α → α → Bool) (l : List α) (i : Nat) (h : i < l.length) : sortT lt l (i + 1) = insL lt (sortT lt l i) l[i] := by
  rw [sortT, List.getElem?_eq_getElem h]
theorem scanP_pass {lt : α → α → Bool} {x : α} {A : List α} {j : Nat} (h : j < A.length) (hl : lt x A[j] = true) : scanP lt x A (j + 1) = scanP lt x A j := by
  rw [scanP, List.getElem?_eq_getElem h]
  dsimp only
  rw [if_pos hl]
theorem scanP_stop {lt : α → α → Bool} {x : α} {A : List α} {j : Nat} (h : j < A.length) (hl : lt x A[j] = false) : scanP lt x A (j + 1) = j + 1 := by
  rw [scanP, List.getElem?_eq_getElem h]
  dsimp only
  rw [if_neg (by rw [hl]; decide)]
theorem insL_of {lt : α → α → Bool} {A : List α} {x : α} {j : Nat} (h : scanP lt x A A.length = j) : insL lt A x = A.take j ++ x :: A.drop j := by rw [insL, h]
theorem scanP_map (f : α → β) (lt : α → α → Bool) (lt' : β → β → Bool) (h : ∀ a b, lt a b = lt' (f a) (f b)) (x : α) (A : List α) : ∀ k, scanP lt x A k = scanP lt' (f x) (A.map f) k
  | 0 => rfl
  | k + 1 => by
    rw [scanP, scanP, List.getElem?_map]
    cases hA : A[k]? with
    | none => rfl
    | some a => simp only [Option.map_some, h, scanP_map f lt lt' h x A k]
theorem insL_map (f : α → β) (lt : α → α → Bool) (lt' : β → β → Bool) (h : ∀ a b, lt a b = lt' (f a) (f b)) (A : List α) (x : α) : (insL lt A x).map f = insL lt' (A.map f) (f x) := by
  rw [insL, insL, scanP_map f lt lt' h, List.length_map]
  simp [List.map_take, List.map_drop]
theorem sortT_map (f : α → β) (lt : α → α → Bool) (lt' : β → β → Bool) (h : ∀ a b, lt a b = lt' (f a) (f b)) (l : List α) : ∀ i, (sortT lt l i).map f = sortT lt' (l.map f) i
  | 0 => rfl
  | i + 1 => by
    rw [sortT, sortT, List.getElem?_map]
    cases hl : l[i]? with
    | none => exact sortT_map f lt lt' h l i
    | some a =>
      dsimp only [Option.map_some]
      rw [insL_map f lt lt' h, sortT_map f lt lt' h l i]
/-- The state of the inner loop: x stands at place j. -/
def midL (A : List α) (x : α) (j : Nat) (r : List α) : List α := A.take j ++ x :: (A.drop j ++ r)
theorem midL_len {A : List α} {x : α} {j : Nat} {r : List α} (h : j ≤ A.length) : (midL A x j r).length = A.length + 1 + r.length := by
  simp only [midL, List.length_append, List.length_take, List.length_cons, List.length_drop]
  omega
theorem midL_at {A : List α} {x : α} {j : Nat} {r : List α} (h : j ≤ A.length) (g : j < (midL A x j r).length) : (midL A x j r)[j] = x := by
  simp only [midL]
  rw [List.getElem_append_right (by rw [List.length_take]; omega)]
  simp [List.length_take, Nat.min_eq_left h]
theorem midL_prev {A : List α} {x : α} {j : Nat} {r : List α} (h : j < A.length) (g : j < (midL A x (j + 1) r).length) : (midL A x (j + 1) r)[j] = A[j] := by
  simp only [midL]
  rw [List.getElem_append_left (by rw [List.length_take]; omega)]
  simp
theorem midL_swap {A : List α} {x : α} {j : Nat} {r : List α} (h : j < A.length) : ((midL A x (j + 1) r).set (j + 1) A[j]).set j x = midL A x j r := by
  have e1 : A.take (j + 1) = A.take j ++ [A[j]] := by rw [List.take_succ_eq_append_getElem h]
  have e2 : A.drop j = A[j] :: A.drop (j + 1) := List.drop_eq_getElem_cons h
  have hl : (A.take j).length = j := by rw [List.length_take]; omega
  rw [midL, midL, e1, e2, List.append_assoc]
  simp only [List.cons_append, List.nil_append]
  rw [List.set_append_right _ _ (by omega), List.set_append_right _ _ (by omega), hl, show j + 1 - j = 1 by omega, Nat.sub_self]
  rfl
theorem midL_end {A : List α} {x : α} (r : List α) : midL A x A.length r = A ++ x :: r := by simp [midL]
end

/-! ### Rows stored in place -/
def setMA (cur : Array Value) : Nat → List Value → Array Value
  | _, [] => cur
  | o, v :: vs => setMA (cur.setIfInBounds o v) (o + 1) vs
theorem setMA_size : ∀ (vs : List Value) (cur : Array Value) (o : Nat), (setMA cur o vs).size = cur.size
  | [], _, _ => rfl
  | v :: vs, cur, o => by rw [setMA, setMA_size vs, Array.size_setIfInBounds]
theorem setMA_in : ∀ (vs : List Value) (cur : Array Value) (o i : Nat), o + vs.length ≤ cur.size → i < vs.length → (setMA cur o vs)[o + i]? = vs[i]?
  | v :: vs, cur, o, 0, h, _ => by
    have hout : ∀ (vs : List Value) (cur : Array Value) (o t : Nat), t < o → (setMA cur o vs)[t]? = cur[t]? := by
      intro vs
      induction vs with
      | nil => intros; rfl
      | cons v vs ih => intro cur o t ht; rw [setMA, ih _ _ _ (by omega), Array.getElem?_setIfInBounds, if_neg (by omega)]
    rw [setMA, hout _ _ _ _ (by omega), Array.getElem?_setIfInBounds]
    simp at h ⊢
    omega
  | v :: vs, cur, o, i + 1, h, hi => by
    rw [setMA, show o + (i + 1) = o + 1 + i by omega, setMA_in vs _ (o + 1) i (by simp at h ⊢; omega) (by simpa using hi)]
    rfl
theorem setMA_out : ∀ (vs : List Value) (cur : Array Value) (o t : Nat), (t < o ∨ o + vs.length ≤ t) → (setMA cur o vs)[t]? = cur[t]?
  | [], _, _, _, _ => rfl
  | v :: vs, cur, o, t, h => by
    rw [setMA, setMA_out vs _ _ _ (by simp at h; omega), Array.getElem?_setIfInBounds, if_neg (by simp at h; omega)]
def stW (w : World) (g : Nat) : Nat → List Value → World
  | _, [] => w
  | o, v :: vs => stW (w.setCell ⟨g, o, none⟩ v) g (o + 1) vs
theorem stW_heap : ∀ (vs : List Value) {w : World} {g o : Nat} {cur : Array Value} {T : TypeId} {fr : Nat × Nat}, w.heap[g]? = some (.cells cur T fr) → (stW w g o vs).heap[g]? = some (.cells (setMA cur o vs) T fr)
  | [], _, _, _, _, _, _, h => h
  | v :: vs, _, _, _, _, _, _, h => stW_heap vs (heapSet v h)
/-- All but the block g is as it was; more blocks may lie behind. -/
structure Off (g : Nat) (w w' : World) : Prop where
  os : w'.os = w.os
  tape : w'.tape = w.tape
  output : w'.output = w.output
  size : w.heap.size ≤ w'.heap.size
  block : ∀ k, k < w.heap.size → k ≠ g → w'.heap[k]? = w.heap[k]?
theorem Off.refl (g : Nat) (w : World) : Off g w w := ⟨rfl, rfl, rfl, Nat.le_refl _, fun _ _ _ => rfl⟩
theorem Off.trans {g : Nat} {a b c : World} (h : Off g a b) (k : Off g b c) : Off g a c :=
  ⟨k.os.trans h.os, k.tape.trans h.tape, k.output.trans h.output, Nat.le_trans h.size k.size, fun i hi hg => (k.block i (Nat.lt_of_lt_of_le hi h.size) hg).trans (h.block i hi hg)⟩
theorem Off.of {g : Nat} {w w' : World} (h : Below w.heap.size w w') : Off g w w' := ⟨h.os, h.tape, h.output, h.size, fun k hk _ => h.block k hk⟩
theorem Off.below {g B : Nat} {w w' : World} (h : Off g w w') (hg : B ≤ g) (hB : B ≤ w.heap.size) : Below B w w' := ⟨h.os, h.tape, h.output, h.size, fun k hk => h.block k (by omega) (by omega)⟩
theorem Off.set (g o : Nat) (v : Value) (w : World) : Off g w (w.setCell ⟨g, o, none⟩ v) := by
  have h : Below g w (w.setCell ⟨g, o, none⟩ v) := (Below.refl _ _).setCell (p := ⟨g, o, none⟩) (Nat.le_refl _) v
  exact ⟨h.os, h.tape, h.output, h.size, fun k _ hk => Below.heap_setCell _ _ _ _ hk⟩
theorem Off.st (g : Nat) : ∀ (vs : List Value) (o : Nat) (w : World), Off g w (stW w g o vs)
  | [], _, w => Off.refl g w
  | v :: vs, o, w => (Off.set g o v w).trans (Off.st g vs (o + 1) _)
theorem stW_size (g : Nat) : ∀ (vs : List Value) (o : Nat) (w : World), (stW w g o vs).heap.size = w.heap.size
  | [], _, w => rfl
  | v :: vs, o, w => by rw [stW, stW_size g vs]; simp [World.setCell]
section
variable {C D : Type} (K : Kit C D)
/-- The block g holds a row of such things. -/
def InRow (T : Nat) (w : World) (g cap : Nat) (cs : List C) : Prop :=
  ∃ cur, w.heap[g]? = some (.cells cur T (0, 0)) ∧ cur.size = cap * K.n ∧ cs.length ≤ cap ∧ ∀ j (h : j < cs.length) i, i < K.n → cur[j * K.n + i]? = (K.cs cs[j])[i]?
variable {K}
theorem InRow.ofOwn {T B : Nat} {w : World} {g n cap : Nat} {cs : List C} (hcs : cs.length = n) (h : w.ownsRow B T K.n (.slice (some ⟨g, 0, none⟩) n cap) n (cs.flatMap K.cs)) : InRow K T w g cap cs := by
  have hat := fun j (hj : j < cs.length) => AtG.ofRow (K := K) h j hj
  obtain ⟨_, h4 | ⟨g', cap', cur, hv, hB, hg, hcap, _, hsz, _⟩⟩ := h
  · exact absurd h4.1 (by simp)
  · simp only [Value.slice.injEq, Option.some.injEq, Addr.mk.injEq, and_true] at hv
    obtain ⟨rfl, _, rfl⟩ := hv
    refine ⟨cur, hg, hsz, by omega, fun j hj i hi => ?_⟩
    rw [← hat j hj i hi, cellOf hg]
theorem InRow.at' {T : Nat} {w : World} {g cap : Nat} {cs : List C} (h : InRow K T w g cap cs) (j : Nat) (hj : j < cs.length) : AtG K w g (j * K.n) cs[j] := by
  obtain ⟨cur, hg, _, _, hc⟩ := h
  intro i hi
  rw [cellOf hg, hc j hj i hi]
theorem InRow.free {T : Nat} {w : World} {g cap : Nat} {cs : List C} (h : InRow K T w g cap cs) (o : Nat) : w.frozen? ⟨g, o, none⟩ = false := by
  obtain ⟨cur, hg, _⟩ := h
  exact freeOf hg o
theorem InRow.ext {T : Nat} {w w' : World} {g cap : Nat} {cs : List C} (h : InRow K T w g cap cs) (hb : Below w.heap.size w w') : InRow K T w' g cap cs := by
  obtain ⟨cur, hg, h2⟩ := h
  exact ⟨cur, heapExt hb hg, h2⟩
theorem InRow.put {T : Nat} {w : World} {g cap : Nat} {cs : List C} (h : InRow K T w g cap cs) (j : Nat) (hj : j < cs.length) (c : C) : InRow K T (stW w g (j * K.n) (K.cs c)) g cap (cs.set j c) := by
  obtain ⟨cur, hg, hsz, hcap, hc⟩ := h
  have hn := K.pos
  have hl := K.len c
  have hjn : j * K.n + K.n ≤ cap * K.n := by rw [← Nat.succ_mul]; exact Nat.mul_le_mul_right _ (by omega)
  refine ⟨_, stW_heap _ hg, by rw [setMA_size]; exact hsz, by simpa using hcap, fun j' hj' i hi => ?_⟩
  have hj2 : j' < cs.length := by simpa using hj'
  by_cases e : j' = j
  · subst e
    rw [setMA_in _ _ _ _ (by omega) (by omega)]
    simp
  · have hne : (cs.set j c)[j'] = cs[j'] := by rw [List.getElem_set_ne (fun h => e h.symm)]
    rw [hne, setMA_out, hc j' hj2 i hi]
    rcases Nat.lt_or_ge j' j with g1 | g1
    · left
      have : (j' + 1) * K.n ≤ j * K.n := Nat.mul_le_mul_right _ g1
      rw [Nat.succ_mul] at this
      omega
    · right
      have : (j + 1) * K.n ≤ j' * K.n := Nat.mul_le_mul_right _ (by omega)
      rw [Nat.succ_mul] at this
      omega
end
end Go.Proofs.YtkljbfaemahchaaGreatDoor
