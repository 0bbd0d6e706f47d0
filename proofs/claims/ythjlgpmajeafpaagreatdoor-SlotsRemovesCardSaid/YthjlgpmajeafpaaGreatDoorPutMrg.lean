/-
  Plain: a slot put into, and one removed from, a list whose keys increase. No program in sight.
-/
import Derived.Test.YthjlgpmajeafpaaGreatDoorPlaceMrg
import Derived.Test.YthjlgpmajeafpaaGreatDoorInsertMrg
import Derived.Test.YthjlgpmajeafpaaGreatDoorGrowMrg
namespace Go.Proofs.YthjlgpmajeafpaaGreatDoor
open Go Go.RowKit
set_option linter.unusedVariables false
set_option linter.unusedSimpArgs false

def PW (l : List Slot) : Prop := l.Pairwise fun a b => cmpV a.k b.k < 0
theorem Srt.pw {l : List Slot} (h : Srt l) : PW l := List.pairwise_iff_getElem.2 fun i j hi hj hij => h.of i j hij hj
theorem PW.srt {l : List Slot} (h : PW l) : Srt l := fun j hj => List.pairwise_iff_getElem.1 h j (j + 1) (by omega) hj (by omega)
theorem cmp_flip {a b : Val} : 0 < cmpV a b ↔ cmpV b a < 0 := by have := cmpV_anti a b; omega
theorem cmp_trans {a b c : Val} (h1 : cmpV a b < 0) (h2 : cmpV b c < 0) : cmpV a c < 0 := by
  obtain ⟨t1, t2, t3, t4, t5, t6⟩ := cmpV_tri a b c
  rcases Int.lt_or_le (cmpV a c) 0 with h | h
  · exact h
  · have := t5 h (by omega); omega
/-- The list with x instead of what stands from p to q. -/
def putAt (l : List Slot) (p q : Nat) (x : Slot) : List Slot := l.take p ++ x :: l.drop q
def putQ (l : List Slot) (k : Val) : Nat := if placeB l k = true then placeI l k + 1 else placeI l k
def putL (l : List Slot) (x : Slot) : List Slot := putAt l (placeI l x.k) (putQ l x.k) x
def delL (l : List Slot) (k : Val) : List Slot := l.take (placeI l k) ++ l.drop (placeI l k + 1)
theorem take_lt {l : List Slot} {k : Val} : ∀ a ∈ l.take (placeI l k), cmpV a.k k < 0 := fun a ha => by
  obtain ⟨i, hi, rfl⟩ := List.getElem_of_mem ha
  rw [List.length_take] at hi
  rw [List.getElem_take]
  exact placeI_lt l k i (by omega) (by omega)
theorem drop_gt {l : List Slot} (hs : Srt l) {k : Val} : ∀ a ∈ l.drop (putQ l k), cmpV k a.k < 0 := fun a ha => by
  obtain ⟨i, hi, rfl⟩ := List.getElem_of_mem ha
  rw [List.length_drop] at hi
  rw [List.getElem_drop]
  have hp : placeI l k < l.length := by unfold putQ at hi; split at hi <;> omega
  have h0 := placeI_at l k hp
  have hb : placeB l k = (cmpV (l[placeI l k]).k k == 0) := by rw [placeB, List.getElem?_eq_getElem hp]
  rw [← cmp_flip]
  unfold putQ at hi ⊢
  split
  · rename_i h1
    have h2 := hs.of (placeI l k) (placeI l k + 1 + i) (by omega) (by rw [if_pos h1] at hi; omega)
    have h3 : cmpV (l[placeI l k]).k k = 0 := by rw [hb] at h1; simpa using h1
    obtain ⟨t1, t2, t3, t4, t5, t6⟩ := cmpV_tri (l[placeI l k]).k (l[placeI l k + 1 + i]'(by rw [if_pos h1] at hi; omega)).k k
    rcases Int.lt_or_le 0 (cmpV (l[placeI l k + 1 + i]'(by rw [if_pos h1] at hi; omega)).k k) with h | h
    · exact h
    · have h5 := cmpV_tri (l[placeI l k]).k k (l[placeI l k + 1 + i]'(by rw [if_pos h1] at hi; omega)).k
      have h6 := cmpV_anti k (l[placeI l k + 1 + i]'(by rw [if_pos h1] at hi; omega)).k
      obtain ⟨u1, u2, u3, u4, u5, u6⟩ := h5
      have := u6 (by omega) (by omega)
      omega
  · rename_i h1
    have h3 : cmpV (l[placeI l k]).k k ≠ 0 := by rw [hb] at h1; simpa using h1
    by_cases hi0 : i = 0
    · subst hi0
      simp only [Nat.add_zero]
      omega
    · have h2 := hs.of (placeI l k) (placeI l k + i) (by omega) (by rw [if_neg h1] at hi; omega)
      have h4 : cmpV k (l[placeI l k]).k < 0 := cmp_flip.1 (by omega)
      exact cmp_flip.2 (cmp_trans h4 h2)
theorem putQ_le (l : List Slot) (k : Val) : placeI l k ≤ putQ l k ∧ putQ l k ≤ l.length := by
  have h1 := placeI_le l k
  unfold putQ
  split
  · rename_i h; have := placeB_lt h; omega
  · omega
theorem putL_pw {l : List Slot} (hs : Srt l) (x : Slot) : PW (putL l x) := by
  have h := hs.pw
  obtain ⟨q1, q2⟩ := putQ_le l x.k
  unfold PW putL putAt
  rw [List.pairwise_append]
  refine ⟨List.Pairwise.sublist (List.take_sublist _ _) h, ?_, ?_⟩
  · rw [List.pairwise_cons]
    exact ⟨fun a ha => drop_gt hs a ha, List.Pairwise.sublist (List.drop_sublist _ _) h⟩
  · intro a ha b hb
    have h1 := take_lt a ha
    rcases List.mem_cons.1 hb with rfl | hb
    · exact h1
    · exact cmp_trans h1 (drop_gt hs b hb)
theorem putL_srt {l : List Slot} (hs : Srt l) (x : Slot) : Srt (putL l x) := (putL_pw hs x).srt
theorem putL_len {l : List Slot} {x : Slot} (h : placeB l x.k = false) : (putL l x).length = l.length + 1 := by
  have h1 := placeI_le l x.k
  simp only [putL, putAt, putQ, h, Bool.false_eq_true, if_false, List.length_append, List.length_take, List.length_cons, List.length_drop]
  omega
theorem putL_len' {l : List Slot} {x : Slot} (h : placeB l x.k = true) : (putL l x).length = l.length := by
  have h1 := placeB_lt h
  simp only [putL, putAt, putQ, h, if_true, List.length_append, List.length_take, List.length_cons, List.length_drop]
  omega
theorem putL_le (l : List Slot) (x : Slot) : (putL l x).length ≤ l.length + 1 := by
  cases h : placeB l x.k
  · rw [putL_len h]; exact Nat.le_refl _
  · rw [putL_len' h]; omega
theorem putL_at (l : List Slot) (x : Slot) : (putL l x)[placeI l x.k]? = some x := by
  have h1 := placeI_le l x.k
  rw [putL, putAt, List.getElem?_append_right (by rw [List.length_take]; omega), List.length_take, Nat.min_eq_left h1, Nat.sub_self]
  rfl
theorem putL_place (l : List Slot) (x : Slot) : placeI (putL l x) x.k = placeI l x.k := by
  have h1 := placeI_le l x.k
  have h2 := putL_at l x
  obtain ⟨hl, he⟩ := List.getElem?_eq_some_iff.1 h2
  refine placeI_of (Nat.le_of_lt hl) (fun j hj hjp => ?_) (fun h => ?_)
  · have e : (putL l x)[j] = l[j]'(by omega) := by
      simp only [putL, putAt]
      rw [List.getElem_append_left (by rw [List.length_take]; omega), List.getElem_take]
    rw [e]
    exact placeI_lt l x.k j (by omega) hjp
  · rw [he, cmpV_refl]; exact Int.le_refl _
theorem putL_found (l : List Slot) (x : Slot) : placeB (putL l x) x.k = true := by
  rw [placeB, putL_place, putL_at]
  simp [cmpV_refl]
theorem delL_pw {l : List Slot} (hs : Srt l) (k : Val) : PW (delL l k) := by
  have h := hs.pw
  have e : PW (l.take (placeI l k) ++ l.drop (placeI l k)) := by rw [List.take_append_drop]; exact h
  refine List.Pairwise.sublist ?_ e
  refine List.Sublist.append (List.Sublist.refl _) ?_
  have : l.drop (placeI l k + 1) = (l.drop (placeI l k)).drop 1 := by rw [List.drop_drop]
  rw [this]
  exact List.drop_sublist _ _
theorem delL_srt {l : List Slot} (hs : Srt l) (k : Val) : Srt (delL l k) := (delL_pw hs k).srt
theorem delL_len {l : List Slot} {k : Val} (h : placeB l k = true) : (delL l k).length + 1 = l.length := by
  have h1 := placeB_lt h
  simp only [delL, List.length_append, List.length_take, List.length_drop]
  omega
/-- Behind the removal the key isn't there. -/
theorem delL_gone {l : List Slot} (hs : Srt l) {k : Val} (h : placeB l k = true) : placeB (delL l k) k = false := by
  have h1 := placeB_lt h
  have hd := drop_gt hs (k := k)
  have hq : putQ l k = placeI l k + 1 := by rw [putQ, if_pos h]
  rw [hq] at hd
  have hall : ∀ a ∈ delL l k, cmpV a.k k ≠ 0 := fun a ha => by
    rcases List.mem_append.1 ha with h2 | h2
    · have := take_lt a h2; omega
    · have := hd a h2
      have := cmpV_anti k a.k
      omega
  rw [placeB]
  split
  · rename_i y hy
    have := hall y (List.mem_of_getElem? hy)
    simpa using this
  · rfl
/-- To remove what was put in anew gives the list again. -/
theorem delL_put {l : List Slot} {x : Slot} (h : placeB l x.k = false) : delL (putL l x) x.k = l := by
  have h1 := placeI_le l x.k
  have hl : (l.take (placeI l x.k)).length = placeI l x.k := by rw [List.length_take]; omega
  rw [delL, putL_place]
  simp only [putL, putAt, putQ, h, Bool.false_eq_true, if_false]
  rw [List.take_left' hl, List.drop_append]
  simp only [hl, List.drop_eq_nil_of_le (Nat.le_trans (Nat.le_of_eq hl) (Nat.le_succ _)), List.nil_append]
  rw [show placeI l x.k + 1 - placeI l x.k = 1 by omega]
  simp
/-- All the keys differ. -/
def KD (l : List Slot) : Prop := l.Pairwise fun a b => cmpV a.k b.k ≠ 0
theorem KD.of {l : List Slot} (h : ∀ (i k : Nat) (hi : i < l.length) (hk : k < i), cmpV l[i].k (l[k]'(by omega)).k ≠ 0) : KD l :=
  List.pairwise_iff_getElem.2 fun i j hi hj hij => by
    have h1 := h j i hj hij
    have h2 := cmpV_anti l[j].k l[i].k
    omega
theorem KD.rev {l : List Slot} (h : KD l) : KD l.reverse := List.pairwise_reverse.2 (h.imp fun {a b} hab => by have := cmpV_anti a.k b.k; omega)
def putAll (l : List Slot) : List Slot := l.foldl putL []
theorem putL_perm {l : List Slot} {x : Slot} (h : ∀ a ∈ l, cmpV a.k x.k ≠ 0) : (putL l x).Perm (x :: l) := by
  have hb : placeB l x.k = false := by
    rw [placeB]
    split
    · rename_i y hy
      have := h y (List.mem_of_getElem? hy)
      simpa using this
    · rfl
  have e : (x :: (l.take (placeI l x.k) ++ l.drop (placeI l x.k))) = x :: l := by rw [List.take_append_drop]
  rw [← e]
  simp only [putL, putAt, putQ, hb, Bool.false_eq_true, if_false]
  exact List.perm_middle
theorem nil_srt : Srt [] := fun j h => absurd h (by simp)
/-- Put one by one into an empty list: the keys increase, and all are there. -/
theorem putAll_aux : ∀ (l acc : List Slot), Srt acc → KD l → (∀ a ∈ acc, ∀ b ∈ l, cmpV a.k b.k ≠ 0) → Srt (l.foldl putL acc) ∧ (l.foldl putL acc).Perm (acc ++ l)
  | [], acc, hs, _, _ => ⟨hs, by simp⟩
  | x :: r, acc, hs, hk, hd => by
    have hk' := List.pairwise_cons.1 hk
    have hp := putL_perm (l := acc) (x := x) fun a ha => hd a ha x (List.mem_cons_self ..)
    obtain ⟨h1, h2⟩ := putAll_aux r (putL acc x) (putL_srt hs x) hk'.2 fun a ha b hb => by
      rcases List.mem_cons.1 (hp.mem_iff.1 ha) with rfl | h
      · exact hk'.1 b hb
      · exact hd a h b (List.mem_cons_of_mem _ hb)
    refine ⟨h1, h2.trans ?_⟩
    exact (hp.append_right r).trans (by simpa using (List.perm_middle (a := x) (l₁ := acc) (l₂ := r)).symm)
theorem putAll_srt {l : List Slot} (h : KD l) : Srt (putAll l) := (putAll_aux l [] nil_srt h (by simp)).1
theorem putAll_perm {l : List Slot} (h : KD l) : (putAll l).Perm l := (putAll_aux l [] nil_srt h (by simp)).2
theorem putAll_len {l : List Slot} (h : KD l) : (putAll l).length = l.length := (putAll_perm h).length_eq
theorem putAll_rev {l : List Slot} (h : KD l) : putAll l.reverse = putAll l := by
  have h1 := (putAll_srt h).pw
  have h2 := (putAll_srt h.rev).pw
  refine List.Perm.eq_of_pairwise (le := fun (a b : Slot) => cmpV a.k b.k < 0) (fun a b _ _ hab hba => ?_) h2 h1 (((putAll_perm h.rev).trans (List.reverse_perm l)).trans (putAll_perm h).symm)
  have := cmpV_anti a.k b.k
  omega
theorem foldl_take_succ {l : List Slot} {i : Nat} (h : i < l.length) : putAll (l.take (i + 1)) = putL (putAll (l.take i)) l[i] := by
  rw [List.take_succ_eq_append_getElem h, putAll, List.foldl_append]
  rfl
theorem putAll_le : ∀ (l acc : List Slot), (l.foldl putL acc).length ≤ acc.length + l.length
  | [], acc => by simp
  | x :: r, acc => by
    have h1 := putAll_le r (putL acc x)
    have h2 := putL_le acc x
    simp only [List.foldl_cons, List.length_cons]
    omega
theorem KD.take {l : List Slot} (h : KD l) (i : Nat) : KD (l.take i) := List.Pairwise.sublist (List.take_sublist _ _) h
end Go.Proofs.YthjlgpmajeafpaaGreatDoor

/-
  Plain: the state behind a slot has been put in or removed. No program in sight.
-/
namespace Go.Proofs.YthjlgpmajeafpaaGreatDoor
open Go Go.RowKit
set_option linter.unusedVariables false
set_option linter.unusedSimpArgs false

theorem put_els {C D : Type} {R : C → D → Prop} {cs : List C} {l : List D} (hl : cs.length = l.length) (h : ∀ j (h1 : j < cs.length) (h2 : j < l.length), R cs[j] l[j]) {p q : Nat} (hp : p ≤ l.length) {c : C} {d : D} (hcd : R c d) :
    ∀ j (h1 : j < (cs.take p ++ c :: cs.drop q).length) (h2 : j < (l.take p ++ d :: l.drop q).length), R (cs.take p ++ c :: cs.drop q)[j] (l.take p ++ d :: l.drop q)[j] := by
  intro j h1 h2
  have t1 : (cs.take p).length = p := by rw [List.length_take]; omega
  have t2 : (l.take p).length = p := by rw [List.length_take]; omega
  have e1 : (cs.take p ++ c :: cs.drop q)[j]? = some (cs.take p ++ c :: cs.drop q)[j] := List.getElem?_eq_getElem h1
  have e2 : (l.take p ++ d :: l.drop q)[j]? = some (l.take p ++ d :: l.drop q)[j] := List.getElem?_eq_getElem h2
  rcases Nat.lt_trichotomy j p with g | g | g
  · rw [List.getElem?_append_left (by omega), List.getElem?_take_of_lt g, List.getElem?_eq_getElem (by omega)] at e1 e2
    rw [← Option.some.inj e1, ← Option.some.inj e2]
    exact h j _ _
  · subst g
    rw [List.getElem?_append_right (by omega), t1, Nat.sub_self] at e1
    rw [List.getElem?_append_right (by omega), t2, Nat.sub_self] at e2
    rw [← Option.some.inj e1, ← Option.some.inj e2]
    exact hcd
  · obtain ⟨i, hi⟩ : ∃ i, j - p = i + 1 := ⟨j - p - 1, by omega⟩
    have h3 : q + i < cs.length := by rw [List.length_append, t1, List.length_cons, List.length_drop] at h1; omega
    rw [List.getElem?_append_right (by omega), t1, hi, List.getElem?_cons_succ, List.getElem?_drop, List.getElem?_eq_getElem h3] at e1
    rw [List.getElem?_append_right (by omega), t2, hi, List.getElem?_cons_succ, List.getElem?_drop, List.getElem?_eq_getElem (by omega)] at e2
    rw [← Option.some.inj e1, ← Option.some.inj e2]
    exact h _ _ _
theorem del_els {C D : Type} {R : C → D → Prop} {cs : List C} {l : List D} (hl : cs.length = l.length) (h : ∀ j (h1 : j < cs.length) (h2 : j < l.length), R cs[j] l[j]) {p q : Nat} (hp : p ≤ l.length) (tl : List C) :
    ∀ j (h1 : j < (cs.take p ++ cs.drop q ++ tl).length) (h2 : j < (l.take p ++ l.drop q).length), R (cs.take p ++ cs.drop q ++ tl)[j] (l.take p ++ l.drop q)[j] := by
  intro j h1 h2
  have t1 : (cs.take p).length = p := by rw [List.length_take]; omega
  have t2 : (l.take p).length = p := by rw [List.length_take]; omega
  have e1 : (cs.take p ++ (cs.drop q ++ tl))[j]? = some (cs.take p ++ cs.drop q ++ tl)[j] := by
    rw [← List.append_assoc]; exact List.getElem?_eq_getElem h1
  have e2 : (l.take p ++ l.drop q)[j]? = some (l.take p ++ l.drop q)[j] := List.getElem?_eq_getElem h2
  rcases Nat.lt_or_ge j p with g | g
  · rw [List.getElem?_append_left (by omega), List.getElem?_take_of_lt g, List.getElem?_eq_getElem (by omega)] at e1 e2
    rw [← Option.some.inj e1, ← Option.some.inj e2]
    exact h j _ _
  · have h3 : q + (j - p) < l.length := by rw [List.length_append, t2, List.length_drop] at h2; omega
    rw [List.getElem?_append_right (by omega), t1, List.getElem?_append_left (by rw [List.length_drop]; omega), List.getElem?_drop, List.getElem?_eq_getElem (by omega)] at e1
    rw [List.getElem?_append_right (by omega), t2, List.getElem?_drop, List.getElem?_eq_getElem h3] at e2
    rw [← Option.some.inj e1, ← Option.some.inj e2]
    exact h _ _ _
theorem put_sta {w3 w4 w6 w7 : World} {d : Sta} {dx : Slot} {g0 n g cap p q r m N B0 : Nat} {cs : List SlC} {c6 : SlC} (hr : StaRow w3 d g0 n cs w4) (hn : I64 d.n) (ht : I64 d.t)
    (hrow : InRow slK 58 w7 g cap (cs.take p ++ c6 :: cs.drop q)) (hl : putL d.l dx = d.l.take p ++ dx :: d.l.drop q) (hm : (putL d.l dx).length = m) (hp : p ≤ n) (hb : m * 152 ≤ 140737488351232)
    (hB : r < w3.heap.size) (hB0 : B0 ≤ w3.heap.size) (hg : B0 ≤ g ∧ r ≠ g ∧ g < w7.heap.size) (hold : ∀ b, b < w4.heap.size → b ≠ g0 → w7.heap[b]? = w4.heap[b]?) (hN : w4.heap.size ≤ N) (h6 : IsSl (fun b => N ≤ b ∧ b < w6.heap.size) w6 c6 dx)
    (hnew : ∀ b, N ≤ b → b < w6.heap.size → w7.heap[b]? = w6.heap[b]?) (hs : w4.heap.size ≤ w6.heap.size) (hs7 : w6.heap.size ≤ w7.heap.size) :
    IsSta (fun b => B0 ≤ b ∧ b < w7.heap.size ∧ b ≠ r) w7 ⟨d.n, d.t, some ⟨g, 0, none⟩, m, cap⟩ ⟨d.n, d.t, putL d.l dx⟩ := by
  have h43 := hr.below.size
  have hn1 := hr.num
  have hn2 := hr.len
  refine ⟨rfl, hn, rfl, ht, ?_⟩
  have hlen : (cs.take p ++ c6 :: cs.drop q).length = (putL d.l dx).length := by
    rw [hl]; simp only [List.length_append, List.length_take, List.length_cons, List.length_drop, hn2, ← hn1]
  refine hrow.row (fun b => B0 ≤ b ∧ b < w7.heap.size ∧ b ≠ r) ⟨hg.1, hg.2.2, fun e => hg.2.1 e.symm⟩ m _ hm (by omega) hb ?_
  rw [hl]
  exact put_els (R := fun (c : SlC) (y : Slot) => IsSl (fun b => B0 ≤ b ∧ b < w7.heap.size ∧ b ≠ r) w7 c y) (by omega) (fun j h1 h2 => (hr.els j h1 h2).same fun b z => ⟨⟨by omega, by omega, by omega⟩, hold b z.2.1 z.2.2⟩) (by omega) (h6.same fun b z => ⟨⟨by omega, by omega, by omega⟩, hnew b z.1 z.2⟩)
theorem del_sta {w3 w4 w7 : World} {d : Sta} {k : Val} {g0 n cap r m B0 : Nat} {cs tl : List SlC} (hr : StaRow w3 d g0 n cs w4) (hn : I64 d.n) (ht : I64 d.t)
    (hrow : InRow slK 58 w7 g0 cap (cs.take (placeI d.l k) ++ cs.drop (placeI d.l k + 1) ++ tl)) (hm : (delL d.l k).length = m) (hp : placeI d.l k ≤ n) (hb : m * 152 ≤ 140737488351232)
    (hB : r < w3.heap.size) (hB0 : B0 ≤ w3.heap.size) (hold : ∀ b, b < w4.heap.size → b ≠ g0 → w7.heap[b]? = w4.heap[b]?) (hs : w4.heap.size ≤ w7.heap.size) :
    IsSta (fun b => B0 ≤ b ∧ b < w7.heap.size ∧ b ≠ r) w7 ⟨d.n, d.t, some ⟨g0, 0, none⟩, m, cap⟩ ⟨d.n, d.t, delL d.l k⟩ := by
  have h43 := hr.below.size
  have hn1 := hr.num
  have hn2 := hr.len
  have hge := hr.ge
  have hlt := hr.lt
  refine ⟨rfl, hn, rfl, ht, ?_⟩
  have hlen : (delL d.l k).length ≤ (cs.take (placeI d.l k) ++ cs.drop (placeI d.l k + 1) ++ tl).length := by
    simp only [delL, List.length_append, List.length_take, List.length_drop, hn2, ← hn1]; omega
  refine hrow.row (fun b => B0 ≤ b ∧ b < w7.heap.size ∧ b ≠ r) ⟨by omega, by omega, by omega⟩ m _ hm (by omega) hb ?_
  exact del_els (R := fun (c : SlC) (y : Slot) => IsSl (fun b => B0 ≤ b ∧ b < w7.heap.size ∧ b ≠ r) w7 c y) (by omega) (fun j h1 h2 => (hr.els j h1 h2).same fun b z => ⟨⟨by omega, by omega, by omega⟩, hold b z.2.1 z.2.2⟩) (by omega) tl
/-- The state's own three cells, stored into another block. -/
theorem setThree {w : World} {r B0 : Nat} {v0 v1 v2 x0 x1 x2 : Value} {t : TypeId} {fr : Nat × Nat} {c : StC} {d : Sta} (h : w.heap[r]? = some (.cells #[x0, x1, x2] t fr)) (hi : IsSta (fun b => B0 ≤ b ∧ b < w.heap.size ∧ b ≠ r) w c d) :
    (((w.setCell ⟨r, 0, none⟩ v0).setCell ⟨r, 1, none⟩ v1).setCell ⟨r, 2, none⟩ v2).heap[r]? = some (.cells #[v0, v1, v2] t fr) ∧
    IsSta (fun b => B0 ≤ b ∧ b < (((w.setCell ⟨r, 0, none⟩ v0).setCell ⟨r, 1, none⟩ v1).setCell ⟨r, 2, none⟩ v2).heap.size) (((w.setCell ⟨r, 0, none⟩ v0).setCell ⟨r, 1, none⟩ v1).setCell ⟨r, 2, none⟩ v2) c d ∧
    ∀ B w0, Below B w0 w → B ≤ r → Below B w0 (((w.setCell ⟨r, 0, none⟩ v0).setCell ⟨r, 1, none⟩ v1).setCell ⟨r, 2, none⟩ v2) := by
  have h9 := heapSet (o := 2) v2 (heapSet (o := 1) v1 (heapSet (o := 0) v0 h))
  simp only [List.setIfInBounds_toArray, List.set_cons_zero, List.set_cons_succ] at h9
  refine ⟨h9, hi.same fun b q => ⟨⟨q.1, by have := q.2.1; simpa [World.setCell] using this⟩, (Below.heap_setCell _ _ _ _ q.2.2).trans ((Below.heap_setCell _ _ _ _ q.2.2).trans (Below.heap_setCell _ _ _ _ q.2.2))⟩, fun B w0 hb hB => ((hb.setCell (p := ⟨r, 0, none⟩) hB _).setCell (p := ⟨r, 1, none⟩) hB _).setCell (p := ⟨r, 2, none⟩) hB _⟩
end Go.Proofs.YthjlgpmajeafpaaGreatDoor

/-
  slots.Put. Conditions: the state and the slot can be read as data; the keys increase.
-/
namespace Go.Proofs.YthjlgpmajeafpaaGreatDoor
open Go Go.RowKit Go.Shelf
set_option linter.unusedVariables false
set_option linter.unusedSimpArgs false

def PutPost (w : World) (d : Sta) (dx : Slot) (e : Ending) (w' : World) : Prop := ∃ c' : StC, e = .returned (.tuple #[c'.v, .int .i64 0]) ∧ Below w.heap.size w w' ∧ IsSta (· < w'.heap.size) w' c' ⟨d.n, d.t, putL d.l dx⟩
/-- .. in memory of its own. -/
def PutPost2 (w : World) (d : Sta) (dx : Slot) (e : Ending) (w' : World) : Prop := ∃ c' : StC, e = .returned (.tuple #[c'.v, .int .i64 0]) ∧ Below w.heap.size w w' ∧ IsSta (fun b => w.heap.size ≤ b ∧ b < w'.heap.size) w' c' ⟨d.n, d.t, putL d.l dx⟩
theorem PutPost2.weak {w : World} {d : Sta} {dx : Slot} (e : Ending) (w' : World) (h : PutPost2 w d dx e w') : PutPost w d dx e w' := by
  obtain ⟨c', h1, h2, h3⟩ := h
  exact ⟨c', h1, h2, h3.same fun b q => ⟨q.2, rfl⟩⟩

set_option maxRecDepth 100000 in
set_option maxHeartbeats 8000000 in
theorem putT2_call (c : StC) (d : Sta) (x : SlC) (dx : Slot) (w : World) (hs : Srt d.l) (hd : IsSta (· < w.heap.size) w c d) (hx : IsSl (· < w.heap.size) w x dx) (hpb : placeB d.l dx.k = true) : Calls Tryz.prog 51 #[c.v, x.v] w (PutPost2 w d dx) := by
  obtain ⟨sn, st, a, sl, sc⟩ := c
  have hbig : sl * 152 ≤ 140737488351232 := hd.l.big
  have HL := hid hd.l.len
  have HNT := hid (And.intro hd.rn hd.rt)
  have HD := hid hd
  have HX := hid hx
  dsimp only at HL
  have HSE := hid (And.intro hd.n hd.t)
  obtain ⟨wb, hwb⟩ : ∃ wb, wb = ((w.alloc (.cells #[.int .i64 sn, .int .i64 st, .slice a sl sc] 55)).alloc (.cells #[.int .i64 x.k.k, .int .i64 x.k.i, .int .i64 x.k.s, .string x.k.t, .slice x.k.la x.k.ll x.k.lc, .slice x.k.fa x.k.fl x.k.fc, .int .i64 x.n, .int .i64 x.t, .slice x.ia x.il x.ic, .slice x.va x.vl x.vc] 58)).alloc (.cells #[.int .i64 0, .int .i64 0, .slice none 0 0] 55) := ⟨_, rfl⟩
  have hb0 : Below w.heap.size w wb := by rw [hwb]; exact (((Below.refl _ w).alloc (Nat.le_refl _) _).alloc (by simp) _).alloc (by simp; omega) _
  have hsb : wb.heap.size = w.heap.size + 3 := by rw [hwb]; simp
  have g1 : wb.heap[w.heap.size]? = some (.cells #[.int .i64 sn, .int .i64 st, .slice a sl sc] 55) := by rw [hwb]; exact heapAlloc _ (heapAlloc _ (heap_alloc_new w _))
  have g2 : wb.heap[w.heap.size + 1]? = some (.cells #[.int .i64 x.k.k, .int .i64 x.k.i, .int .i64 x.k.s, .string x.k.t, .slice x.k.la x.k.ll x.k.lc, .slice x.k.fa x.k.fl x.k.fc, .int .i64 x.n, .int .i64 x.t, .slice x.ia x.il x.ic, .slice x.va x.vl x.vc] 58) := by rw [hwb]; exact heapAlloc _ (heapNewAt _ _ _ (by simp))
  have g3 : wb.heap[w.heap.size + 2]? = some (.cells #[.int .i64 0, .int .i64 0, .slice none 0 0] 55) := by rw [hwb]; exact heapNewAt _ _ _ (by simp)
  have HC0 : Hid (∀ w', Below wb.heap.size wb w' → (w'.cell? ⟨w.heap.size, 0, none⟩ = some (.int .i64 sn) ∧ w'.cell? ⟨w.heap.size, 1, none⟩ = some (.int .i64 st) ∧ w'.cell? ⟨w.heap.size, 2, none⟩ = some (.slice a sl sc)) ∧ (w'.cell? ⟨w.heap.size + 1, 0, none⟩ = some (.int .i64 x.k.k) ∧ w'.cell? ⟨w.heap.size + 1, 1, none⟩ = some (.int .i64 x.k.i) ∧ w'.cell? ⟨w.heap.size + 1, 2, none⟩ = some (.int .i64 x.k.s) ∧ w'.cell? ⟨w.heap.size + 1, 3, none⟩ = some (.string x.k.t) ∧ w'.cell? ⟨w.heap.size + 1, 4, none⟩ = some (.slice x.k.la x.k.ll x.k.lc) ∧ w'.cell? ⟨w.heap.size + 1, 5, none⟩ = some (.slice x.k.fa x.k.fl x.k.fc) ∧ w'.cell? ⟨w.heap.size + 1, 6, none⟩ = some (.int .i64 x.n) ∧ w'.cell? ⟨w.heap.size + 1, 7, none⟩ = some (.int .i64 x.t) ∧ w'.cell? ⟨w.heap.size + 1, 8, none⟩ = some (.slice x.ia x.il x.ic) ∧ w'.cell? ⟨w.heap.size + 1, 9, none⟩ = some (.slice x.va x.vl x.vc))) := hid fun w' h => by
    have h1 := heapExt h g1
    have h2 := heapExt h g2
    exact ⟨⟨cellOf h1 0, cellOf h1 1, cellOf h1 2⟩, cellOf h2 0, cellOf h2 1, cellOf h2 2, cellOf h2 3, cellOf h2 4, cellOf h2 5, cellOf h2 6, cellOf h2 7, cellOf h2 8, cellOf h2 9⟩
  have G3 := hid g3
  have hfd := find_call ⟨sn, st, a, sl, sc⟩ d x.k dx.k wb (hd.same fun b q => ⟨Nat.lt_of_lt_of_le q hb0.size, hb0.block b q⟩) (hx.k.same fun b q => ⟨Nat.lt_of_lt_of_le q hb0.size, hb0.block b q⟩)
  obtain ⟨pi, hpi⟩ : ∃ p, p = placeI d.l dx.k := ⟨_, rfl⟩
  have hfd2 : Calls Tryz.prog 35 #[.agg #[.int .i64 sn, .int .i64 st, .slice a sl sc], .agg #[.int .i64 x.k.k, .int .i64 x.k.i, .int .i64 x.k.s, .string x.k.t, .slice x.k.la x.k.ll x.k.lc, .slice x.k.fa x.k.fl x.k.fc]] wb fun e w' => e = .returned (.tuple #[.int .i64 (pi : Nat), .bool true]) ∧ Below wb.heap.size wb w' := hfd.mono fun e w' h => by
    obtain ⟨h1, h2⟩ := h
    rw [findI_place hs, findB_place hs, ← hpi, hpb] at h1
    exact ⟨h1, h2⟩
  clear hfd
  have HPI := hid hpi
  have HPB := hid hpb
  have HB0 := hid hb0
  have HSB := hid hsb
  have HWB := hid hwb
  have HUP : Hid (∀ w', Below wb.heap.size wb w' → Below w.heap.size w w') := hid fun w' h => HB0.out.trans (h.mono HB0.out.size)
  have HCL : Hid (∀ w', Below wb.heap.size wb w' → Calls Tryz.prog 39 #[.agg #[.int .i64 sn, .int .i64 st, .slice a sl sc]] w' (StaPost2 w' d)) := hid fun w' h => by
    have hw := HUP.out w' h
    exact cloneSta2_call ⟨sn, st, a, sl, sc⟩ d w' (HD.out.same fun b q => ⟨Nat.lt_of_lt_of_le q hw.size, hw.block b q⟩)
  have HPL := hid (show pi ≤ sl by have := placeI_le d.l dx.k; have := HL.out; omega)
  have hpl := HPL.out
  have hplt : pi < sl := by have := placeB_lt hpb; have := HL.out; omega
  obtain ⟨⟨s0, s1, s2⟩, x0, x1, x2, x3, x4, x5, x6, x7, x8, x9⟩ := HC0.out _ (Below.refl _ _)
  rw [hwb] at hfd2 s0 s1 s2 x0 x1 x2 x3 x4 x5 x6 x7 x8 x9
  have HFD := hid hfd2
  clear hwb hb0 hsb g1 g2 g3 hfd2 hpi hpb hd hx hs
  dsimp only [StC.v, SlC.v]
  go_enter Tryz.func51, Tryz.ntmps51
  have hpi0 : (0 : Int) ≤ (pi : Int) := by omega
  have hpi1 : (pi : Int) < (sl : Int) := by omega
  go_upto_region 6 with (first
  | (go_at_call 39; refine (HCL.out _ hb3).mono ?_; rintro e w4 ⟨g, n, cs, rfl, hr⟩; have e1 : sl = n := (by have h1 := hr.num; have h2 := HL.out; omega); subst e1; have HR := hid hr; clear hr s0 s1 s2)
  | (go_at_call 35; refine HFD.out.mono ?_; rintro e w3 ⟨rfl, hb3⟩; rw [← HWB.out] at hb3; clear s0 s1 s2 x0 x1 x2 x3 x4 x5 x6 x7 x8 x9; obtain ⟨⟨s0, s1, s2⟩, _⟩ := HC0.out _ hb3))
  have hr := HR.out
  obtain ⟨w5, hw5⟩ : ∃ w5, w5 = w4.alloc (.cells #[.int .i64 d.n, .int .i64 d.t, .slice (some ⟨g, 0, none⟩) sl sl] 55) := ⟨_, rfl⟩
  rw [← hw5]
  have HB5 := hid (show Below w4.heap.size w4 w5 by rw [hw5]; exact (Below.refl _ w4).alloc (Nat.le_refl _) _)
  have HS5 := hid (show w5.heap.size = w4.heap.size + 1 by rw [hw5]; simp)
  have HG8 := hid (show w5.heap[w4.heap.size]? = some (.cells #[.int .i64 d.n, .int .i64 d.t, .slice (some ⟨g, 0, none⟩) sl sl] 55) by rw [hw5]; exact heap_alloc_new w4 _)
  have hb34 : Below wb.heap.size wb w4 := hb3.trans (hr.below.mono hb3.size)
  have HB35 := hid (show Below wb.heap.size wb w5 from hb34.trans (HB5.out.mono hb34.size))
  have HBX := hid (show wb.heap.size ≤ w3.heap.size from hb3.size)
  have HR5 := hid (hr.row.ext HB5.out)
  have HC5 : Hid (∀ w', Below w5.heap.size w5 w' → w'.cell? ⟨w4.heap.size, 2, none⟩ = some (.slice (some ⟨g, 0, none⟩) sl sl) ∧ (w'.cell? ⟨w.heap.size + 1, 0, none⟩ = some (.int .i64 x.k.k) ∧ w'.cell? ⟨w.heap.size + 1, 1, none⟩ = some (.int .i64 x.k.i) ∧ w'.cell? ⟨w.heap.size + 1, 2, none⟩ = some (.int .i64 x.k.s) ∧ w'.cell? ⟨w.heap.size + 1, 3, none⟩ = some (.string x.k.t) ∧ w'.cell? ⟨w.heap.size + 1, 4, none⟩ = some (.slice x.k.la x.k.ll x.k.lc) ∧ w'.cell? ⟨w.heap.size + 1, 5, none⟩ = some (.slice x.k.fa x.k.fl x.k.fc) ∧ w'.cell? ⟨w.heap.size + 1, 6, none⟩ = some (.int .i64 x.n) ∧ w'.cell? ⟨w.heap.size + 1, 7, none⟩ = some (.int .i64 x.t) ∧ w'.cell? ⟨w.heap.size + 1, 8, none⟩ = some (.slice x.ia x.il x.ic) ∧ w'.cell? ⟨w.heap.size + 1, 9, none⟩ = some (.slice x.va x.vl x.vc))) := hid fun w' h => by
    have h1 := heapExt h HG8.out
    have h2 := HC0.out _ (HB35.out.trans (h.mono HB35.out.size))
    exact ⟨cellOf h1 2, h2.2⟩
  have HCS : Hid (∀ w', Below w5.heap.size w5 w' → Calls Tryz.prog 84 #[.agg #[.int .i64 x.k.k, .int .i64 x.k.i, .int .i64 x.k.s, .string x.k.t, .slice x.k.la x.k.ll x.k.lc, .slice x.k.fa x.k.fl x.k.fc, .int .i64 x.n, .int .i64 x.t, .slice x.ia x.il x.ic, .slice x.va x.vl x.vc]] w' (SlPost w' dx)) := hid fun w' h => by
    have hw := HUP.out _ (HB35.out.trans (h.mono HB35.out.size))
    exact cloneSlot_call x dx w' (HX.out.same fun b q => ⟨Nat.lt_of_lt_of_le q hw.size, hw.block b q⟩)
  clear hw5 hr hb3 hb34
  refine wp_region_split 5 (fun w' => Below w5.heap.size w5 w') (by kernel_rfl) (by kernel_rfl) (by kernel_rfl) (by decide) ((Below.refl _ _).drew) (fun hS => ?_)
  simp only [List.take_succ_cons, List.take_zero, List.drop_succ_cons, List.drop_zero]
  refine wpAnyH_take (i := 0) (oi := _) (v := ?_) rfl (by kernel_rfl) (by kernel_rfl) (by kernel_rfl) (fun _ _ _ h => h) (Or.inl ⟨by rfl, ?_⟩) hS ?_
  rotate_left
  · intro w' hw'
    have hcells := HC5.out w' hw'
    go_simp
    (try with_reducible rfl)
  simp only [Act.put, List.getElem_toArray, List.getElem_cons_succ, List.getElem_cons_zero, List.setIfInBounds_toArray, List.set_cons_zero, List.set_cons_succ]
  refine wpAnyH_take (i := 1) (oi := _) (v := ?_) rfl (by kernel_rfl) (by kernel_rfl) (by kernel_rfl) (fun _ _ _ h => h) (Or.inl ⟨by rfl, ?_⟩) hS ?_
  rotate_left
  · intro w' hw'
    have hcells := HC5.out w' hw'
    go_simp
    (try with_reducible rfl)
  simp only [Act.put, List.getElem_toArray, List.getElem_cons_succ, List.getElem_cons_zero, List.setIfInBounds_toArray, List.set_cons_zero, List.set_cons_succ]
  refine wpAnyH_take (i := 2) (oi := _) (v := ?_) rfl (by kernel_rfl) (by kernel_rfl) (by kernel_rfl) (fun _ _ _ h => h) (Or.inl ⟨by rfl, ?_⟩) hS ?_
  rotate_left
  · intro w' hw'
    have hcells := HC5.out w' hw'
    go_simp
    (try with_reducible rfl)
  simp only [Act.put, List.getElem_toArray, List.getElem_cons_succ, List.getElem_cons_zero, List.setIfInBounds_toArray, List.set_cons_zero, List.set_cons_succ]
  refine wpAnyH_take (i := 3) (oi := _) (v := ?_) rfl (by kernel_rfl) (by kernel_rfl) (by kernel_rfl) (fun _ _ _ h => h) (Or.inl ⟨by rfl, ?_⟩) hS ?_
  rotate_left
  · intro w' hw'
    have hcells := HC5.out w' hw'
    go_simp
    (try with_reducible rfl)
  simp only [Act.put, List.getElem_toArray, List.getElem_cons_succ, List.getElem_cons_zero, List.setIfInBounds_toArray, List.set_cons_zero, List.set_cons_succ]
  refine wpAnyH_ready (rs := [4]) (by kernel_rfl) (by simp) ?_
  refine AllReadyH.cons (o := _) rfl (fun K hK => ?_) AllReadyH.nil
  go_simp; go_at_call 84; refine (HCS.out _ hS).mono ?_
  rintro e w6 ⟨c6, rfl, hb6, hi6⟩
  have HI6 := hid hi6
  have HB6 := hid hb6
  clear hi6
  refine hK.out _ _ (hS.trans (hb6.mono hS.size)) (fun hS => ?_)
  clear hK K
  (try simp only [Act.put, List.getElem_toArray, List.getElem_cons_succ, List.getElem_cons_zero, List.setIfInBounds_toArray, List.set_cons_zero, List.set_cons_succ])
  refine wpAnyH_done (by kernel_rfl) ?_ _
  (try dsimp only)
  have HS6 := hid hS
  clear hS
  have HR6 := hid (HR5.out.ext HS6.out)
  have HLEN := hid (show pi < cs.length by rw [HR.out.len]; exact hplt)
  obtain ⟨c0, ha⟩ : ∃ c : SlC, AtG slK w6 g (pi * 10) c := ⟨_, HR6.out.at' pi HLEN.out⟩
  obtain ⟨z0, z1, z2, z3, z4, z5, z6, z7, z8, z9⟩ := ha.slot
  have zf0 := HR6.out.free (pi * 10)
  have zf1 := HR6.out.free (pi * 10 + 1)
  have zf2 := HR6.out.free (pi * 10 + 2)
  have zf3 := HR6.out.free (pi * 10 + 3)
  have zf4 := HR6.out.free (pi * 10 + 4)
  have zf5 := HR6.out.free (pi * 10 + 5)
  have zf6 := HR6.out.free (pi * 10 + 6)
  have zf7 := HR6.out.free (pi * 10 + 7)
  have zf8 := HR6.out.free (pi * 10 + 8)
  have zf9 := HR6.out.free (pi * 10 + 9)
  clear ha
  go_upto_region 8 with (fail)
  obtain ⟨w7, hw7⟩ : ∃ u, u = stW w6 g (pi * 10) (SlC.cs c6) := ⟨_, rfl⟩
  have hw7' := hw7
  simp only [stW, SlC.cs, Nat.add_assoc, Nat.reduceAdd] at hw7'
  rw [← hw7']
  clear z0 zf0 z1 zf1 z2 zf2 z3 zf3 z4 zf4 z5 zf5 z6 zf6 z7 zf7 z8 zf8 z9 zf9 hw7'
  have HR7 := hid (show InRow slK 58 w7 g sl (cs.take pi ++ c6 :: cs.drop (pi + 1)) by have h := HR6.out.put pi HLEN.out c6; rw [List.set_eq_take_append_cons_drop, if_pos HLEN.out] at h; rw [hw7]; exact h)
  have HO7 := hid (show Off g w6 w7 by rw [hw7]; exact Off.st g _ _ _)
  clear hw7
  have hs6 := HS6.out.size
  have hs5 := HS5.out
  have hg4 := HR.out.lt
  have hg3 := HR.out.ge
  have hbx := HBX.out
  have hsb := HSB.out
  have hs7 := HO7.out.size
  have HG8' := hid (show w7.heap[w4.heap.size]? = some (.cells #[.int .i64 d.n, .int .i64 d.t, .slice (some ⟨g, 0, none⟩) sl sl] 55) from (HO7.out.block _ (by omega) (by omega)).trans (heapExt HS6.out HG8.out))
  have HG2 := hid (show w7.heap[w.heap.size + 2]? = some (.cells #[.int .i64 0, .int .i64 0, .slice none 0 0] 55) from (HO7.out.block _ (by omega) (by omega)).trans (heapExt (HB35.out.trans (HS6.out.mono HB35.out.size)) G3.out))
  have HBW := hid (show Below w.heap.size w w7 from (HUP.out _ (HB35.out.trans (HS6.out.mono HB35.out.size))).trans (HO7.out.below (by omega) (by omega)))
  have HST := hid (put_sta (B0 := w.heap.size) (r := w.heap.size + 2) (m := sl) (N := w5.heap.size) HR.out HNT.out.1 HNT.out.2 HR7.out (by rw [putL, putAt, putQ, HPB.out, ← HPI.out]; rfl) (by rw [putL_len' HPB.out]; exact HL.out.symm) HPL.out hbig (by omega) (by omega) ⟨by omega, by omega, by omega⟩ (fun b h1 h2 => (HO7.out.block b (by omega) h2).trans ((HS6.out.block b (by omega)).trans (HB5.out.block b h1))) (by omega) HI6.out (fun b h1 h2 => HO7.out.block b h2 (by omega)) (by omega) (by omega))
  have e0 := cellOf HG8'.out 0; have e1 := cellOf HG8'.out 1; have e2 := cellOf HG8'.out 2
  have f0 := cellOf HG2.out 0; have ff0 := freeOf HG2.out 0; have f1 := cellOf HG2.out 1; have ff1 := freeOf HG2.out 1; have f2 := cellOf HG2.out 2; have ff2 := freeOf HG2.out 2
  (try dsimp only at e0 e1 e2 f0 f1 f2)
  clear hs6 hs5 hg4 hg3 hbx hsb hs7
  go_wp2
  clear e0 e1 e2 f0 f1 f2 ff0 ff1 ff2
  obtain ⟨h9, hI, hB⟩ := setThree (v0 := .int .i64 d.n) (v1 := .int .i64 d.t) (v2 := .slice (some ⟨g, 0, none⟩) (sl) sl) HG2.out HST.out
  have hB9 := hB _ _ HBW.out (by omega)
  exact bodyPost_ret (v := .tuple #[.agg #[.int .i64 d.n, .int .i64 d.t, .slice (some ⟨g, 0, none⟩) (sl) sl], .int .i64 0]) (by simp [results, Tryz.results51, go_sem, cellOf h9]) rfl ⟨⟨d.n, d.t, some ⟨g, 0, none⟩, sl, sl⟩, rfl, hB9, hI⟩
theorem putT_call (c : StC) (d : Sta) (x : SlC) (dx : Slot) (w : World) (hs : Srt d.l) (hd : IsSta (· < w.heap.size) w c d) (hx : IsSl (· < w.heap.size) w x dx) (hpb : placeB d.l dx.k = true) : Calls Tryz.prog 51 #[c.v, x.v] w (PutPost w d dx) := (putT2_call c d x dx w hs hd hx hpb).mono PutPost2.weak
set_option maxRecDepth 100000 in
set_option maxHeartbeats 8000000 in
theorem putF2_call (c : StC) (d : Sta) (x : SlC) (dx : Slot) (w : World) (hs : Srt d.l) (hd : IsSta (· < w.heap.size) w c d) (hx : IsSl (· < w.heap.size) w x dx) (hpb : placeB d.l dx.k = false) (hlt : d.l.length < 1024) : Calls Tryz.prog 51 #[c.v, x.v] w (PutPost2 w d dx) := by
  obtain ⟨sn, st, a, sl, sc⟩ := c
  have hbig : sl * 152 ≤ 140737488351232 := hd.l.big
  have HL := hid hd.l.len
  have HNT := hid (And.intro hd.rn hd.rt)
  have HD := hid hd
  have HX := hid hx
  dsimp only at HL
  have HSE := hid (And.intro hd.n hd.t)
  obtain ⟨wb, hwb⟩ : ∃ wb, wb = ((w.alloc (.cells #[.int .i64 sn, .int .i64 st, .slice a sl sc] 55)).alloc (.cells #[.int .i64 x.k.k, .int .i64 x.k.i, .int .i64 x.k.s, .string x.k.t, .slice x.k.la x.k.ll x.k.lc, .slice x.k.fa x.k.fl x.k.fc, .int .i64 x.n, .int .i64 x.t, .slice x.ia x.il x.ic, .slice x.va x.vl x.vc] 58)).alloc (.cells #[.int .i64 0, .int .i64 0, .slice none 0 0] 55) := ⟨_, rfl⟩
  have hb0 : Below w.heap.size w wb := by rw [hwb]; exact (((Below.refl _ w).alloc (Nat.le_refl _) _).alloc (by simp) _).alloc (by simp; omega) _
  have hsb : wb.heap.size = w.heap.size + 3 := by rw [hwb]; simp
  have g1 : wb.heap[w.heap.size]? = some (.cells #[.int .i64 sn, .int .i64 st, .slice a sl sc] 55) := by rw [hwb]; exact heapAlloc _ (heapAlloc _ (heap_alloc_new w _))
  have g2 : wb.heap[w.heap.size + 1]? = some (.cells #[.int .i64 x.k.k, .int .i64 x.k.i, .int .i64 x.k.s, .string x.k.t, .slice x.k.la x.k.ll x.k.lc, .slice x.k.fa x.k.fl x.k.fc, .int .i64 x.n, .int .i64 x.t, .slice x.ia x.il x.ic, .slice x.va x.vl x.vc] 58) := by rw [hwb]; exact heapAlloc _ (heapNewAt _ _ _ (by simp))
  have g3 : wb.heap[w.heap.size + 2]? = some (.cells #[.int .i64 0, .int .i64 0, .slice none 0 0] 55) := by rw [hwb]; exact heapNewAt _ _ _ (by simp)
  have HC0 : Hid (∀ w', Below wb.heap.size wb w' → (w'.cell? ⟨w.heap.size, 0, none⟩ = some (.int .i64 sn) ∧ w'.cell? ⟨w.heap.size, 1, none⟩ = some (.int .i64 st) ∧ w'.cell? ⟨w.heap.size, 2, none⟩ = some (.slice a sl sc)) ∧ (w'.cell? ⟨w.heap.size + 1, 0, none⟩ = some (.int .i64 x.k.k) ∧ w'.cell? ⟨w.heap.size + 1, 1, none⟩ = some (.int .i64 x.k.i) ∧ w'.cell? ⟨w.heap.size + 1, 2, none⟩ = some (.int .i64 x.k.s) ∧ w'.cell? ⟨w.heap.size + 1, 3, none⟩ = some (.string x.k.t) ∧ w'.cell? ⟨w.heap.size + 1, 4, none⟩ = some (.slice x.k.la x.k.ll x.k.lc) ∧ w'.cell? ⟨w.heap.size + 1, 5, none⟩ = some (.slice x.k.fa x.k.fl x.k.fc) ∧ w'.cell? ⟨w.heap.size + 1, 6, none⟩ = some (.int .i64 x.n) ∧ w'.cell? ⟨w.heap.size + 1, 7, none⟩ = some (.int .i64 x.t) ∧ w'.cell? ⟨w.heap.size + 1, 8, none⟩ = some (.slice x.ia x.il x.ic) ∧ w'.cell? ⟨w.heap.size + 1, 9, none⟩ = some (.slice x.va x.vl x.vc))) := hid fun w' h => by
    have h1 := heapExt h g1
    have h2 := heapExt h g2
    exact ⟨⟨cellOf h1 0, cellOf h1 1, cellOf h1 2⟩, cellOf h2 0, cellOf h2 1, cellOf h2 2, cellOf h2 3, cellOf h2 4, cellOf h2 5, cellOf h2 6, cellOf h2 7, cellOf h2 8, cellOf h2 9⟩
  have G3 := hid g3
  have hfd := find_call ⟨sn, st, a, sl, sc⟩ d x.k dx.k wb (hd.same fun b q => ⟨Nat.lt_of_lt_of_le q hb0.size, hb0.block b q⟩) (hx.k.same fun b q => ⟨Nat.lt_of_lt_of_le q hb0.size, hb0.block b q⟩)
  obtain ⟨pi, hpi⟩ : ∃ p, p = placeI d.l dx.k := ⟨_, rfl⟩
  have hfd2 : Calls Tryz.prog 35 #[.agg #[.int .i64 sn, .int .i64 st, .slice a sl sc], .agg #[.int .i64 x.k.k, .int .i64 x.k.i, .int .i64 x.k.s, .string x.k.t, .slice x.k.la x.k.ll x.k.lc, .slice x.k.fa x.k.fl x.k.fc]] wb fun e w' => e = .returned (.tuple #[.int .i64 (pi : Nat), .bool false]) ∧ Below wb.heap.size wb w' := hfd.mono fun e w' h => by
    obtain ⟨h1, h2⟩ := h
    rw [findI_place hs, findB_place hs, ← hpi, hpb] at h1
    exact ⟨h1, h2⟩
  clear hfd
  have HPI := hid hpi
  have HPB := hid hpb
  have HB0 := hid hb0
  have HSB := hid hsb
  have HWB := hid hwb
  have HUP : Hid (∀ w', Below wb.heap.size wb w' → Below w.heap.size w w') := hid fun w' h => HB0.out.trans (h.mono HB0.out.size)
  have HCL : Hid (∀ w', Below wb.heap.size wb w' → Calls Tryz.prog 39 #[.agg #[.int .i64 sn, .int .i64 st, .slice a sl sc]] w' (StaPost2 w' d)) := hid fun w' h => by
    have hw := HUP.out w' h
    exact cloneSta2_call ⟨sn, st, a, sl, sc⟩ d w' (HD.out.same fun b q => ⟨Nat.lt_of_lt_of_le q hw.size, hw.block b q⟩)
  have HPL := hid (show pi ≤ sl by have := placeI_le d.l dx.k; have := HL.out; omega)
  have hpl := HPL.out
  have hsl : sl < 1024 := by have := HL.out; omega
  obtain ⟨⟨s0, s1, s2⟩, x0, x1, x2, x3, x4, x5, x6, x7, x8, x9⟩ := HC0.out _ (Below.refl _ _)
  rw [hwb] at hfd2 s0 s1 s2 x0 x1 x2 x3 x4 x5 x6 x7 x8 x9
  have HFD := hid hfd2
  clear hwb hb0 hsb g1 g2 g3 hfd2 hpi hpb hd hx hs
  dsimp only [StC.v, SlC.v]
  go_enter Tryz.func51, Tryz.ntmps51
  have hsl1 : (sl : Int) < 1024 := by omega
  have hsl2 : ¬ (1024 : Int) ≤ (sl : Int) := by omega
  clear hlt
  go_upto_region 7 with (first
  | (go_at_call 39; refine (HCL.out _ hb3).mono ?_; rintro e w4 ⟨g, n, cs, rfl, hr⟩; have e1 : sl = n := (by have h1 := hr.num; have h2 := HL.out; omega); subst e1; have HR := hid hr; clear hr s0 s1 s2)
  | (go_at_call 35; refine HFD.out.mono ?_; rintro e w3 ⟨rfl, hb3⟩; rw [← HWB.out] at hb3; clear s0 s1 s2 x0 x1 x2 x3 x4 x5 x6 x7 x8 x9; obtain ⟨⟨s0, s1, s2⟩, _⟩ := HC0.out _ hb3))
  have hr := HR.out
  obtain ⟨w5, hw5⟩ : ∃ w5, w5 = w4.alloc (.cells #[.int .i64 d.n, .int .i64 d.t, .slice (some ⟨g, 0, none⟩) sl sl] 55) := ⟨_, rfl⟩
  rw [← hw5]
  have HB5 := hid (show Below w4.heap.size w4 w5 by rw [hw5]; exact (Below.refl _ w4).alloc (Nat.le_refl _) _)
  have HS5 := hid (show w5.heap.size = w4.heap.size + 1 by rw [hw5]; simp)
  have HG8 := hid (show w5.heap[w4.heap.size]? = some (.cells #[.int .i64 d.n, .int .i64 d.t, .slice (some ⟨g, 0, none⟩) sl sl] 55) by rw [hw5]; exact heap_alloc_new w4 _)
  have hb34 : Below wb.heap.size wb w4 := hb3.trans (hr.below.mono hb3.size)
  have HB35 := hid (show Below wb.heap.size wb w5 from hb34.trans (HB5.out.mono hb34.size))
  have HBX := hid (show wb.heap.size ≤ w3.heap.size from hb3.size)
  have HR5 := hid (hr.row.ext HB5.out)
  have HC5 : Hid (∀ w', Below w5.heap.size w5 w' → w'.cell? ⟨w4.heap.size, 2, none⟩ = some (.slice (some ⟨g, 0, none⟩) sl sl) ∧ (w'.cell? ⟨w.heap.size + 1, 0, none⟩ = some (.int .i64 x.k.k) ∧ w'.cell? ⟨w.heap.size + 1, 1, none⟩ = some (.int .i64 x.k.i) ∧ w'.cell? ⟨w.heap.size + 1, 2, none⟩ = some (.int .i64 x.k.s) ∧ w'.cell? ⟨w.heap.size + 1, 3, none⟩ = some (.string x.k.t) ∧ w'.cell? ⟨w.heap.size + 1, 4, none⟩ = some (.slice x.k.la x.k.ll x.k.lc) ∧ w'.cell? ⟨w.heap.size + 1, 5, none⟩ = some (.slice x.k.fa x.k.fl x.k.fc) ∧ w'.cell? ⟨w.heap.size + 1, 6, none⟩ = some (.int .i64 x.n) ∧ w'.cell? ⟨w.heap.size + 1, 7, none⟩ = some (.int .i64 x.t) ∧ w'.cell? ⟨w.heap.size + 1, 8, none⟩ = some (.slice x.ia x.il x.ic) ∧ w'.cell? ⟨w.heap.size + 1, 9, none⟩ = some (.slice x.va x.vl x.vc))) := hid fun w' h => by
    have h1 := heapExt h HG8.out
    have h2 := HC0.out _ (HB35.out.trans (h.mono HB35.out.size))
    exact ⟨cellOf h1 2, h2.2⟩
  have HCS : Hid (∀ w', Below w5.heap.size w5 w' → Calls Tryz.prog 84 #[.agg #[.int .i64 x.k.k, .int .i64 x.k.i, .int .i64 x.k.s, .string x.k.t, .slice x.k.la x.k.ll x.k.lc, .slice x.k.fa x.k.fl x.k.fc, .int .i64 x.n, .int .i64 x.t, .slice x.ia x.il x.ic, .slice x.va x.vl x.vc]] w' (SlPost w' dx)) := hid fun w' h => by
    have hw := HUP.out _ (HB35.out.trans (h.mono HB35.out.size))
    exact cloneSlot_call x dx w' (HX.out.same fun b q => ⟨Nat.lt_of_lt_of_le q hw.size, hw.block b q⟩)
  clear hw5 hr hb3 hb34
  refine wp_region_split 7 (fun w' => Below w5.heap.size w5 w') (by kernel_rfl) (by kernel_rfl) (by kernel_rfl) (by decide) ((Below.refl _ _).drew) (fun hS => ?_)
  simp only [List.take_succ_cons, List.take_zero, List.drop_succ_cons, List.drop_zero]
  refine wpAnyH_take (i := 0) (oi := _) (v := ?_) rfl (by kernel_rfl) (by kernel_rfl) (by kernel_rfl) (fun _ _ _ h => h) (Or.inl ⟨by rfl, ?_⟩) hS ?_
  rotate_left
  · intro w' hw'
    have hcells := HC5.out w' hw'
    go_simp
    (try with_reducible rfl)
  simp only [Act.put, List.getElem_toArray, List.getElem_cons_succ, List.getElem_cons_zero, List.setIfInBounds_toArray, List.set_cons_zero, List.set_cons_succ]
  refine wpAnyH_take (i := 1) (oi := _) (v := ?_) rfl (by kernel_rfl) (by kernel_rfl) (by kernel_rfl) (fun _ _ _ h => h) (Or.inl ⟨by rfl, ?_⟩) hS ?_
  rotate_left
  · intro w' hw'
    have hcells := HC5.out w' hw'
    go_simp
    (try with_reducible rfl)
  simp only [Act.put, List.getElem_toArray, List.getElem_cons_succ, List.getElem_cons_zero, List.setIfInBounds_toArray, List.set_cons_zero, List.set_cons_succ]
  refine wpAnyH_take (i := 2) (oi := _) (v := ?_) rfl (by kernel_rfl) (by kernel_rfl) (by kernel_rfl) (fun _ _ _ h => h) (Or.inl ⟨by rfl, ?_⟩) hS ?_
  rotate_left
  · intro w' hw'
    have hcells := HC5.out w' hw'
    go_simp
    (try with_reducible rfl)
  simp only [Act.put, List.getElem_toArray, List.getElem_cons_succ, List.getElem_cons_zero, List.setIfInBounds_toArray, List.set_cons_zero, List.set_cons_succ]
  refine wpAnyH_take (i := 3) (oi := _) (v := ?_) rfl (by kernel_rfl) (by kernel_rfl) (by kernel_rfl) (fun _ _ _ h => h) (Or.inl ⟨by rfl, ?_⟩) hS ?_
  rotate_left
  · intro w' hw'
    have hcells := HC5.out w' hw'
    go_simp
    (try with_reducible rfl)
  simp only [Act.put, List.getElem_toArray, List.getElem_cons_succ, List.getElem_cons_zero, List.setIfInBounds_toArray, List.set_cons_zero, List.set_cons_succ]
  refine wpAnyH_ready (rs := [4]) (by kernel_rfl) (by simp) ?_
  refine AllReadyH.cons (o := _) rfl (fun K hK => ?_) AllReadyH.nil
  go_simp; go_at_call 84; refine (HCS.out _ hS).mono ?_
  rintro e w6 ⟨c6, rfl, hb6, hi6⟩
  have HI6 := hid hi6
  have HB6 := hid hb6
  clear hi6
  refine hK.out _ _ (hS.trans (hb6.mono hS.size)) (fun hS => ?_)
  clear hK K
  (try simp only [Act.put, List.getElem_toArray, List.getElem_cons_succ, List.getElem_cons_zero, List.setIfInBounds_toArray, List.set_cons_zero, List.set_cons_succ])
  refine wpAnyH_ready (rs := [5]) (by kernel_rfl) (by simp) ?_
  refine AllReadyH.cons (o := _) rfl (fun K hK => ?_) AllReadyH.nil
  go_simp
  obtain ⟨wB, hwB⟩ : ∃ u, u = w6.alloc (.cells #[.int .i64 c6.k.k, .int .i64 c6.k.i, .int .i64 c6.k.s, .string c6.k.t, .slice c6.k.la c6.k.ll c6.k.lc, .slice c6.k.fa c6.k.fl c6.k.fc, .int .i64 c6.n, .int .i64 c6.t, .slice c6.ia c6.il c6.ic, .slice c6.va c6.vl c6.vc] 58) := ⟨_, rfl⟩
  rw [← hwB]
  have HBB := hid (show Below w6.heap.size w6 wB by rw [hwB]; exact (Below.refl _ _).alloc (Nat.le_refl _) _)
  have HCB := hid (show wB.heap[w6.heap.size]? = some (.cells #[.int .i64 c6.k.k, .int .i64 c6.k.i, .int .i64 c6.k.s, .string c6.k.t, .slice c6.k.la c6.k.ll c6.k.lc, .slice c6.k.fa c6.k.fl c6.k.fc, .int .i64 c6.n, .int .i64 c6.t, .slice c6.ia c6.il c6.ic, .slice c6.va c6.vl c6.vc] 58) by rw [hwB]; exact heap_alloc_new w6 _)
  have HS6 := hid hS
  have hbb := hS.trans (HBB.out.mono hS.size)
  clear hwB
  refine hK.out _ _ (hbb) (fun hS => ?_)
  clear hK K
  (try simp only [Act.put, List.getElem_toArray, List.getElem_cons_succ, List.getElem_cons_zero, List.setIfInBounds_toArray, List.set_cons_zero, List.set_cons_succ])
  refine wpAnyH_ready (rs := [6]) (by kernel_rfl) (by simp) ?_
  refine AllReadyH.cons (o := _) rfl (fun K hK => ?_) AllReadyH.nil
  have hins := insertS_call g sl pi cs w6.heap.size 1 c6 wB (by have := HR.out.lt; have := HS5.out; have := HS6.out.size; have := HBB.out.size; omega) ((HR5.out.ext HS6.out).ext HBB.out) HR.out.len HPL.out (by omega) ⟨rfl, .inr ⟨_, rfl, fun t u hu => (by simp only [List.flatMap_cons, List.flatMap_nil, List.append_nil] at hu; exact World.news_of_block HCB.out t u hu)⟩⟩
  go_simp; go_at_call 99; refine hins.mono ?_
  rintro e w7 ⟨g7, cap7, rfl, hge7, hlt7, hb7, hr7⟩
  have HR7 := hid hr7
  have HB7 := hid hb7
  have HG7 := hid (And.intro hge7 hlt7)
  clear hins hr7 hge7 hlt7
  refine hK.out _ _ (hS.trans (hb7.mono hS.size)) (fun hS => ?_)
  clear hK K
  (try simp only [Act.put, List.getElem_toArray, List.getElem_cons_succ, List.getElem_cons_zero, List.setIfInBounds_toArray, List.set_cons_zero, List.set_cons_succ])
  refine wpAnyH_done (by kernel_rfl) ?_ _
  (try dsimp only)
  have HS7 := hid hS
  clear hS
  have hs6 := HS6.out.size
  have hs7 := HS7.out.size
  have hsB := HBB.out.size
  have hs5 := HS5.out
  have hg7 := HG7.out
  have hg3 := HR.out.ge
  have hbx := HBX.out
  have hsb := HSB.out
  have hh7 := HB7.out.size
  have h34 := HR.out.below.size
  have HG8' := hid (show w7.heap[w4.heap.size]? = some (.cells #[.int .i64 d.n, .int .i64 d.t, .slice (some ⟨g, 0, none⟩) sl sl] 55) from heapExt HS7.out HG8.out)
  have HG2' := hid (show w7.heap[w.heap.size + 2]? = some (.cells #[.int .i64 0, .int .i64 0, .slice none 0 0] 55) from heapExt (HB35.out.trans (HS7.out.mono HB35.out.size)) G3.out)
  have HG2 := hid (show (w7.setCell ⟨w4.heap.size, 2, none⟩ (.slice (some ⟨g7, 0, none⟩) (sl + 1) cap7)).heap[w.heap.size + 2]? = some (.cells #[.int .i64 0, .int .i64 0, .slice none 0 0] 55) from (Below.heap_setCell _ _ _ _ (by dsimp only; omega)).trans HG2'.out)
  have HBW := hid (show Below w.heap.size w (w7.setCell ⟨w4.heap.size, 2, none⟩ (.slice (some ⟨g7, 0, none⟩) (sl + 1) cap7)) from (HUP.out _ (HB35.out.trans (HS7.out.mono HB35.out.size))).setCell (p := ⟨w4.heap.size, 2, none⟩) (by dsimp only; omega) _)
  have HST := hid (show IsSta (fun b => w.heap.size ≤ b ∧ b < (w7.setCell ⟨w4.heap.size, 2, none⟩ (.slice (some ⟨g7, 0, none⟩) (sl + 1) cap7)).heap.size ∧ b ≠ w.heap.size + 2) (w7.setCell ⟨w4.heap.size, 2, none⟩ (.slice (some ⟨g7, 0, none⟩) (sl + 1) cap7)) ⟨d.n, d.t, some ⟨g7, 0, none⟩, sl + 1, cap7⟩ ⟨d.n, d.t, putL d.l dx⟩ from
    put_sta (B0 := w.heap.size) (r := w.heap.size + 2) (m := sl + 1) (N := w5.heap.size) (q := pi) HR.out HNT.out.1 HNT.out.2 (HR7.out.off (Off.set w4.heap.size 2 _ w7) (by omega)) (by rw [putL, putAt, putQ, HPB.out, ← HPI.out]; rfl) (by rw [putL_len HPB.out]; have := HL.out; omega) HPL.out (by omega) (by omega) (by omega) ⟨by omega, by omega, by simp [World.setCell]; omega⟩ (fun b h1 h2 => (Below.heap_setCell _ _ _ _ (by dsimp only; omega)).trans ((HS7.out.block b (by omega)).trans (HB5.out.block b h1))) (by omega) HI6.out (fun b h1 h2 => (Below.heap_setCell _ _ _ _ (by dsimp only; omega)).trans ((HB7.out.block b (by omega)).trans (HBB.out.block b h2))) (by omega) (by simp [World.setCell]; omega))
  have e0 := cellOf HG8'.out 0; have e1 := cellOf HG8'.out 1; have e2 := cellOf HG8'.out 2; have ef2 := freeOf HG8'.out 2
  have f0 := cellOf HG2'.out 0; have ff0 := freeOf HG2'.out 0; have f1 := cellOf HG2'.out 1; have ff1 := freeOf HG2'.out 1; have f2 := cellOf HG2'.out 2; have ff2 := freeOf HG2'.out 2
  (try dsimp only at e0 e1 e2 f0 f1 f2)
  have hne : ¬ w.heap.size + 2 = w4.heap.size := by omega
  have hne' : ¬ w4.heap.size = w.heap.size + 2 := by omega
  clear hs6 hs5 hg7 hg3 hbx hsb hs7 hsB hh7 h34
  go_wp2
  clear e0 e1 e2 ef2 f0 f1 f2 ff0 ff1 ff2
  obtain ⟨h9, hI, hB⟩ := setThree (v0 := .int .i64 d.n) (v1 := .int .i64 d.t) (v2 := .slice (some ⟨g7, 0, none⟩) (sl + 1) cap7) HG2.out HST.out
  have hB9 := hB _ _ HBW.out (by omega)
  exact bodyPost_ret (v := .tuple #[.agg #[.int .i64 d.n, .int .i64 d.t, .slice (some ⟨g7, 0, none⟩) (sl + 1) cap7], .int .i64 0]) (by simp [results, Tryz.results51, go_sem, cellOf h9]) rfl ⟨⟨d.n, d.t, some ⟨g7, 0, none⟩, sl + 1, cap7⟩, rfl, hB9, hI⟩
theorem putF_call (c : StC) (d : Sta) (x : SlC) (dx : Slot) (w : World) (hs : Srt d.l) (hd : IsSta (· < w.heap.size) w c d) (hx : IsSl (· < w.heap.size) w x dx) (hpb : placeB d.l dx.k = false) (hlt : d.l.length < 1024) : Calls Tryz.prog 51 #[c.v, x.v] w (PutPost w d dx) := (putF2_call c d x dx w hs hd hx hpb hlt).mono PutPost2.weak
set_option maxRecDepth 100000 in
set_option maxHeartbeats 8000000 in
theorem putL_call (c : StC) (d : Sta) (x : SlC) (dx : Slot) (w : World) (hs : Srt d.l) (hd : IsSta (· < w.heap.size) w c d) (hx : IsSl (· < w.heap.size) w x dx) (hpb : placeB d.l dx.k = false) (hge : 1024 ≤ d.l.length) : Calls Tryz.prog 51 #[c.v, x.v] w fun e w' => e = .returned (.tuple #[.agg #[.int .i64 0, .int .i64 0, .slice none 0 0], .int .i64 9]) ∧ Below w.heap.size w w' := by
  obtain ⟨sn, st, a, sl, sc⟩ := c
  have hbig : sl * 152 ≤ 140737488351232 := hd.l.big
  have HL := hid hd.l.len
  have HNT := hid (And.intro hd.rn hd.rt)
  have HD := hid hd
  have HX := hid hx
  dsimp only at HL
  have HSE := hid (And.intro hd.n hd.t)
  obtain ⟨wb, hwb⟩ : ∃ wb, wb = ((w.alloc (.cells #[.int .i64 sn, .int .i64 st, .slice a sl sc] 55)).alloc (.cells #[.int .i64 x.k.k, .int .i64 x.k.i, .int .i64 x.k.s, .string x.k.t, .slice x.k.la x.k.ll x.k.lc, .slice x.k.fa x.k.fl x.k.fc, .int .i64 x.n, .int .i64 x.t, .slice x.ia x.il x.ic, .slice x.va x.vl x.vc] 58)).alloc (.cells #[.int .i64 0, .int .i64 0, .slice none 0 0] 55) := ⟨_, rfl⟩
  have hb0 : Below w.heap.size w wb := by rw [hwb]; exact (((Below.refl _ w).alloc (Nat.le_refl _) _).alloc (by simp) _).alloc (by simp; omega) _
  have hsb : wb.heap.size = w.heap.size + 3 := by rw [hwb]; simp
  have g1 : wb.heap[w.heap.size]? = some (.cells #[.int .i64 sn, .int .i64 st, .slice a sl sc] 55) := by rw [hwb]; exact heapAlloc _ (heapAlloc _ (heap_alloc_new w _))
  have g2 : wb.heap[w.heap.size + 1]? = some (.cells #[.int .i64 x.k.k, .int .i64 x.k.i, .int .i64 x.k.s, .string x.k.t, .slice x.k.la x.k.ll x.k.lc, .slice x.k.fa x.k.fl x.k.fc, .int .i64 x.n, .int .i64 x.t, .slice x.ia x.il x.ic, .slice x.va x.vl x.vc] 58) := by rw [hwb]; exact heapAlloc _ (heapNewAt _ _ _ (by simp))
  have g3 : wb.heap[w.heap.size + 2]? = some (.cells #[.int .i64 0, .int .i64 0, .slice none 0 0] 55) := by rw [hwb]; exact heapNewAt _ _ _ (by simp)
  have HC0 : Hid (∀ w', Below wb.heap.size wb w' → (w'.cell? ⟨w.heap.size, 0, none⟩ = some (.int .i64 sn) ∧ w'.cell? ⟨w.heap.size, 1, none⟩ = some (.int .i64 st) ∧ w'.cell? ⟨w.heap.size, 2, none⟩ = some (.slice a sl sc)) ∧ (w'.cell? ⟨w.heap.size + 1, 0, none⟩ = some (.int .i64 x.k.k) ∧ w'.cell? ⟨w.heap.size + 1, 1, none⟩ = some (.int .i64 x.k.i) ∧ w'.cell? ⟨w.heap.size + 1, 2, none⟩ = some (.int .i64 x.k.s) ∧ w'.cell? ⟨w.heap.size + 1, 3, none⟩ = some (.string x.k.t) ∧ w'.cell? ⟨w.heap.size + 1, 4, none⟩ = some (.slice x.k.la x.k.ll x.k.lc) ∧ w'.cell? ⟨w.heap.size + 1, 5, none⟩ = some (.slice x.k.fa x.k.fl x.k.fc) ∧ w'.cell? ⟨w.heap.size + 1, 6, none⟩ = some (.int .i64 x.n) ∧ w'.cell? ⟨w.heap.size + 1, 7, none⟩ = some (.int .i64 x.t) ∧ w'.cell? ⟨w.heap.size + 1, 8, none⟩ = some (.slice x.ia x.il x.ic) ∧ w'.cell? ⟨w.heap.size + 1, 9, none⟩ = some (.slice x.va x.vl x.vc))) := hid fun w' h => by
    have h1 := heapExt h g1
    have h2 := heapExt h g2
    exact ⟨⟨cellOf h1 0, cellOf h1 1, cellOf h1 2⟩, cellOf h2 0, cellOf h2 1, cellOf h2 2, cellOf h2 3, cellOf h2 4, cellOf h2 5, cellOf h2 6, cellOf h2 7, cellOf h2 8, cellOf h2 9⟩
  have G3 := hid g3
  have hfd := find_call ⟨sn, st, a, sl, sc⟩ d x.k dx.k wb (hd.same fun b q => ⟨Nat.lt_of_lt_of_le q hb0.size, hb0.block b q⟩) (hx.k.same fun b q => ⟨Nat.lt_of_lt_of_le q hb0.size, hb0.block b q⟩)
  obtain ⟨pi, hpi⟩ : ∃ p, p = placeI d.l dx.k := ⟨_, rfl⟩
  have hfd2 : Calls Tryz.prog 35 #[.agg #[.int .i64 sn, .int .i64 st, .slice a sl sc], .agg #[.int .i64 x.k.k, .int .i64 x.k.i, .int .i64 x.k.s, .string x.k.t, .slice x.k.la x.k.ll x.k.lc, .slice x.k.fa x.k.fl x.k.fc]] wb fun e w' => e = .returned (.tuple #[.int .i64 (pi : Nat), .bool false]) ∧ Below wb.heap.size wb w' := hfd.mono fun e w' h => by
    obtain ⟨h1, h2⟩ := h
    rw [findI_place hs, findB_place hs, ← hpi, hpb] at h1
    exact ⟨h1, h2⟩
  clear hfd
  have HPI := hid hpi
  have HPB := hid hpb
  have HB0 := hid hb0
  have HSB := hid hsb
  have HWB := hid hwb
  have HUP : Hid (∀ w', Below wb.heap.size wb w' → Below w.heap.size w w') := hid fun w' h => HB0.out.trans (h.mono HB0.out.size)
  have HCL : Hid (∀ w', Below wb.heap.size wb w' → Calls Tryz.prog 39 #[.agg #[.int .i64 sn, .int .i64 st, .slice a sl sc]] w' (StaPost2 w' d)) := hid fun w' h => by
    have hw := HUP.out w' h
    exact cloneSta2_call ⟨sn, st, a, sl, sc⟩ d w' (HD.out.same fun b q => ⟨Nat.lt_of_lt_of_le q hw.size, hw.block b q⟩)
  have HPL := hid (show pi ≤ sl by have := placeI_le d.l dx.k; have := HL.out; omega)
  have hpl := HPL.out
  have hsl : 1024 ≤ sl := by have := HL.out; omega
  obtain ⟨⟨s0, s1, s2⟩, x0, x1, x2, x3, x4, x5, x6, x7, x8, x9⟩ := HC0.out _ (Below.refl _ _)
  rw [hwb] at hfd2 s0 s1 s2 x0 x1 x2 x3 x4 x5 x6 x7 x8 x9
  have HFD := hid hfd2
  clear hwb hb0 hsb g1 g2 g3 hfd2 hpi hpb hd hx hs
  dsimp only [StC.v, SlC.v]
  go_enter Tryz.func51, Tryz.ntmps51
  have hsl2 : (1024 : Int) ≤ (sl : Int) := by omega
  clear hge
  go_wp2_with (go_at_call 35; refine HFD.out.mono ?_; rintro e w3 ⟨rfl, hb3⟩; rw [← HWB.out] at hb3; clear s0 s1 s2 x0 x1 x2 x3 x4 x5 x6 x7 x8 x9; obtain ⟨⟨s0, s1, s2⟩, _⟩ := HC0.out _ hb3; have g3 := heapExt hb3 G3.out; have f0 := cellOf g3 0; have ff0 := freeOf g3 0; have f1 := cellOf g3 1; have ff1 := freeOf g3 1; have f2 := cellOf g3 2; have ff2 := freeOf g3 2; (try dsimp only at f0 f1 f2); have HG3 := hid g3; clear g3)
  clear f0 f1 f2 ff0 ff1 ff2 s0 s1 s2
  have h9 := heapSet (o := 2) (.slice none 0 0) (heapSet (o := 1) (.int .i64 0) (heapSet (o := 0) (.int .i64 0) HG3.out))
  simp only [List.setIfInBounds_toArray, List.set_cons_zero, List.set_cons_succ] at h9
  exact bodyPost_ret (v := .tuple #[.agg #[.int .i64 0, .int .i64 0, .slice none 0 0], .int .i64 9]) (by simp [results, Tryz.results51, go_sem, cellOf h9]) rfl ⟨rfl, (((HUP.out _ hb3).setCell (p := ⟨w.heap.size + 2, 0, none⟩) (by dsimp only; omega) _).setCell (p := ⟨w.heap.size + 2, 1, none⟩) (by dsimp only; omega) _).setCell (p := ⟨w.heap.size + 2, 2, none⟩) (by dsimp only; omega) _⟩
end Go.Proofs.YthjlgpmajeafpaaGreatDoor

/-
  Plain: appending whatever can be read to a row of the call's own, as one equation of the run. No program in sight.
-/
namespace Go.Proofs.YthjlgpmajeafpaaGreatDoor
open Go Go.RowKit
set_option linter.unusedVariables false
set_option linter.unusedSimpArgs false

theorem src00 {P : Program} {w : World} {size : Nat} {t e : TypeId} (ht : P.underlying t = some (.slice e)) (ax : Option Addr) (c : Nat) : Src P size t (.slice ax 0 c) 0 [] w := by
  cases ax with
  | none => exact Src.ofNil w ht c
  | some ad => exact Src.ofSlice w ht ad 0 c [] (by simp) (fun j u hu => by simp at hu) (fun u hu => by cases hu)
section
variable {C D : Type} {K : Kit C D}
theorem Kept.below {T B : Nat} {w w' : World} {v : Value} {k : Nat} {l : List D} (h : Kept K T B w v k l) (hg : w.grownBy w' v.ownBlock) (hB : B ≤ w.heap.size) : Below B w w' :=
  ⟨hg.os, hg.tape, hg.output, hg.size, fun b hb => hg.block b (by omega) (fun e => by have := (h.own b e.symm).1; omega)⟩
theorem grown_below {N : Nat} {w w' : World} {row : Option Nat} (hg : w.grownBy w' row) (hr : ∀ r, row = some r → N ≤ r) (hN : N ≤ w.heap.size) : Below N w w' :=
  ⟨hg.os, hg.tape, hg.output, hg.size, fun b hb => hg.block b (by omega) (fun e => by have := hr b e.symm; omega)⟩
theorem run_append_kept {P : Program} {w : World} {T B : Nat} {t ty : TypeId} {i : TypeInfo} {z : Value} (ht : P.underlying t = some (.slice T)) (hi : P.info? T = some i) (hz : i.zero = some z) (hsize : i.size = K.n) (hby : i.bytes ≤ 1000) (hzs : z.cells.size = K.n) (h1 : ∀ x, ∀ u ∈ K.cs x, u.oneCell' = true)
    {v : Value} {k : Nat} {l : List D} (hk : Kept K T B w v k l) {a : Option Addr} {m : Nat} (c : Nat) {cs2 : List C} {l2 : List D} (hcl : Cl K w a m cs2) (hl2 : l2.length = m) (hel : ∀ j (h : j < cs2.length) (h' : j < l2.length), K.Is (· < B) w cs2[j] l2[j]) (hB : B ≤ w.heap.size) (hn : k + m ≤ 100000) :
    ∃ (a' : Option Addr) (cap' : Nat) (w' : World), (Builtin.append_ #[t, t] ty #[v, .slice a m c]).run P w = .ok (.slice a' (k + m) cap') w' ∧ Kept K T B w' (.slice a' (k + m) cap') (k + m) (l ++ l2) ∧ w.grownBy w' v.ownBlock ∧ ∀ r, (Value.slice a' (k + m) cap').ownBlock = some r → v.ownBlock = some r ∨ r = w.heap.size := by
  have hpos := K.pos
  by_cases hm : m = 0
  · subst hm
    obtain ⟨a0, cap, rfl, hcap⟩ := hk.shape
    have hl0 : l2 = [] := List.eq_nil_of_length_eq_zero hl2
    subst hl0
    refine ⟨a0, cap, w, run_append_nothing (P := P) w t t ty T i ht hi a0 k cap hcap _ (src00 ht a c), ?_, ⟨rfl, rfl, rfl, Nat.le_refl _, fun _ _ _ => rfl⟩, fun r hr => .inl hr⟩
    rw [List.append_nil, Nat.add_zero]
    exact hk
  · obtain ⟨ad, rfl, hc⟩ := hcl.at'.resolve_left hm
    have hf : (cs2.flatMap K.cs).length = m * K.n := by rw [flat_len, hcl.len]
    have ho : ∀ u ∈ cs2.flatMap K.cs, u.oneCell' = true := fun u hu => by
      obtain ⟨x, _, hx⟩ := List.mem_flatMap.1 hu
      exact h1 x u hx
    obtain ⟨cs, q1, q2, q3, q4⟩ := id hk
    have hb2 : (k + m) * i.bytes ≤ 140737488355328 := by
      have : (k + m) * i.bytes ≤ 100000 * 1000 := Nat.mul_le_mul hn hby
      omega
    obtain ⟨g, cap, w', hr, hown, hgr, hat, hlt⟩ := run_append_lies (P := P) w t ty B T i z K.n i.bytes ht hi hz hsize rfl hzs hpos v k _ q3 ad m c _ hf hc ho (by omega) (by unfold maxLen; omega) hb2 hB _ rfl
    have hv : ∀ r, v.ownBlock = some r → B ≤ r := fun r e => (hk.own r e).1
    exact ⟨some ⟨g, 0, none⟩, cap, w', hr, Kept.pushN q1 q2 q4 hcl.len hl2 hel hB hv hown hgr, hgr, fun r e => by
      obtain rfl : g = r := by injection e
      exact hat⟩
/-- The elements of a row that can be read, and its cells. -/
theorem IsRow.cl {S : Nat → Prop} {w : World} {a : Option Addr} {n c : Nat} {l : List D} (h : IsRow K S w a n c l) : ∃ cs : List C, cs.length = n ∧ Cl K w a n cs ∧ ∀ j (h1 : j < cs.length) (h2 : j < l.length), K.Is S w cs[j] l[j] := by
  by_cases hn : n = 0
  · subst hn
    exact ⟨[], rfl, ⟨rfl, .inl rfl⟩, fun j h1 => absurd h1 (by simp)⟩
  · obtain ⟨b, o, cs, ha, hb, hl, hel, hc⟩ := h.pick (by omega)
    exact ⟨cs, hl, ⟨hl, .inr ⟨_, ha, hc⟩⟩, hel⟩
theorem take_els {R : C → D → Prop} {cs : List C} {l : List D} (h : ∀ j (h1 : j < cs.length) (h2 : j < l.length), R cs[j] l[j]) (p : Nat) : ∀ j (h1 : j < (cs.take p).length) (h2 : j < (l.take p).length), R (cs.take p)[j] (l.take p)[j] := fun j h1 h2 => by
  rw [List.getElem_take, List.getElem_take]
  exact h j _ _
theorem drop_els {R : C → D → Prop} {cs : List C} {l : List D} (h : ∀ j (h1 : j < cs.length) (h2 : j < l.length), R cs[j] l[j]) (p : Nat) : ∀ j (h1 : j < (cs.drop p).length) (h2 : j < (l.drop p).length), R (cs.drop p)[j] (l.drop p)[j] := fun j h1 h2 => by
  rw [List.getElem_drop, List.getElem_drop]
  exact h (p + j) _ _
theorem one_els {R : C → D → Prop} {c : C} {d : D} (h : R c d) : ∀ j (h1 : j < [c].length) (h2 : j < [d].length), R [c][j] [d][j] := fun j h1 h2 => by
  obtain rfl : j = 0 := by simp at h1; omega
  exact h
/-- A fresh empty row. -/
theorem Kept.made {T B : Nat} {w : World} (cur : Array Value) (cap : Nat) (hb : B ≤ w.heap.size) (hm : cap ≤ maxLen) (hs : cur.size = cap * K.n) : Kept K T B (w.alloc (.cells cur T)) (.slice (some ⟨w.heap.size, 0, none⟩) 0 cap) 0 [] :=
  ⟨[], rfl, rfl, World.ownsRow_made w cur cap hb hm hs, fun j h => absurd h (by simp)⟩
end
end Go.Proofs.YthjlgpmajeafpaaGreatDoor
