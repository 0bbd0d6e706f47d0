/-
  Plain: appending a row that can be read to a row of the call's own: what is left; appending nothing. No program in sight.
-/
import Derived.Test.YtkljbfaemahchaaGreatDoorRCKeep
import Derived.Deep.AppendLies
import Derived.Deep.Upon
namespace Go.Proofs.YtkljbfaemahchaaGreatDoor
open Go Go.RowKit
set_option linter.unusedVariables false
set_option linter.unusedSimpArgs false

theorem pick_l {α : Type} {Q : Nat → α → Prop} : ∀ (n : Nat), (∀ i, i < n → ∃ x, Q i x) → ∃ l : List α, l.length = n ∧ ∀ i (h : i < l.length), Q i l[i]
  | 0, _ => ⟨[], rfl, fun i h => absurd h (Nat.not_lt_zero i)⟩
  | n + 1, h => by
    obtain ⟨l, hl, hq⟩ := pick_l n fun i hi => h i (Nat.lt_succ_of_lt hi)
    obtain ⟨x, hx⟩ := h n (Nat.lt_succ_self n)
    refine ⟨l ++ [x], by simp [hl], fun i hi => ?_⟩
    by_cases h1 : i < l.length
    · rw [List.getElem_append_left h1]; exact hq i h1
    · have h2 : i = n := by simp at hi; omega
      subst h2
      rw [List.getElem_append_right (by omega)]
      simpa [hl] using hx
section
variable {C D : Type} {K : Kit C D}
theorem flat_cells {w : World} {b o : Nat} {cs : List C} (h : ∀ j (hj : j < cs.length), AtG K w b (o + j * K.n) cs[j]) : ∀ t u, (cs.flatMap K.cs)[t]? = some u → w.cell? ((⟨b, o, none⟩ : Addr).add t) = some u := by
  intro t u hu
  have hn := K.pos
  have hlen : (cs.flatMap K.cs).length = cs.length * K.n := by
    clear h hu
    induction cs with
    | nil => simp
    | cons c r ih => rw [List.flatMap_cons, List.length_append, ih, K.len, List.length_cons, Nat.add_mul]; omega
  have ht : t < cs.length * K.n := by
    rw [← hlen]
    rcases Nat.lt_or_ge t (cs.flatMap K.cs).length with g | g
    · exact g
    · rw [List.getElem?_eq_none g] at hu; cases hu
  have hj : t / K.n < cs.length := (Nat.div_lt_iff_lt_mul hn).2 ht
  have hi : t % K.n < K.n := Nat.mod_lt _ hn
  have e : t / K.n * K.n + t % K.n = t := by rw [Nat.mul_comm]; exact Nat.div_add_mod t K.n
  have h1 := h _ hj _ hi
  have h2 := flat_get K.cs K.n K.len cs _ _ hj hi
  rw [e] at h2
  rw [← h2, hu, Nat.add_assoc, e] at h1
  rw [show ((⟨b, o, none⟩ : Addr).add t) = ⟨b, o + t, none⟩ by unfold Addr.add; split <;> simp_all]
  exact h1
/-- The elements of a row that can be read. -/
theorem IsRow.pick {S : Nat → Prop} {w : World} {a : Option Addr} {n c : Nat} {l : List D} (h : IsRow K S w a n c l) (hn : 0 < n) :
    ∃ (b o : Nat) (cs : List C), a = some ⟨b, o, none⟩ ∧ S b ∧ cs.length = n ∧ (∀ j (h : j < cs.length) (h' : j < l.length), K.Is S w cs[j] l[j]) ∧ ∀ t u, (cs.flatMap K.cs)[t]? = some u → w.cell? ((⟨b, o, none⟩ : Addr).add t) = some u := by
  obtain ⟨b, o, ha, hb, hx⟩ := h.slot hn
  have hl := h.len
  obtain ⟨cs, hcl, hq⟩ := pick_l (Q := fun j x => AtG K w b (o + j * K.n) x ∧ ∀ (h' : j < l.length), K.Is S w x l[j]) n fun j hj => by
    obtain ⟨x, h1, h2⟩ := hx j (by omega)
    exact ⟨x, h1, fun _ => h2⟩
  exact ⟨b, o, cs, ha, hb, hcl, fun j h1 h2 => (hq j h1).2 h2, flat_cells fun j hj => (hq j hj).1⟩
theorem Kept.pushN {T B : Nat} {w1 w2 : World} {v : Value} {k m : Nat} {l l2 : List D} {cs cs2 : List C} {g cap : Nat} (hcs : cs.length = k) (hl : l.length = k)
    (hel : ∀ j (h : j < cs.length) (h' : j < l.length), K.Is (· < B) w1 cs[j] l[j]) (hcs2 : cs2.length = m) (hl2 : l2.length = m) (hel2 : ∀ j (h : j < cs2.length) (h' : j < l2.length), K.Is (· < B) w1 cs2[j] l2[j])
    (hn : B ≤ w1.heap.size) (hv : ∀ r, v.ownBlock = some r → B ≤ r)
    (hown : w2.ownsRow B T K.n (.slice (some ⟨g, 0, none⟩) (k + m) cap) (k + m) (cs.flatMap K.cs ++ cs2.flatMap K.cs)) (hgrow : w1.grownBy w2 v.ownBlock) :
    Kept K T B w2 (.slice (some ⟨g, 0, none⟩) (k + m) cap) (k + m) (l ++ l2) := by
  have hst : ∀ b, b < B → w2.heap[b]? = w1.heap[b]? := fun b hb => hgrow.block b (by omega) (fun e => by have := hv b e.symm; omega)
  refine ⟨cs ++ cs2, by simp [hcs, hcs2], by simp [hl, hl2], by rw [List.flatMap_append]; exact hown, fun j hj hj' => ?_⟩
  by_cases hjk : j < cs.length
  · rw [List.getElem_append_left hjk, List.getElem_append_left (by omega)]
    exact K.same (fun b q => ⟨q, hst b q⟩) (hel j hjk (by omega))
  · rw [List.getElem_append_right (by omega), List.getElem_append_right (by omega)]
    have e1 : j - cs.length = j - l.length := by omega
    have h1 := hel2 (j - cs.length) (by simp at hj; omega) (by simp at hj'; omega)
    have e2 : l2[j - cs.length]'(by simp at hj'; omega) = l2[j - l.length]'(by simp at hj'; omega) := by congr 1
    rw [e2] at h1
    exact K.same (fun b q => ⟨q, hst b q⟩) h1
end
theorem wpList_append_nothing {P : Program} {w : World} {ops : Array Oper} {rest : List Oper} {o : Oper} {a : Act} {Q : Exit → Act → World → Prop} (hgd : o.guard = none) (s x : Operand) (t : TypeId)
    (ho : o.op = .call { callee := .builtin .append, args := #[s, x], argTypes := #[t, t] })
    (e : TypeId) (i : TypeInfo) (ht : P.underlying t = some (.slice e)) (hi : P.info? e = some i)
    (base : Option Addr) (sLen sCap : Nat) (hle : sLen ≤ sCap) (hs : a.eval s = .slice base sLen sCap) (ax : Option Addr) (c : Nat) (hx : a.eval x = .slice ax 0 c)
    (h : wpList P ops Q rest (a.put o.dst (.slice base sLen sCap)) w) : wpList P ops Q (o :: rest) a w := by
  refine wpList_plain hgd fun K hK => ?_
  have hsrc : Src P i.size t (.slice ax 0 c) 0 [] w := by
    cases ax with
    | none => exact Src.ofNil w ht c
    | some ad => exact Src.ofSlice w ht ad 0 c [] (by simp) (fun j u hu => by simp at hu) (fun u hu => by cases hu)
  have hrun := run_append_nothing (P := P) w t t o.type e i ht hi base sLen sCap hle _ hsrc
  unfold Oper.wp
  simp [execOp, ho, resolve, invoke, builtin, hs, hx, hrun, Result.andThen]
  exact hK _ _ h
end Go.Proofs.YtkljbfaemahchaaGreatDoor
