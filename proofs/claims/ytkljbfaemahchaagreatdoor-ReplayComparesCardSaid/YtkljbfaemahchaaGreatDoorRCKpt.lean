/-
  Plain: appending whatever can be read to a row of the call's own, as one equation of the run. No program in sight.
-/
import Derived.Test.YtkljbfaemahchaaGreatDoorRCGrow
namespace Go.Proofs.YtkljbfaemahchaaGreatDoor
open Go Go.RowKit
set_option linter.unusedVariables false
set_option linter.unusedSimpArgs false

theorem src00 {P : Program} {w : World} {size : Nat} {t e : TypeId} (ht : P.underlying t = some (.slice e)) (ax : Option Addr) (c : Nat) : Src P size t (.slice ax 0 c) 0 [] w := by
  cases ax with
  | none => exact Src.ofNil w ht c
  | some ad => exact Src.ofSlice w ht ad 0 c [] (by simp) (fun j u hu => by simp at hu) (fun u hu => by cases hu)
section
variable {C D : Type} {K : Kit C D}
theorem Kept.below {T B : Nat} {w w' : World} {v : Value} {k : Nat} {l : List D} (h : Kept K T B w v k l) (hg : w.grownBy w' v.ownBlock) (hB : B ≤ w.heap.size) : Below B w w' :=
  ⟨hg.os, hg.tape, hg.output, hg.size, fun b hb => hg.block b (by omega) (fun e => by have := (h.own b e.symm).1; omega)⟩
theorem grown_below {N : Nat} {w w' : World} {row : Option Nat} (hg : w.grownBy w' row) (hr : ∀ r, row = some r → N ≤ r) (hN : N ≤ w.heap.size) : Below N w w' :=
  ⟨hg.os, hg.tape, hg.output, hg.size, fun b hb => hg.block b (by omega) (fun e => by have := hr b e.symm; omega)⟩
theorem run_append_kept {P : Program} {w : World} {T B : Nat} {t ty : TypeId} {i : TypeInfo} {z : Value} (ht : P.underlying t = some (.slice T)) (hi : P.info? T = some i) (hz : i.zero = some z) (hsize : i.size = K.n) (hby : i.bytes ≤ 1000) (hzs : z.cells.size = K.n) (h1 : ∀ x, ∀ u ∈ K.cs x, u.oneCell' = true)
    {v : Value} {k : Nat} {l : List D} (hk : Kept K T B w v k l) {a : Option Addr} {m : Nat} (c : Nat) {cs2 : List C} {l2 : List D} (hcl : Cl K w a m cs2) (hl2 : l2.length = m) (hel : ∀ j (h : j < cs2.length) (h' : j < l2.length), K.Is (· < B) w cs2[j] l2[j]) (hB : B ≤ w.heap.size) (hn : k + m ≤ 100000) :
    ∃ (a' : Option Addr) (cap' : Nat) (w' : World), (Builtin.append_ #[t, t] ty #[v, .slice a m c]).run P w = .ok (.slice a' (k + m) cap') w' ∧ Kept K T B w' (.slice a' (k + m) cap') (k + m) (l ++ l2) ∧ w.grownBy w' v.ownBlock ∧ ∀ r, (Value.slice a' (k + m) cap').ownBlock = some r → v.ownBlock = some r ∨ r = w.heap.size := by
  have hpos := K.pos
  by_cases hm : m = 0
  · subst hm
    obtain ⟨a0, cap, rfl, hcap⟩ := hk.shape
    have hl0 : l2 = [] := List.eq_nil_of_length_eq_zero hl2
    subst hl0
    refine ⟨a0, cap, w, run_append_nothing (P := P) w t t ty T i ht hi a0 k cap hcap _ (src00 ht a c), ?_, ⟨rfl, rfl, rfl, Nat.le_refl _, fun _ _ _ => rfl⟩, fun r hr => .inl hr⟩
    rw [List.append_nil, Nat.add_zero]
    exact hk
  · obtain ⟨ad, rfl, hc⟩ := hcl.at'.resolve_left hm
    have hf : (cs2.flatMap K.cs).length = m * K.n := by rw [flat_len, hcl.len]
    have ho : ∀ u ∈ cs2.flatMap K.cs, u.oneCell' = true := fun u hu => by
      obtain ⟨x, _, hx⟩ := List.mem_flatMap.1 hu
      exact h1 x u hx
    obtain ⟨cs, q1, q2, q3, q4⟩ := id hk
    have hb2 : (k + m) * i.bytes ≤ 140737488355328 := by
      have : (k + m) * i.bytes ≤ 100000 * 1000 := Nat.mul_le_mul hn hby
      omega
    obtain ⟨g, cap, w', hr, hown, hgr, hat, hlt⟩ := run_append_lies (P := P) w t ty B T i z K.n i.bytes ht hi hz hsize rfl hzs hpos v k _ q3 ad m c _ hf hc ho (by omega) (by unfold maxLen; omega) hb2 hB _ rfl
    have hv : ∀ r, v.ownBlock = some r → B ≤ r := fun r e => (hk.own r e).1
    exact ⟨some ⟨g, 0, none⟩, cap, w', hr, Kept.pushN q1 q2 q4 hcl.len hl2 hel hB hv hown hgr, hgr, fun r e => by
      obtain rfl : g = r := by injection e
      exact hat⟩
/-- The elements of a row that can be read, and its cells. -/
theorem IsRow.cl {S : Nat → Prop} {w : World} {a : Option Addr} {n c : Nat} {l : List D} (h : IsRow K S w a n c l) : ∃ cs : List C, cs.length = n ∧ Cl K w a n cs ∧ ∀ j (h1 : j < cs.length) (h2 : j < l.length), K.Is S w cs[j] l[j] := by
  by_cases hn : n = 0
  · subst hn
    exact ⟨[], rfl, ⟨rfl, .inl rfl⟩, fun j h1 => absurd h1 (by simp)⟩
  · obtain ⟨b, o, cs, ha, hb, hl, hel, hc⟩ := h.pick (by omega)
    exact ⟨cs, hl, ⟨hl, .inr ⟨_, ha, hc⟩⟩, hel⟩
theorem take_els {R : C → D → Prop} {cs : List C} {l : List D} (h : ∀ j (h1 : j < cs.length) (h2 : j < l.length), R cs[j] l[j]) (p : Nat) : ∀ j (h1 : j < (cs.take p).length) (h2 : j < (l.take p).length), R (cs.take p)[j] (l.take p)[j] := fun j h1 h2 => by
  rw [List.getElem_take, List.getElem_take]
  exact h j _ _
theorem drop_els {R : C → D → Prop} {cs : List C} {l : List D} (h : ∀ j (h1 : j < cs.length) (h2 : j < l.length), R cs[j] l[j]) (p : Nat) : ∀ j (h1 : j < (cs.drop p).length) (h2 : j < (l.drop p).length), R (cs.drop p)[j] (l.drop p)[j] := fun j h1 h2 => by
  rw [List.getElem_drop, List.getElem_drop]
  exact h (p + j) _ _
theorem one_els {R : C → D → Prop} {c : C} {d : D} (h : R c d) : ∀ j (h1 : j < [c].length) (h2 : j < [d].length), R [c][j] [d][j] := fun j h1 h2 => by
  obtain rfl : j = 0 := by simp at h1; omega
  exact h
/-- A fresh empty row. -/
theorem Kept.made {T B : Nat} {w : World} (cur : Array Value) (cap : Nat) (hb : B ≤ w.heap.size) (hm : cap ≤ maxLen) (hs : cur.size = cap * K.n) : Kept K T B (w.alloc (.cells cur T)) (.slice (some ⟨w.heap.size, 0, none⟩) 0 cap) 0 [] :=
  ⟨[], rfl, rfl, World.ownsRow_made w cur cap hb hm hs, fun j h => absurd h (by simp)⟩
end
end Go.Proofs.YtkljbfaemahchaaGreatDoor
