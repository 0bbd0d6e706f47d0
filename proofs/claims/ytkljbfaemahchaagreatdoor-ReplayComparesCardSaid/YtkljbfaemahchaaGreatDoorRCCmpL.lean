/-
  Plain: two lists of effects, one behind the other, in memory of the call's own. No function walked.
-/
import Derived.Test.YtkljbfaemahchaaGreatDoorRCNms
namespace Go.Proofs.YtkljbfaemahchaaGreatDoor
open Go Go.RowKit Go.Shelf Go.Sort
set_option linter.unusedVariables false
set_option linter.unusedSimpArgs false
attribute [local go_sem ↓] Go.wp_at_zero Go.wp_at_succ

theorem one_ef : ∀ (x : EfC), ∀ u ∈ efK.cs x, u.oneCell' = true := fun x u hu => by
  simp only [EfC.cs, List.mem_cons, List.not_mem_nil, or_false] at hu
  rcases hu with rfl | rfl | rfl | rfl | rfl | rfl | rfl | rfl | rfl | rfl | rfl | rfl | rfl | rfl | rfl | rfl | rfl | rfl <;> rfl
theorem infoEff : (Tryz.prog.info? 105).map (fun i => (i.zero.map fun z => z.cells.size, i.size, i.bytes)) = some (some 18, 18, 248) := by kernel_rfl
theorem kept_rowE {B : Nat} {w : World} {p : Option Addr} {c k : Nat} {l : List Ef} (h : Kept efK 105 B w (.slice p k c) k l) (hB : B ≤ w.heap.size) (hk : k ≤ 1000) : IsRow efK (· < w.heap.size) w p k c l := by
  obtain ⟨cs, h1, h2, h3, h4⟩ := h
  have hl : k ≤ c := by
    rcases h3.2 with ⟨e, h0⟩ | ⟨g, cap, cur, e, _, _, hc, _⟩
    · omega
    · cases e; exact hc
  refine ⟨h2.symm, hl, (show k * 248 ≤ 140737488351232 by omega), ?_⟩
  rcases h3.2 with ⟨e, h0⟩ | ⟨g, cap, cur, e, hg, hh, _⟩
  · exact .inl (List.eq_nil_of_length_eq_zero (h2.trans h0))
  · cases e
    refine .inr ⟨g, 0, rfl, (Array.getElem?_eq_some_iff.1 hh).1, fun j hj => ⟨cs[j]'(by omega), ?_, (h4 j (by omega) hj).same fun b q => ⟨Nat.lt_of_lt_of_le q hB, rfl⟩⟩⟩
    rw [Nat.zero_add]
    exact AtG.ofRow (K := efK) h3 j (by omega)
theorem names_all {a b : List Ef} {zs : List TB} (h1 : Inc zs) (h2 : ∀ x, x ∈ zs ↔ ∃ e ∈ a ++ b, e.nm.data.toList = x) : zs = nmsL a b := by
  refine Inc.eq h1 (nms_inc a b) fun x => ?_
  rw [h2, nms_mem]
  constructor
  · rintro ⟨e, he, rfl⟩
    rcases List.mem_append.1 he with h | h
    · exact .inl ⟨e, h, rfl⟩
    · exact .inr ⟨e, h, rfl⟩
  · rintro (⟨e, he, rfl⟩ | ⟨e, he, rfl⟩)
    · exact ⟨e, List.mem_append_left _ he, rfl⟩
    · exact ⟨e, List.mem_append_right _ he, rfl⟩
theorem run_appE {w : World} {B : Nat} {v : Value} {k : Nat} {l : List Ef} (hk : Kept efK 105 B w v k l) {a : Option Addr} {m c : Nat} {l2 : List Ef} (hr : IsRow efK (· < B) w a m c l2) (hB : B ≤ w.heap.size) (hn : k + m ≤ 1000) :
    ∃ (a' : Option Addr) (cap' : Nat) (w' : World), (Builtin.append_ #[30, 30] 30 #[v, .slice a m c]).run Tryz.prog w = .ok (.slice a' (k + m) cap') w' ∧ Kept efK 105 B w' (.slice a' (k + m) cap') (k + m) (l ++ l2) ∧ w.grownBy w' v.ownBlock := by
  obtain ⟨ti, hi, hrest⟩ : ∃ ti, Tryz.prog.info? 105 = some ti ∧ (ti.zero.map fun z => z.cells.size) = some 18 ∧ ti.size = 18 ∧ ti.bytes = 248 := by
    have h := infoEff
    cases hi : Tryz.prog.info? 105 with
    | none => rw [hi] at h; cases h
    | some ti => rw [hi] at h; simp only [Option.map_some, Option.some.injEq, Prod.mk.injEq] at h; exact ⟨ti, rfl, h.1, h.2.1, h.2.2⟩
  obtain ⟨z, hz, hzs⟩ : ∃ z, ti.zero = some z ∧ z.cells.size = 18 := by
    cases hz : ti.zero with
    | none => rw [hz] at hrest; cases hrest.1
    | some z => rw [hz] at hrest; exact ⟨z, rfl, by simpa using hrest.1⟩
  obtain ⟨cs, hl, hcl, hel⟩ := hr.cl
  obtain ⟨a', cap', w', h1, h2, h3, _⟩ := run_append_kept (K := efK) (P := Tryz.prog) (w := w) (ty := 30) Tryz.underlying30 hi hz hrest.2.1 (by rw [hrest.2.2]; omega) hzs one_ef hk c hcl (l2 := l2) hr.len.symm hel hB (by omega)
  exact ⟨a', cap', w', h1, h2, h3⟩
theorem wpList_append_runC {P : Program} {w : World} {ops : Array Oper} {rest : List Oper} {o : Oper} {a : Act} {Q : Exit → Act → World → Prop} (hgd : o.guard = none) (s x : Operand) (t t2 : TypeId)
    (ho : o.op = .call { callee := .builtin .append, args := #[s, x], argTypes := #[t, t2] }) (vs vx v' : Value) (w' : World) (hs : a.eval s = vs) (hx : a.eval x = vx)
    (hrun : (Builtin.append_ #[t, t2] o.type #[vs, vx]).run P w = .ok v' w') (h : wpList P ops Q rest (a.put o.dst v') w') : wpList P ops Q (o :: rest) a w := by
  refine wpList_plain hgd fun K hK => ?_
  unfold Oper.wp execOp
  simp only [ho, resolve, invoke, builtin, Sem.run_bind, Sem.run_pure, Result.andThen_ok, List.map_toArray, List.map_cons, List.map_nil, hs, hx, hrun]
  exact hK _ _ h
/-- Both lists, one behind the other, in memory of the call's own. -/
theorem both_rows (a : Option Addr) (n c : Nat) (la : List Ef) (a' : Option Addr) (n' c' : Nat) (lb : List Ef) (w : World) (hla : IsRow efK (· < w.heap.size) w a n c la) (hlb : IsRow efK (· < w.heap.size) w a' n' c' lb) (hn : n ≤ 30) (hn' : n' ≤ 30) :
    ∃ (a1 : Option Addr) (c1 : Nat) (w1 : World) (a2 : Option Addr) (c2 : Nat) (w2 : World),
      (Builtin.append_ #[30, 30] 30 #[.slice (some ⟨w.heap.size, 0, none⟩) 0 0, .slice a n c]).run Tryz.prog (w.alloc (.cells #[] 105)) = .ok (.slice a1 n c1) w1 ∧
      (Builtin.append_ #[30, 30] 30 #[.slice a1 n c1, .slice a' n' c']).run Tryz.prog w1 = .ok (.slice a2 (n + n') c2) w2 ∧
      IsRow efK (· < w2.heap.size) w2 a2 (n + n') c2 (la ++ lb) ∧ Below w.heap.size w w2 := by
  have b0 : Below w.heap.size w (w.alloc (.cells #[] 105)) := (Below.refl _ _).alloc (Nat.le_refl _) _
  have hk0 : Kept efK 105 w.heap.size (w.alloc (.cells #[] 105)) (.slice (some ⟨w.heap.size, 0, none⟩) 0 0) 0 [] := Kept.made #[] 0 (Nat.le_refl _) (Nat.zero_le _) rfl
  obtain ⟨a1, c1, w1, r1, hk1, hg1⟩ := run_appE hk0 (hla.same (S' := (· < w.heap.size)) fun b q => ⟨q, b0.block b q⟩) b0.size (by omega)
  rw [Nat.zero_add] at r1 hk1
  rw [List.nil_append] at hk1
  have b1 : Below w.heap.size w w1 := b0.trans (grown_below hg1 (fun r e => by cases e; exact Nat.le_refl _) b0.size)
  obtain ⟨a2, c2, w2, r2, hk2, hg2⟩ := run_appE hk1 (hlb.same (S' := (· < w.heap.size)) fun b q => ⟨q, b1.block b q⟩) b1.size (by omega)
  have b2 : Below w.heap.size w w2 := b1.trans (grown_below hg2 (fun r e => (hk1.own r e).1) b1.size)
  exact ⟨a1, c1, w1, a2, c2, w2, r1, r2, kept_rowE hk2 b2.size (by omega), b2⟩

end Go.Proofs.YtkljbfaemahchaaGreatDoor
