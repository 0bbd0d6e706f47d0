/-
  Plain: append to a slice without room: the row in the new block. No program in sight.
-/
import Derived.Test.YtkljbfaemahchaaGreatDoorRCIns
import Derived.Laws.Append
import Derived.Deep.AppendSrc
namespace Go.Proofs.YtkljbfaemahchaaGreatDoor
open Go Go.RowKit
set_option linter.unusedVariables false
set_option linter.unusedSimpArgs false

section
variable {C D : Type} (K : Kit C D)
/-- The slice of n things whose cells are those of cs. -/
structure Cl (w : World) (a : Option Addr) (n : Nat) (cs : List C) : Prop where
  len : cs.length = n
  at' : n = 0 ∨ ∃ ad, a = some ad ∧ ∀ t u, (cs.flatMap K.cs)[t]? = some u → w.cell? (ad.add t) = some u
variable {K}
theorem flat_len (cs : List C) : (cs.flatMap K.cs).length = cs.length * K.n := by
  induction cs with
  | nil => simp
  | cons c r ih => rw [List.flatMap_cons, List.length_append, ih, K.len, List.length_cons, Nat.add_mul]; omega
theorem Cl.ext {w w' : World} {a : Option Addr} {n : Nat} {cs : List C} (h : Cl K w a n cs) (hb : Below w.heap.size w w') : Cl K w' a n cs :=
  ⟨h.len, h.at'.imp id fun ⟨ad, ha, hc⟩ => ⟨ad, ha, fun t u hu => by
    have h1 := hc t u hu
    have hlt := World.block_lt_of_cell? w _ h1
    rw [World.cell?_of_block (w := w) (hb.block _ hlt)]
    exact h1⟩⟩
theorem Cl.none (w : World) (a : Option Addr) : Cl K w a 0 [] := ⟨rfl, .inl rfl⟩
theorem InRow.cl {T : Nat} {w : World} {g cap : Nat} {cs : List C} (h : InRow K T w g cap cs) (p m : Nat) (hm : p + m ≤ cs.length) : Cl K w (some ⟨g, p * K.n, none⟩) m ((cs.drop p).take m) := by
  have hl : ((cs.drop p).take m).length = m := by rw [List.length_take, List.length_drop]; omega
  refine ⟨hl, .inr ⟨_, rfl, flat_cells (K := K) fun j hj => ?_⟩⟩
  have h1 := h.at' (p + j) (by omega)
  rw [Nat.add_mul] at h1
  have e : ((cs.drop p).take m)[j] = cs[p + j] := by rw [List.getElem_take, List.getElem_drop]
  rw [e]
  exact h1
theorem InRow.ofFlat {T : Nat} {w : World} {g cap : Nat} {cs : List C} {cur : Array Value} (hg : w.heap[g]? = some (.cells cur T (0, 0))) (hs : cur.size = cap * K.n) (hc : cs.length ≤ cap) (hf : ∀ t, t < cs.length * K.n → cur[t]? = (cs.flatMap K.cs)[t]?) : InRow K T w g cap cs := by
  refine ⟨cur, hg, hs, hc, fun j hj i hi => ?_⟩
  rw [hf _ (by have : (j + 1) * K.n ≤ cs.length * K.n := Nat.mul_le_mul_right _ hj
               rw [Nat.succ_mul] at this; omega), flat_get K.cs K.n K.len cs j i hj hi]
theorem Cl.first {P : Program} {w : World} {a : Option Addr} {n c : Nat} {cs : List C} (h : Cl K w a n cs) : (Builtin.firstCells K.n n (.slice a n c)).run P w.drew = .ok (cs.flatMap K.cs).toArray w.drew := by
  have hl : (cs.flatMap K.cs).length = n * K.n := by rw [flat_len, h.len]
  cases a with
  | none =>
    have hn : n = 0 := by
      rcases h.at' with h0 | ⟨ad, ha, _⟩
      · exact h0
      · cases ha
    have hcs : cs = [] := List.eq_nil_of_length_eq_zero (by rw [h.len, hn])
    subst hcs
    exact run_firstCells_none w.drew K.n n n c
  | some ad =>
    refine run_firstCells_some w.drew K.n n ad n c _ hl fun t u hu => ?_
    rcases h.at' with h0 | ⟨ad', ha, hc⟩
    · have hcs : cs = [] := List.eq_nil_of_length_eq_zero (by rw [h.len, h0])
      rw [hcs] at hu; simp at hu
    · cases ha
      simpa using hc t u hu
theorem Cl.src {P : Program} {w : World} {a : Option Addr} {n c : Nat} {cs : List C} {t e : TypeId} (h : Cl K w a n cs) (ht : P.underlying t = some (.slice e)) (h1 : ∀ x, ∀ u ∈ K.cs x, u.oneCell' = true) : Src P K.n t (.slice a n c) n (cs.flatMap K.cs) w := by
  have hl : (cs.flatMap K.cs).length = n * K.n := by rw [flat_len, h.len]
  have ho : ∀ u ∈ cs.flatMap K.cs, u.oneCell' = true := fun u hu => by
    obtain ⟨x, _, hx⟩ := List.mem_flatMap.1 hu
    exact h1 x u hx
  cases a with
  | none =>
    have hn : n = 0 := by
      rcases h.at' with h0 | ⟨ad, ha, _⟩
      · exact h0
      · cases ha
    subst hn
    have hcs : cs = [] := List.eq_nil_of_length_eq_zero h.len
    subst hcs
    exact Src.ofNil w ht c
  | some ad =>
    refine Src.ofSlice w ht ad n c _ hl (fun t u hu => ?_) ho
    rcases h.at' with h0 | ⟨ad', ha, hc⟩
    · have hcs : cs = [] := List.eq_nil_of_length_eq_zero (by rw [h.len, h0])
      rw [hcs] at hu; simp at hu
    · cases ha
      exact hc t u hu
theorem step_append_run {P : Program} {w : World} {ops : Array Oper} {o : Oper} {a : Act} {K' : Act → World → Prop} {Q : Exit → Act → World → Prop} {E : Prop} (hgd : o.guard = none) (s x : Operand) (t : TypeId)
    (ho : o.op = .call { callee := .builtin .append, args := #[s, x], argTypes := #[t, t] }) (vs vx v' : Value) (w' : World) (hs : a.eval s = vs) (hx : a.eval x = vx)
    (hrun : (Builtin.append_ #[t, t] o.type #[vs, vx]).run P w = .ok v' w') (h : K' (a.put o.dst v') w') :
    if Region.wanted o (yielded ops a.tmps) = true then Oper.wp P o a w K' Q else E := by
  have hw : Region.wanted o (yielded ops a.tmps) = true := by simp [Region.wanted, hgd]
  rw [if_pos hw]
  unfold Oper.wp execOp
  simp only [ho, resolve, invoke, builtin, Sem.run_bind, Sem.run_pure, Result.andThen_ok, List.map_toArray, List.map_cons, List.map_nil, hs, hx, hrun]
  exact h
/-- There is no room: the row in the new block. -/
theorem run_grow {P : Program} {w : World} {t ty e : TypeId} {i : TypeInfo} {z : Value} (ht : P.underlying t = some (.slice e)) (hi : P.info? e = some i) (hz : i.zero = some z) (hsize : i.size = K.n) (hby : i.bytes ≤ 1000) (hzs : z.cells.size = K.n) (h1 : ∀ x, ∀ u ∈ K.cs x, u.oneCell' = true)
    (a : Option Addr) (n cap : Nat) (cs : List C) (ha : Cl K w a n cs) (a2 : Option Addr) (m c2 : Nat) (cs2 : List C) (ha2 : Cl K w a2 m cs2) (hg : cap < n + m) (hb : n + m ≤ 1000000) :
    ∃ (cap' : Nat) (o : Obj), (Builtin.append_ #[t, t] ty #[.slice a n cap, .slice a2 m c2]).run P w = .ok (.slice (some ⟨w.heap.size, 0, none⟩) (n + m) cap') (w.drew.alloc o) ∧ InRow K e (w.drew.alloc o) w.heap.size cap' (cs ++ cs2) ∧ n + m ≤ cap' := by
  have hfit : Builtin.nextslicecap (n + m) cap * i.bytes ≤ 281474976710656 := by
    have h2 := nextslicecap_le hg
    have h3 : Builtin.nextslicecap (n + m) cap * i.bytes ≤ (2 * (n + m)) * 1000 := Nat.mul_le_mul h2 hby
    omega
  have hf := ha.first (P := P) (c := cap)
  have hs := ha2.src (P := P) (c := c2) ht h1
  rw [← hsize] at hf hs
  have hr := run_append_grow_src (P := P) w t t ty e i z ht hi hz a n cap (cs.flatMap K.cs) hf _ m (cs2.flatMap K.cs) hs hg (by omega) hfit
  have hge := grownCap_ge w (n + m) cap e
  refine ⟨_, _, hr, ?_, hge⟩
  have hcl : (cs ++ cs2).length = n + m := by rw [List.length_append, ha.len, ha2.len]
  have hfl : ((cs.flatMap K.cs) ++ (cs2.flatMap K.cs)).length = (n + m) * K.n := by rw [List.length_append, flat_len, flat_len, ha.len, ha2.len, Nat.add_mul]
  refine InRow.ofFlat (cur := ((cs.flatMap K.cs ++ cs2.flatMap K.cs).toArray ++ Builtin.zeroCells z.cells (grownCap w (n + m) cap e - (n + m)))) (heap_alloc_new w.drew _) ?_ (by omega) fun u hu => ?_
  · rw [Array.size_append, size_zeroCells, List.size_toArray, hfl, hzs, ← Nat.add_mul]
    congr 1
    omega
  · rw [hcl, ← hfl] at hu
    rw [Array.getElem?_append_left (by simpa using hu), List.flatMap_append]
    simp
end
end Go.Proofs.YtkljbfaemahchaaGreatDoor
