/-
  A region that draws its order: operations that do not look at each other's values (calls, new blocks), in whatever order they come: what each of them has laid lies in blocks of its own. No program in sight.
-/
import Derived.Test.YthjlgpmajeafpaaGreatDoorBase
import Derived.Deep.RegionHeld
namespace Go.Proofs.YthjlgpmajeafpaaGreatDoor
open Go Go.RowKit
set_option linter.unusedVariables false
set_option linter.unusedSimpArgs false

def upd (x : Nat → Value) (j : Nat) (v : Value) : Nat → Value := fun k => if k = j then v else x k
/-- The operations that must come up ahead of number i. -/
def befo (ops : Array Oper) : Nat → Nat → List Nat
  | 0, _ => []
  | f + 1, i => match ops[i]? with
    | none => []
    | some o => o.after.toList.flatMap fun e => if Region.binds .any e then e.on :: befo ops f e.on else []
def backB (ops : Array Oper) : Bool := (List.range ops.size).all fun j => match ops[j]? with
  | none => true
  | some o => o.after.all fun e => decide (e.on < j)
theorem backB_spec {ops : Array Oper} (h : backB ops = true) (j : Nat) (o : Oper) (ho : ops[j]? = some o) : ∀ e ∈ o.after, e.on < j := by
  have hj : j < ops.size := (Array.getElem?_eq_some_iff.1 ho).1
  simp only [backB, List.all_eq_true, List.mem_range] at h
  have h1 := h j hj
  simp only [ho, Array.all_eq_true_iff_forall_mem, decide_eq_true_eq] at h1
  exact h1

section
variable {P : Program} {ops : Array Oper} {Q : Exit → Act → World → Prop} {S : World → Prop}
def Closed (ops : Array Oper) (listed : Array Bool) : Prop := ∀ (j : Nat) (o : Oper), ops[j]? = some o → listed.getD j true = true → ∀ e ∈ o.after, Region.binds .any e = true → listed.getD e.on false = true
theorem getD_any {listed : Array Bool} {j : Nat} (h : j < listed.size) (a b : Bool) : listed.getD j a = listed.getD j b := by
  simp [Array.getD_eq_getD_getElem?, Array.getElem?_eq_getElem h]
theorem befo_listed {listed : Array Bool} (hs : listed.size = ops.size) (hback : backB ops = true) (hc : Closed ops listed) : ∀ (f i : Nat) (o : Oper), ops[i]? = some o → (∀ e ∈ o.after, Region.binds .any e = true → listed.getD e.on false = true) → ∀ t ∈ befo ops f i, listed.getD t false = true
  | 0, _, _, _, _, t, ht => by simp [befo] at ht
  | f + 1, i, o, ho, hd, t, ht => by
    simp only [befo, ho, List.mem_flatMap] at ht
    obtain ⟨e, he, ht⟩ := ht
    have he' : e ∈ o.after := by simpa using he
    split at ht
    · rename_i hb
      have h1 := hd e he' hb
      rcases List.mem_cons.1 ht with rfl | ht
      · exact h1
      · have hlt : e.on < ops.size := by
          have := backB_spec hback i o ho e he'
          have := (Array.getElem?_eq_some_iff.1 ho).1
          omega
        refine befo_listed hs hback hc f e.on _ (Array.getElem?_eq_getElem hlt) (hc e.on _ (Array.getElem?_eq_getElem hlt) ?_) t ht
        rw [getD_any (by omega) true false]; exact h1
    · cases ht

theorem wpAnyH_indep (idx : List Nat) (A : (Nat → Value) → Act) (Post : Nat → Value → Nat → Nat → World → Prop) (N F fuel1 : Nat) (L1 : Array Bool)
    (hback : backB ops = true) (hnd : idx.Nodup) (hlt : ∀ i ∈ idx, i < ops.size) (hL1 : L1.size = ops.size) (hL1i : ∀ i ∈ idx, L1.getD i true = true)
    (hrest : ∀ i, i < ops.size → i ∉ idx → L1.getD i true = false → ∀ t ∈ idx, t ∈ befo ops F i)
    (stab : ∀ j v lo hi w w', Post j v lo hi w → hi ≤ w.heap.size → Below w.heap.size w w' → Post j v lo hi w')
    (hop : ∀ (j : Nat) (hj : j < idx.length) (x : Nat → Value) (w : World) (K : Act → World → Prop), S w → N ≤ w.heap.size → Shut (∀ v w', S w' → Below w.heap.size w w' → Post j v w.heap.size w'.heap.size w' → K (A (upd x j v)) w') → wpOp P ops Q idx[j] K (A x) w)
    (hfin : ∀ (x : Nat → Value) (lo hi : Nat → Nat) (w : World), S w → (∀ j < idx.length, Post j (x j) (lo j) (hi j) w ∧ N ≤ lo j ∧ lo j ≤ hi j ∧ hi j ≤ w.heap.size) → (∀ j < idx.length, ∀ k < idx.length, j ≠ k → hi j ≤ lo k ∨ hi k ≤ lo j) → wpAnyH P .any ops Q S fuel1 L1 (A x) w) :
    ∀ (fuel : Nat) (rem : List Nat) (listed : Array Bool) (x : Nat → Value) (lo hi : Nat → Nat) (w : World), fuel = rem.length + fuel1 → rem.Nodup → (∀ j ∈ rem, j < idx.length) → listed.size = ops.size → Closed ops listed →
      (∀ i, i ∉ idx → listed.getD i true = L1.getD i true) → (∀ j (hj : j < idx.length), j ∈ rem → listed.getD idx[j] true = false) → (∀ j (hj : j < idx.length), j ∉ rem → listed.getD idx[j] true = true) → S w → N ≤ w.heap.size →
      (∀ j < idx.length, j ∉ rem → Post j (x j) (lo j) (hi j) w ∧ N ≤ lo j ∧ lo j ≤ hi j ∧ hi j ≤ w.heap.size) → (∀ j < idx.length, ∀ k < idx.length, j ∉ rem → k ∉ rem → j ≠ k → hi j ≤ lo k ∨ hi k ≤ lo j) →
      wpAnyH P .any ops Q S fuel listed (A x) w := by
  intro fuel
  induction fuel with
  | zero =>
    intro rem listed x lo hi w hf hrn hrl hsz hcl hother hun hli hS hN hfacts hdis
    have hr0 : rem = [] := List.eq_nil_of_length_eq_zero (by omega)
    subst hr0
    have hL : listed = L1 := by
      refine Array.ext (by omega) fun i h1 h2 => ?_
      have e : listed.getD i true = L1.getD i true := by
        by_cases hi : i ∈ idx
        · obtain ⟨j, hj, rfl⟩ := List.getElem_of_mem hi
          rw [hli j hj (by simp), hL1i _ hi]
        · exact hother i hi
      simpa [Array.getD_eq_getD_getElem?, Array.getElem?_eq_getElem h1, Array.getElem?_eq_getElem h2] using e
    have hf1 : fuel1 = 0 := by omega
    subst hf1
    rw [hL]
    exact hfin x lo hi w hS (fun j hj => hfacts j hj (by simp)) (fun j hj k hk hne => hdis j hj k hk (by simp) (by simp) hne)
  | succ fuel ih =>
    intro rem listed x lo hi w hf hrn hrl hsz hcl hother hun hli hS hN hfacts hdis
    cases hr0 : rem with
    | nil =>
      subst hr0
      have hL : listed = L1 := by
        refine Array.ext (by omega) fun i h1 h2 => ?_
        have e : listed.getD i true = L1.getD i true := by
          by_cases hi : i ∈ idx
          · obtain ⟨j, hj, rfl⟩ := List.getElem_of_mem hi
            rw [hli j hj (by simp), hL1i _ hi]
          · exact hother i hi
        simpa [Array.getD_eq_getD_getElem?, Array.getElem?_eq_getElem h1, Array.getElem?_eq_getElem h2] using e
      have hf1 : fuel1 = fuel + 1 := by simpa using hf.symm
      subst hf1
      rw [hL]
      exact hfin x lo hi w hS (fun j hj => hfacts j hj (by simp)) (fun j hj k hk hne => hdis j hj k hk (by simp) (by simp) hne)
    | cons r0 rs =>
      have hr0m : r0 ∈ rem := by rw [hr0]; exact List.mem_cons_self ..
      refine ⟨fun h0 => ?_, fun i hir => ?_⟩
      · exfalso
        exact ready_ne_nil (backB_spec hback) hsz (hlt _ (List.getElem_mem (hrl r0 hr0m))) (hun r0 (hrl r0 hr0m) hr0m) h0
      · obtain ⟨h0, o, ho, hall⟩ := mem_ready.1 hir
        have his : i < ops.size := (Array.getElem?_eq_some_iff.1 ho).1
        have hidx : i ∈ idx := by
          by_cases hi2 : i ∈ idx
          · exact hi2
          · exfalso
            have h1 := hrest i his hi2 (by rw [← hother i hi2]; exact h0) (idx[r0]'(hrl r0 hr0m)) (List.getElem_mem (hrl r0 hr0m))
            have h2 := befo_listed hsz hback hcl F i o ho hall _ h1
            have h3 := hun r0 (hrl r0 hr0m) hr0m
            rw [getD_any (by rw [hsz]; exact hlt _ (List.getElem_mem (hrl r0 hr0m))) false true, h3] at h2
            cases h2
        obtain ⟨j, hj, rfl⟩ := List.getElem_of_mem hidx
        have hjr : j ∈ rem := by
          by_cases h : j ∈ rem
          · exact h
          · rw [hli j hj h] at h0; cases h0
        have hinj : ∀ k (hk : k < idx.length), k ≠ j → idx[k] ≠ idx[j] := fun k hk hne e => hne ((List.getElem_inj hnd).1 e)
        have hset : ∀ t, t ≠ idx[j] → (listed.setIfInBounds idx[j] true).getD t true = listed.getD t true := fun t ht => getD_set_ne true (Ne.symm ht)
        have hsj : (listed.setIfInBounds idx[j] true).getD idx[j] true = true := by
          simp [Array.getD_eq_getD_getElem?, hsz, his]
        refine hop j hj x w _ hS hN (fun v w' hS' hb hp => ⟨hS', ?_⟩)
        refine ih (rem.erase j) _ (upd x j v) (fun k => if k = j then w.heap.size else lo k) (fun k => if k = j then w'.heap.size else hi k) w' ?_ (hrn.erase j) (fun k hk => hrl k (List.mem_of_mem_erase hk)) (by simpa using hsz) ?_ ?_ ?_ ?_ hS' (Nat.le_trans hN hb.size) ?_ ?_
        · rw [List.length_erase_of_mem hjr]
          have : 0 < rem.length := List.length_pos_of_mem hjr
          omega
        · intro t ot hot htl e he hbd
          by_cases ht : t = idx[j]
          · subst ht
            rw [ho] at hot; cases hot
            exact getD_set_true (hall e he hbd)
          · rw [hset t ht] at htl
            exact getD_set_true (hcl t ot hot htl e he hbd)
        · intro t ht
          rw [hset t (fun e => ht (by rw [e]; exact List.getElem_mem hj))]
          exact hother t ht
        · intro k hk hkr
          have hkj : k ≠ j := fun e => by subst e; exact (List.Nodup.not_mem_erase hrn) hkr
          rw [hset _ (hinj k hk hkj)]
          exact hun k hk (List.mem_of_mem_erase hkr)
        · intro k hk hkr
          by_cases hkj : k = j
          · subst hkj; exact hsj
          · rw [hset _ (hinj k hk hkj)]
            exact hli k hk (fun h => hkr ((List.mem_erase_of_ne hkj).2 h))
        · intro k hk hkr
          by_cases hkj : k = j
          · subst hkj
            simp only [upd, if_true]
            exact ⟨hp, hN, hb.size, Nat.le_refl _⟩
          · simp only [upd, if_neg hkj]
            obtain ⟨q1, q2, q3, q4⟩ := hfacts k hk (fun h => hkr ((List.mem_erase_of_ne hkj).2 h))
            exact ⟨stab k _ _ _ w w' q1 q4 hb, q2, q3, Nat.le_trans q4 hb.size⟩
        · intro k hk t ht hkr htr hne
          have hk2 : k ≠ j → k ∉ rem := fun hkj h => hkr ((List.mem_erase_of_ne hkj).2 h)
          have ht2 : t ≠ j → t ∉ rem := fun hkj h => htr ((List.mem_erase_of_ne hkj).2 h)
          by_cases hkj : k = j
          · subst hkj
            have htj : t ≠ k := Ne.symm hne
            simp only [if_true, if_neg htj]
            exact .inr (hfacts t ht (ht2 htj)).2.2.2
          · by_cases htj : t = j
            · subst htj
              simp only [if_true, if_neg hkj]
              exact .inl (hfacts k hk (hk2 hkj)).2.2.2
            · simp only [if_neg hkj, if_neg htj]
              exact hdis k hk t ht (hk2 hkj) (ht2 htj) hne
/-- All that is asked of the region's text, as a Bool. -/
def indepB (ops : Array Oper) (idx : List Nat) (listed L1 : Array Bool) (F : Nat) : Bool :=
  backB ops && (decide idx.Nodup && (idx.all (fun i => decide (i < ops.size)) && (decide (L1.size = ops.size) && (idx.all (fun i => L1.getD i true) && (decide (listed.size = ops.size) &&
    ((List.range ops.size).all (fun i => idx.contains i || L1.getD i true || idx.all fun t => (befo ops F i).contains t) &&
    ((List.range ops.size).all (fun j => !listed.getD j true || match ops[j]? with
      | none => true
      | some o => o.after.all fun e => !Region.binds .any e || listed.getD e.on false) &&
    ((List.range ops.size).all (fun i => idx.contains i || listed.getD i true == L1.getD i true) && idx.all fun i => !listed.getD i true))))))))
def putAll : Act → List Nat → Nat → (Nat → Value) → Act
  | a, [], _, _ => a
  | a, d :: r, k, x => putAll (a.put (some d) (x k)) r (k + 1) x
theorem wpAnyH_indep' {fuel : Nat} {listed : Array Bool} {a : Act} {w : World} (idx ds : List Nat) (Post : Nat → Value → Nat → Nat → World → Prop) (N F fuel1 : Nat) (L1 : Array Bool)
    (hchk : indepB ops idx listed L1 F = true) (hf : fuel = idx.length + fuel1) (ha : putAll a ds 0 (fun _ => undef) = a) (hS : S w) (hN : N ≤ w.heap.size)
    (stab : ∀ j v lo hi w w', Post j v lo hi w → hi ≤ w.heap.size → Below w.heap.size w w' → Post j v lo hi w')
    (hop : ∀ (j : Nat) (hj : j < idx.length) (x : Nat → Value) (w : World) (K : Act → World → Prop), S w → N ≤ w.heap.size → Shut (∀ v w', S w' → Below w.heap.size w w' → Post j v w.heap.size w'.heap.size w' → K (putAll a ds 0 (upd x j v)) w') → wpOp P ops Q idx[j] K (putAll a ds 0 x) w)
    (hfin : ∀ (x : Nat → Value) (lo hi : Nat → Nat) (w : World), S w → (∀ j < idx.length, Post j (x j) (lo j) (hi j) w ∧ N ≤ lo j ∧ lo j ≤ hi j ∧ hi j ≤ w.heap.size) → (∀ j < idx.length, ∀ k < idx.length, j ≠ k → hi j ≤ lo k ∨ hi k ≤ lo j) → wpAnyH P .any ops Q S fuel1 L1 (putAll a ds 0 x) w) :
    wpAnyH P .any ops Q S fuel listed a w := by
  simp only [indepB, Bool.and_eq_true, decide_eq_true_eq, List.all_eq_true, List.mem_range, Bool.or_eq_true, List.contains_iff_mem, beq_iff_eq, Bool.not_eq_true'] at hchk
  obtain ⟨h1, h2, h3, h4, h5, h6, h7, h8, h9, h10⟩ := hchk
  have key := wpAnyH_indep (P := P) (ops := ops) (Q := Q) (S := S) idx (fun x => putAll a ds 0 x) Post N F fuel1 L1 h1 h2 h3 h4 h5 (fun i hi hni hl t ht => by
    rcases h7 i hi with (h | h) | h
    · exact absurd h hni
    · rw [hl] at h; cases h
    · exact h t ht) stab hop hfin fuel (List.range idx.length) listed (fun _ => undef) (fun _ => 0) (fun _ => 0) w (by simpa using hf) List.nodup_range (fun j hj => by simpa using hj) h6 (fun j o ho hl e he hb => by
      have hj : j < ops.size := (Array.getElem?_eq_some_iff.1 ho).1
      rcases h8 j hj with h | h
      · rw [hl] at h; cases h
      · simp only [ho, Array.all_eq_true_iff_forall_mem, Bool.or_eq_true, Bool.not_eq_true'] at h
        rcases h e he with h | h
        · rw [hb] at h; cases h
        · exact h) (fun i hi => by
      by_cases hs : i < ops.size
      · rcases h9 i hs with h | h
        · exact absurd h hi
        · exact h
      · simp [Array.getD_eq_getD_getElem?, Array.getElem?_eq_none (show listed.size ≤ i by omega), Array.getElem?_eq_none (show L1.size ≤ i by omega)])
    (fun j hj _ => h10 _ (List.getElem_mem hj)) (fun j hj h => absurd (List.mem_range.2 hj) h) hS hN (fun j hj h => absurd (List.mem_range.2 hj) h) (fun j hj k hk h _ _ => absurd (List.mem_range.2 hj) h)
  rwa [ha] at key
theorem indep_step {i : Nat} {o : Oper} {a : Act} {w : World} {K : Act → World → Prop} {A : Value → Act} {R : Value → World → Prop} (ho : ops[i]? = some o) (hK : Shut (∀ v w', S w' → Below w.heap.size w w' → R v w' → K (A v) w'))
    (h : ∀ K' : Act → World → Prop, Shut (∀ v w', S w' → Below w.heap.size w w' → R v w' → K' (A v) w') → if Region.wanted o (yielded ops a.tmps) = true then Oper.wp P o a w K' Q else K' (a.put o.dst undef) w) : wpOp P ops Q i K a w :=
  wpOp_step ho (fun K' hK' => h K' (fun v w' h1 h2 h3 => hK' _ _ (hK v w' h1 h2 h3)))
end
end Go.Proofs.YthjlgpmajeafpaaGreatDoor
