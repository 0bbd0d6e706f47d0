/-
  slices.SortFunc over fields by their names, where there is one at most, and slices.ContainsFunc where there is none: nothing is moved. No conditions.
-/
import Derived.Test.YtcejackabdmpkaaGreatDoorG1Mrg
import Derived.Test.YtcejackabdmpkaaGreatDoorProg
import Derived.Tactics
import Derived.Tactics2
import Derived.Lib.SlicesCompact
import Derived.Test.YtcejackabdmpkaaGreatDoorG6Mrg
import Derived.Test.YtcejackabdmpkaaGreatDoorShelf4
import Derived.Sort.OwnSortedInts
import Derived.Deep.Upon
namespace Go.Proofs.YtcejackabdmpkaaGreatDoor
open Go Go.RowKit
set_option linter.unusedVariables false
set_option linter.unusedSimpArgs false

def LenPost (w : World) (e : Ending) (w' : World) : Prop := ∃ k : Int, e = .returned (.int .i64 k) ∧ w = w'
set_option maxRecDepth 100000 in
theorem len64_0 (w : World) : Calls Tryz.prog 138 #[.int .u64 0] w (LenPost w) := by
  go_enter Tryz.func138, Tryz.ntmps138
  go_wp2
  go_ret
  exact ⟨_, rfl, rfl⟩
set_option maxRecDepth 100000 in
theorem len64_1 (w : World) : Calls Tryz.prog 138 #[.int .u64 1] w (LenPost w) := by
  go_enter Tryz.func138, Tryz.ntmps138
  go_wp2
  go_ret
  exact ⟨_, rfl, rfl⟩
theorem len_0 (w : World) : Calls Tryz.prog 106 #[.int .u64 0] w (LenPost w) := by
  go_enter Tryz.func106, Tryz.ntmps106
  go_wp2_with (go_at_call 138; refine (len64_0 _).mono ?_; rintro e w' ⟨k, rfl, rfl⟩)
  go_ret
  exact ⟨k, rfl, rfl⟩
theorem len_1 (w : World) : Calls Tryz.prog 106 #[.int .u64 1] w (LenPost w) := by
  go_enter Tryz.func106, Tryz.ntmps106
  go_wp2_with (go_at_call 138; refine (len64_1 _).mono ?_; rintro e w' ⟨k, rfl, rfl⟩)
  go_ret
  exact ⟨k, rfl, rfl⟩
set_option maxRecDepth 100000 in
theorem insF_call (a : Option Addr) (n c : Nat) (v : Value) (w : World) (hn : n ≤ 1) : Calls Tryz.prog 149 #[.slice a n c, .int .i64 0, .int .i64 n, v] w fun e w' => e = .returned (.tuple #[]) ∧ w = w' := by
  have h1 : ¬ (1 : Int) < (n : Int) := by omega
  go_enter Tryz.func149, Tryz.ntmps149
  go_wp2
  go_loopw [8] (fun i wr => i = .int .i64 1 ∧ wr = w) (fun _ _ => 0)
  case atStart => exact ⟨rfl, rfl⟩
  case round =>
    obtain ⟨rfl, rfl⟩ := hrel
    go_wp2
    go_end0
    exact ⟨rfl, rfl⟩
set_option maxRecDepth 100000 in
theorem pdqF_call (a : Option Addr) (n c : Nat) (k : Int) (v : Value) (w : World) (hn : n ≤ 1) : Calls Tryz.prog 118 #[.slice a n c, .int .i64 0, .int .i64 n, .int .i64 k, v] w fun e w' => e = .returned (.tuple #[]) ∧ w = w' := by
  have h1 : (n : Int) ≤ 12 := by omega
  have HI := hid (insF_call a n c v w hn)
  go_enter Tryz.func118, Tryz.ntmps118
  go_wp2
  go_loopw [1, 2] (fun p q wr => p = .int .i64 0 ∧ q = .int .i64 n ∧ wr = w) (fun _ _ _ => 0)
  case atStart => exact ⟨rfl, rfl, rfl⟩
  case round =>
    obtain ⟨rfl, rfl, rfl⟩ := hrel
    go_wp2_with (go_at_call 149; refine HI.out.mono ?_; rintro e w' ⟨rfl, rfl⟩)
    (try simp only [Exit.inBlock, Exit.then])
    refine bodyPost_ret (results_none rfl _ _ _) rfl ?_
    exact ⟨rfl, rfl⟩
theorem sortF0_call (a : Option Addr) (c : Nat) (v : Value) (w : World) : Calls Tryz.prog 86 #[.slice a 0 c, v] w fun e w' => e = .returned (.tuple #[]) ∧ w = w' := by
  have HP := hid (fun k => pdqF_call a 0 c k v w (by omega))
  go_enter Tryz.func86, Tryz.ntmps86
  go_wp2_with (first
    | (go_at_call 106; refine (len_0 _).mono ?_; rintro e w' ⟨k, rfl, rfl⟩)
    | (go_at_call 118; refine (HP.out _).mono ?_; rintro e w' ⟨rfl, rfl⟩))
  go_end0
  exact ⟨rfl, rfl⟩
theorem sortF1_call (a : Option Addr) (c : Nat) (v : Value) (w : World) : Calls Tryz.prog 86 #[.slice a 1 c, v] w fun e w' => e = .returned (.tuple #[]) ∧ w = w' := by
  have HP := hid (fun k => pdqF_call a 1 c k v w (by omega))
  go_enter Tryz.func86, Tryz.ntmps86
  go_wp2_with (first
    | (go_at_call 106; refine (len_1 _).mono ?_; rintro e w' ⟨k, rfl, rfl⟩)
    | (go_at_call 118; refine (HP.out _).mono ?_; rintro e w' ⟨rfl, rfl⟩))
  go_end0
  exact ⟨rfl, rfl⟩
set_option maxRecDepth 100000 in
theorem idxF0_call (a : Option Addr) (c : Nat) (v : Value) (w : World) : Calls Tryz.prog 117 #[.slice a 0 c, v] w fun e w' => e = .returned (.int .i64 (-1)) ∧ w = w' := by
  go_enter Tryz.func117, Tryz.ntmps117
  go_wp2
  go_loopw [8] (fun i wr => i = .int .i64 0 ∧ wr = w) (fun _ _ => 0)
  case atStart => exact ⟨rfl, rfl⟩
  case round =>
    obtain ⟨rfl, rfl⟩ := hrel
    go_wp2
    go_ret
    exact ⟨rfl, rfl⟩
theorem hasF0_call (a : Option Addr) (c : Nat) (v : Value) (w : World) : Calls Tryz.prog 84 #[.slice a 0 c, v] w fun e w' => e = .returned (.bool false) ∧ w = w' := by
  go_enter Tryz.func84, Tryz.ntmps84
  go_wp2_with (go_at_call 117; refine (idxF0_call _ _ _ _).mono ?_; rintro e w' ⟨rfl, rfl⟩)
  go_ret
  exact ⟨rfl, rfl⟩
end Go.Proofs.YtcejackabdmpkaaGreatDoor

/-
  Plain: the different elements of two lists of ints, in order: sorted, then without repetitions. No program in sight.
-/
namespace Go.Proofs.YtcejackabdmpkaaGreatDoor
open Go
set_option linter.unusedVariables false
set_option linter.unusedSimpArgs false

def uniL (a b : List Int) : List Int := Lib.compact ((a ++ b).mergeSort fun x y => decide (x ≤ y))
theorem compact_up (d : Array Int) (hs : ∀ i j, i ≤ j → j < d.size → d[i]! ≤ d[j]!) : ∀ m, m ≤ d.size → (Lib.compactUpTo d m).Pairwise (· < ·) ∧ ∀ x, x ∈ Lib.compactUpTo d m ↔ ∃ j, j < m ∧ d[j]! = x
  | 0, _ => by simp [Lib.compactUpTo]
  | m + 1, h => by
    obtain ⟨h1, h2⟩ := compact_up d hs m (by omega)
    rw [Lib.compactUpTo_succ]
    by_cases hk : Lib.keeps d m = true
    · rw [if_pos hk]
      refine ⟨List.pairwise_append.2 ⟨h1, by simp, fun x hx y hy => ?_⟩, fun x => ?_⟩
      · obtain rfl : y = d[m]! := by simpa using hy
        obtain ⟨j, hj, rfl⟩ := (h2 x).1 hx
        have h3 : m = 0 ∨ d[m]! ≠ d[m - 1]! := by simpa [Lib.keeps] using hk
        have h4 : d[m]! ≠ d[m - 1]! := h3.resolve_left (by omega)
        have h5 := hs j (m - 1) (by omega) (by omega)
        have h6 := hs (m - 1) m (by omega) (by omega)
        omega
      · rw [List.mem_append, h2]
        constructor
        · rintro (⟨j, hj, e⟩ | hx)
          · exact ⟨j, by omega, e⟩
          · exact ⟨m, by omega, by simpa using (by simpa using hx : x = d[m]!).symm⟩
        · rintro ⟨j, hj, e⟩
          rcases Nat.lt_or_ge j m with g | g
          · exact .inl ⟨j, g, e⟩
          · obtain rfl : j = m := by omega
            exact .inr (by simp [e])
    · rw [if_neg hk, List.append_nil]
      refine ⟨h1, fun x => ?_⟩
      rw [h2]
      constructor
      · rintro ⟨j, hj, e⟩
        exact ⟨j, by omega, e⟩
      · rintro ⟨j, hj, e⟩
        rcases Nat.lt_or_ge j m with g | g
        · exact ⟨j, g, e⟩
        · obtain rfl : j = m := by omega
          have h3 : ¬ (j = 0 ∨ d[j]! ≠ d[j - 1]!) := by simpa [Lib.keeps] using hk
          have h4 : d[j]! = d[j - 1]! := Classical.byContradiction fun g => h3 (.inr g)
          exact ⟨j - 1, by omega, by rw [← h4]; exact e⟩
theorem compact_sorted {l : List Int} (h : l.Pairwise (· ≤ ·)) : (Lib.compact l).Pairwise (· < ·) ∧ ∀ x, x ∈ Lib.compact l ↔ x ∈ l := by
  have hs : ∀ i j, i ≤ j → j < l.toArray.size → l.toArray[i]! ≤ l.toArray[j]! := fun i j hij hj => by
    have hj' : j < l.length := by simpa using hj
    rw [getElem!_pos l.toArray i (by simp; omega), getElem!_pos l.toArray j hj, List.getElem_toArray, List.getElem_toArray]
    rcases Nat.eq_or_lt_of_le hij with e | e
    · subst e; exact Int.le_refl _
    · exact List.pairwise_iff_getElem.1 h i j (by omega) hj' e
  obtain ⟨h1, h2⟩ := compact_up l.toArray hs l.length (by simp)
  refine ⟨h1, fun x => ?_⟩
  rw [Lib.compact, h2, List.mem_iff_getElem]
  constructor
  · rintro ⟨j, hj, e⟩
    rw [getElem!_pos l.toArray j (by simpa using hj), List.getElem_toArray] at e
    exact ⟨j, hj, e⟩
  · rintro ⟨j, hj, e⟩
    refine ⟨j, hj, ?_⟩
    rw [getElem!_pos l.toArray j (by simpa using hj), List.getElem_toArray]
    exact e
theorem sort_le (l : List Int) : (l.mergeSort fun x y => decide (x ≤ y)).Pairwise (· ≤ ·) := by
  have h := List.pairwise_mergeSort (le := fun x y : Int => decide (x ≤ y)) (fun a b c h1 h2 => by simp at *; omega) (fun a b => by simp; omega) l
  exact h.imp fun {a b} hab => by simpa using hab
theorem uniL_lt (a b : List Int) : (uniL a b).Pairwise (· < ·) := (compact_sorted (sort_le _)).1
theorem uniL_mem (a b : List Int) (x : Int) : x ∈ uniL a b ↔ x ∈ a ∨ x ∈ b := by
  rw [uniL, (compact_sorted (sort_le _)).2, List.mem_mergeSort, List.mem_append]
/-- Lists without repetitions and with the same elements are of one length. -/
theorem nodup_le : ∀ {l1 l2 : List Int}, l1.Pairwise (· ≠ ·) → (∀ x, x ∈ l1 → x ∈ l2) → l1.length ≤ l2.length
  | [], _, _, _ => Nat.zero_le _
  | x :: r, l2, h, hm => by
    have h' := List.pairwise_cons.1 h
    have hx := hm x (List.mem_cons_self ..)
    have h2 := nodup_le (l1 := r) (l2 := l2.erase x) h'.2 fun y hy => (List.mem_erase_of_ne (fun e => h'.1 y hy e.symm)).2 (hm y (List.mem_cons_of_mem _ hy))
    have h3 := List.length_erase_of_mem hx
    have h4 := List.length_pos_of_mem hx
    simp only [List.length_cons]
    omega
theorem nodup_len {l1 l2 : List Int} (h1 : l1.Pairwise (· ≠ ·)) (h2 : l2.Pairwise (· ≠ ·)) (h : ∀ x, x ∈ l1 ↔ x ∈ l2) : l1.length = l2.length :=
  Nat.le_antisymm (nodup_le h1 fun x hx => (h x).1 hx) (nodup_le h2 fun x hx => (h x).2 hx)
/-- A list whose ints increase is its own union. -/
theorem inc_eq : ∀ {l1 l2 : List Int}, l1.Pairwise (· < ·) → l2.Pairwise (· < ·) → (∀ x, x ∈ l1 ↔ x ∈ l2) → l1 = l2 := fun {l1 l2} h1 h2 h => by
  have hp : l1.Perm l2 := by
    have hl := nodup_len (h1.imp fun {a b} hab => by omega) (h2.imp fun {a b} hab => by omega) h
    have key : ∀ {a b : List Int}, a.Pairwise (· ≠ ·) → a.length = b.length → (∀ x, x ∈ a → x ∈ b) → a.Perm b := by
      intro a
      induction a with
      | nil => intro b _ hl _; rw [List.eq_nil_of_length_eq_zero hl.symm]
      | cons x r ih =>
        intro b hn hl hm
        have hn' := List.pairwise_cons.1 hn
        have hx := hm x (List.mem_cons_self ..)
        have h3 := List.length_erase_of_mem hx
        have h4 := ih (b := b.erase x) hn'.2 (by simp at hl; omega) fun y hy => (List.mem_erase_of_ne (fun e => hn'.1 y hy e.symm)).2 (hm y (List.mem_cons_of_mem _ hy))
        exact (List.Perm.cons x h4).trans (List.perm_cons_erase hx).symm
    exact key (h1.imp fun {a b} hab => by omega) hl fun x hx => (h x).1 hx
  exact List.Perm.eq_of_pairwise (le := fun (a b : Int) => a < b) (fun a b _ _ hab hba => by omega) h1 h2 hp
end Go.Proofs.YtcejackabdmpkaaGreatDoor

/-
  slices.Sort and slices.Compact over ints at a row of the call's own; message.union of ints: the union, in order. Conditions: the slices can be read as ints and are not too long.
-/
namespace Go.Proofs.YtcejackabdmpkaaGreatDoor
open Go Go.RowKit Go.Shelf Go.Sort
set_option linter.unusedVariables false
set_option linter.unusedSimpArgs false

theorem wpList_append_none {P : Program} {w : World} {ops : Array Oper} {rest : List Oper} {o : Oper} {a : Act} {Q : Exit → Act → World → Prop} (hgd : o.guard = none) (s x : Operand) (t : TypeId)
    (ho : o.op = .call { callee := .builtin .append, args := #[s, x], argTypes := #[t, t] })
    (e : TypeId) (i : TypeInfo) (ht : P.underlying t = some (.slice e)) (hi : P.info? e = some i)
    (v : Value) (B n : Nat) (xs : List Value) (hs : a.eval s = v) (hv : w.ownsRow B e 1 v n xs) (ax : Option Addr) (c : Nat) (hx : a.eval x = .slice ax 0 c)
    (h : wpList P ops Q rest (a.put o.dst v) w) : wpList P ops Q (o :: rest) a w := by
  obtain ⟨base, sLen, sCap, hle, rfl⟩ : ∃ base sLen sCap, sLen ≤ sCap ∧ v = .slice base sLen sCap := by
    rcases hv.2 with ⟨rfl, _⟩ | ⟨g, cap, cur, rfl, _, _, h1, _⟩
    · exact ⟨none, 0, 0, Nat.le_refl _, rfl⟩
    · exact ⟨_, _, _, h1, rfl⟩
  refine wpList_plain hgd fun K hK => ?_
  have hsrc : Src P i.size t (.slice ax 0 c) 0 [] w := by
    cases ax with
    | none => exact Src.ofNil w ht c
    | some ad => exact Src.ofSlice w ht ad 0 c [] (by simp) (fun j u hu => by simp at hu) (fun u hu => by cases hu)
  have hrun := run_append_nothing (P := P) w t t o.type e i ht hi base sLen sCap hle _ hsrc
  unfold Oper.wp
  simp [execOp, ho, resolve, invoke, builtin, hs, hx, hrun, Result.andThen]
  exact hK _ _ h

set_option maxRecDepth 100000 in
theorem insI_call (a : Option Addr) (c : Nat) (w : World) : Calls Tryz.prog 176 #[.slice a 0 c, .int .i64 0, .int .i64 0] w fun e w' => e = .returned (.tuple #[]) ∧ w = w' := by
  go_enter Tryz.func176, Tryz.ntmps176
  go_wp2
  go_loopw [6] (fun i wr => i = .int .i64 1 ∧ wr = w) (fun _ _ => 0)
  case atStart => exact ⟨rfl, rfl⟩
  case round =>
    obtain ⟨rfl, rfl⟩ := hrel
    go_wp2
    go_end0
    exact ⟨rfl, rfl⟩
set_option maxRecDepth 100000 in
theorem pdqI_call (a : Option Addr) (c : Nat) (k : Int) (w : World) : Calls Tryz.prog 123 #[.slice a 0 c, .int .i64 0, .int .i64 0, .int .i64 k] w fun e w' => e = .returned (.tuple #[]) ∧ w = w' := by
  have HI := hid (insI_call a c w)
  go_enter Tryz.func123, Tryz.ntmps123
  go_wp2
  go_loopw [1, 2] (fun p q wr => p = .int .i64 0 ∧ q = .int .i64 0 ∧ wr = w) (fun _ _ _ => 0)
  case atStart => exact ⟨rfl, rfl, rfl⟩
  case round =>
    obtain ⟨rfl, rfl, rfl⟩ := hrel
    go_wp2_with (go_at_call 176; refine HI.out.mono ?_; rintro e w' ⟨rfl, rfl⟩)
    (try simp only [Exit.inBlock, Exit.then])
    refine bodyPost_ret (results_none rfl _ _ _) rfl ?_
    exact ⟨rfl, rfl⟩
theorem sortI0_call (a : Option Addr) (c : Nat) (w : World) : Calls Tryz.prog 95 #[.slice a 0 c] w fun e w' => e = .returned (.tuple #[]) ∧ w = w' := by
  have HP := hid (fun k => pdqI_call a c k w)
  go_enter Tryz.func95, Tryz.ntmps95
  go_wp2_with (first
    | (go_at_call 106; refine (len_0 _).mono ?_; rintro e w' ⟨k, rfl, rfl⟩)
    | (go_at_call 123; refine (HP.out _).mono ?_; rintro e w' ⟨rfl, rfl⟩))
  go_end0
  exact ⟨rfl, rfl⟩

abbrev srt (zs : List Int) : List Int := zs.mergeSort fun x y => decide (x ≤ y)
theorem compact_len (zs : List Int) : (Lib.compact zs).length ≤ zs.length := by
  unfold Lib.compact Lib.compactUpTo
  rw [List.length_map]
  refine Nat.le_trans (List.length_filter_le _ _) ?_
  simp
theorem srtRow_call (B n : Nat) (v : Value) (zs : List Int) (w : World) (h : w.ownsRow B 3 1 v n (zs.map (Value.int .i64))) (hn : n ≤ 4000000) :
    Calls Tryz.prog 95 #[v] w fun e w' => e = .returned (.tuple #[]) ∧ w'.ownsRow B 3 1 v n ((srt zs).map (Value.int .i64)) ∧ w.grownBy w' v.ownBlock := by
  have hl : zs.length = n := by have := h.1; simpa using this
  rcases h.2 with ⟨rfl, h0⟩ | ⟨g, cap, cur, rfl, hb, hc, h1, h2, h3, h4⟩
  · subst h0
    obtain rfl : zs = [] := List.eq_nil_of_length_eq_zero hl
    exact (sortI0_call none 0 w).mono fun e w' ⟨he, hw⟩ => ⟨he, by subst hw; simpa [srt] using h, by subst hw; exact ⟨rfl, rfl, rfl, Nat.le_refl _, fun k _ _ => rfl⟩⟩
  · have hH := holds_of_blockI (ss := zs) hc (by rw [hl]; simpa using h4)
    have hg : g < w.heap.size := (Array.getElem?_eq_some_iff.1 hc).1
    subst hl
    refine (Tryz.slices_Sort_int g 0 cap zs w hH hg (by omega)).mono fun e w' ⟨he, k, os, hw⟩ => ⟨he, ?_, ?_⟩
    · subst hw
      exact ownsRow_sortedI (ss := zs) (List.length_mergeSort _) hb hc h1 h2 h3
    · subst hw
      exact grownBy_sortedI _
theorem cptRow_call (B n : Nat) (v : Value) (zs : List Int) (w : World) (h : w.ownsRow B 3 1 v n (zs.map (Value.int .i64))) (hn : n ≤ 4000000) :
    Calls Tryz.prog 96 #[v] w fun e w' => ∃ v2, e = .returned v2 ∧ w'.ownsRow B 3 1 v2 (Lib.compact zs).length ((Lib.compact zs).map (Value.int .i64)) ∧ w.grownBy w' v.ownBlock := by
  have hl : zs.length = n := by have := h.1; simpa using this
  rcases h.2 with ⟨rfl, h0⟩ | ⟨g, cap, cur, rfl, hb, hc, h1, h2, h3, h4⟩
  · subst h0
    obtain rfl : zs = [] := List.eq_nil_of_length_eq_zero hl
    exact (Tryz.slices_Compact_int_empty none 0 w).mono fun e w' ⟨he, hw⟩ => ⟨_, he, by subst hw; exact h, by subst hw; exact ⟨rfl, rfl, rfl, Nat.le_refl _, fun k _ _ => rfl⟩⟩
  · have hH := holds_of_blockI (ss := zs) hc (by rw [hl]; simpa using h4)
    have hg : g < w.heap.size := (Array.getElem?_eq_some_iff.1 hc).1
    have hcl := compact_len zs
    subst hl
    refine (Tryz.slices_Compact_int g 0 cap zs w hH (by omega) h1).mono fun e w' ⟨he, q, hw⟩ => ⟨_, he, ?_, ?_⟩
    · have h5 := ownsRow_sortedI (n := q) (os := #[]) (ss := zs) (ts := Lib.compact zs ++ List.replicate (zs.length - (Lib.compact zs).length) 0) (by simp; omega) hb hc h1 h2 h3
      rw [grow_empty, ← hw] at h5
      obtain ⟨cur', h6, h7, h8⟩ : ∃ cur', w'.heap[g]? = some (.cells cur' 3 (0, 0)) ∧ cur'.size = cap * 1 ∧ cur'.toList.take (zs.length * 1) = (Lib.compact zs ++ List.replicate (zs.length - (Lib.compact zs).length) 0).map (Value.int .i64) := by
        rcases h5.2 with ⟨h, _⟩ | ⟨g', cap', cur', e1, _, e2, _, _, e3, e4⟩
        · cases h
        · cases e1; exact ⟨_, e2, e3, e4⟩
      refine ⟨by simp, .inr ⟨g, cap, cur', rfl, hb, h6, by omega, h2, h7, ?_⟩⟩
      have h9 := congrArg (List.take (Lib.compact zs).length) h8
      rw [List.take_take, Nat.mul_one, Nat.min_eq_left hcl] at h9
      rw [Nat.mul_one, h9, List.map_append, List.take_left' (by simp)]
    · have h5 := grownBy_sortedI (w := w) (g := g) (n := q) (os := #[]) (Lib.compact zs ++ List.replicate (zs.length - (Lib.compact zs).length) 0).toArray
      rw [grow_empty, ← hw] at h5
      exact h5

def UniPost (w : World) (zs : List Int) (e : Ending) (w' : World) : Prop := ∃ a n c, e = .returned (.slice a n c) ∧ Below w.heap.size w w' ∧ IsInts (fun b => w.heap.size ≤ b ∧ b < w'.heap.size) w' a n c zs
theorem own_ints {w : World} {B n : Nat} {v : Value} {zs : List Int} (h : w.ownsRow B 3 1 v n (zs.map (Value.int .i64))) (hn : n ≤ 4000000) (hr : ∀ x ∈ zs, I64 x) : ∃ a c, v = .slice a n c ∧ IsInts (fun b => B ≤ b ∧ b < w.heap.size) w a n c zs := by
  have hl : zs.length = n := by have := h.1; simpa using this
  rcases h.2 with ⟨rfl, h0⟩ | ⟨g, cap, cur, rfl, hb, hc, h1, h2, h3, h4⟩
  · subst h0
    obtain rfl : zs = [] := List.eq_nil_of_length_eq_zero hl
    exact ⟨none, 0, rfl, rfl, Nat.le_refl _, by decide, (fun x hx => by cases hx), .inl rfl⟩
  · refine ⟨some ⟨g, 0, none⟩, cap, rfl, hl.symm, h1, by omega, hr, .inr ⟨g, 0, rfl, ⟨hb, (Array.getElem?_eq_some_iff.1 hc).1⟩, fun j hj => ?_⟩⟩
    have h5 := h.cellAt j (by omega)
    simpa [hj] using h5

set_option maxRecDepth 100000 in
set_option maxHeartbeats 4000000 in
theorem union_call (a : Option Addr) (n c : Nat) (xs : List Int) (a' : Option Addr) (n' c' : Nat) (ys : List Int) (w : World) (hx : IsInts (· < w.heap.size) w a n c xs) (hy : IsInts (· < w.heap.size) w a' n' c' ys) (hn : n ≤ 1000000) (hn' : n' ≤ 1000000) :
    Calls Tryz.prog 52 #[.slice a n c, .slice a' n' c'] w (UniPost w (uniL xs ys)) := by
  obtain ⟨ti, hi, hz0, hz1, hz2⟩ := info_parts infoInt
  have HCL := hid (clRow_call a n c xs w hx w.heap.size (Nat.le_refl _))
  have HR := hid (show ∀ x ∈ uniL xs ys, I64 x from fun x hx' => by
    rcases (uniL_mem xs ys x).1 hx' with h | h
    · exact hx.rng x h
    · exact hy.rng x h)
  have HS := hid (fun (v : Value) (w1 : World) (h : w1.ownsRow w.heap.size 3 1 v (n + n') ((xs ++ ys).map (Value.int .i64))) => srtRow_call w.heap.size (n + n') v (xs ++ ys) w1 h (by omega))
  have HCP := hid (fun (v : Value) (w1 : World) (h : w1.ownsRow w.heap.size 3 1 v (n + n') ((srt (xs ++ ys)).map (Value.int .i64))) => cptRow_call w.heap.size (n + n') v (srt (xs ++ ys)) w1 h (by omega))
  have hlx := hx.len
  have hly := hy.len
  have hlen : (Lib.compact (srt (xs ++ ys))).length ≤ n + n' := by
    refine Nat.le_trans (compact_len _) ?_
    rw [List.length_mergeSort, List.length_append]
    omega
  have HLEN := hid hlen
  have fin : ∀ (w1 w2 : World) (v : Value), Below w.heap.size w w1 → w1.ownsRow w.heap.size 3 1 v (n + n') ((xs ++ ys).map (Value.int .i64)) → w1.grownBy w2 v.ownBlock → w2.ownsRow w.heap.size 3 1 v (n + n') ((srt (xs ++ ys)).map (Value.int .i64)) → Below w.heap.size w w2 := fun w1 w2 v hb ho hg _ => hb.grown hg hb.size (fun k e => own_ge ho k e)
  have FIN := hid fin
  have HN := hid (And.intro hn hn')
  by_cases h0 : n' = 0
  · subst h0
    obtain rfl : ys = [] := List.eq_nil_of_length_eq_zero hly.symm
    clear hx hy fin hlen hlx hly
    go_enter Tryz.func52, Tryz.ntmps52
    go_wp2_with (first
      | (at_builtin; go_loud (refine wpList_append_none (by rfl) _ _ 37 (by rfl) 3 ti Tryz.underlying37 hi v w.heap.size n (xs.map (Value.int .i64)) (by rfl) HO.out _ _ (by rfl) ?_))
      | (go_at_call 94; refine HCL.out.mono ?_; rintro e w1 ⟨v, rfl, ho, hb1⟩; have HO := hid ho; have HB := hid hb1; clear ho hb1)
      | (go_at_call 95; refine (HS.out _ _ (by simpa using HO.out)).mono ?_; rintro e w2 ⟨rfl, ho2, hg2⟩; have HB2 := hid (FIN.out w1 w2 v HB.out (by simpa using HO.out) hg2 ho2); have HO2 := hid ho2; clear hg2 ho2)
      | (go_at_call 96; refine (HCP.out _ _ HO2.out).mono ?_; rintro e w3 ⟨v3, rfl, ho3, hg3⟩; have HB3 := hid (HB2.out.grown hg3 HB2.out.size (fun k e => own_ge HO2.out k e)); have HO3 := hid ho3; clear hg3 ho3))
    go_ret
    obtain ⟨a3, c3, rfl, hi3⟩ := own_ints HO3.out (Nat.le_trans HLEN.out (by have := HN.out; omega)) HR.out
    exact ⟨a3, _, c3, rfl, HB3.out, hi3⟩
  · obtain ⟨b, o, rfl, hb, hc⟩ := hy.slot (show 0 < n' by omega)
    have hm : 0 < n' := by omega
    have hcap1 : n + n' ≤ maxLen := by unfold maxLen; omega
    have hcap2 : (n + n') * 8 ≤ 140737488355328 := by omega
    have HNW : Hid (∀ w1, Below w.heap.size w w1 → ∀ j u, (ys.map (Value.int .i64))[j]? = some u → w1.cell? ((⟨b, o, none⟩ : Addr).add j) = some u) := hid fun w1 h j u hu => by
      have hj : j < ys.length := by
        rcases Nat.lt_or_ge j ys.length with h | h
        · exact h
        · rw [List.getElem?_eq_none (by simpa using h)] at hu; cases hu
      have hadd : ((⟨b, o, none⟩ : Addr).add j) = ⟨b, o + j, none⟩ := by unfold Addr.add; split <;> simp_all
      rw [hadd, World.cell?_of_block (w := w) (h.block b hb), hc j hj]
      simpa [hj] using hu
    have HLY := hid (show (ys.map (Value.int .i64)).length = n' * 1 by simp; omega)
    clear hx hy fin hlen hlx hly hc
    go_enter Tryz.func52, Tryz.ntmps52
    go_wp2_with (first
      | (at_builtin; go_loud (refine wpList_append_lies _ (by rfl) _ _ 37 (by rfl) w.heap.size 3 ti _ 1 8 Tryz.underlying37 hi hz0 hz1 hz2 rfl (by omega) v n (xs.map (Value.int .i64)) (by rfl) HO.out ⟨b, o, none⟩ n' c' (ys.map (Value.int .i64)) (by rfl) HLY.out (HNW.out _ HB.out) (by simp [Value.oneCell']) hm hcap1 hcap2 HB.out.size _ rfl ?_); intro gg cap2 w2 hown2 hgrow hat hlt2; have HO1 := hid hown2; have HB1 := hid (HB.out.grown hgrow HB.out.size (fun k e => own_ge HO.out k e)); clear hown2 hgrow hat hlt2)
      | (go_at_call 94; refine HCL.out.mono ?_; rintro e w1 ⟨v, rfl, ho, hb1⟩; have HO := hid ho; have HB := hid hb1; clear ho hb1)
      | (go_at_call 95; refine (HS.out _ _ (by rw [List.map_append]; exact HO1.out)).mono ?_; rintro e w4 ⟨rfl, ho2, hg2⟩; have HB2 := hid (FIN.out w2 w4 _ HB1.out (by rw [List.map_append]; exact HO1.out) hg2 ho2); have HO2 := hid ho2; clear hg2 ho2)
      | (go_at_call 96; refine (HCP.out _ _ HO2.out).mono ?_; rintro e w3 ⟨v3, rfl, ho3, hg3⟩; have HB3 := hid (HB2.out.grown hg3 HB2.out.size (fun k e => own_ge HO2.out k e)); have HO3 := hid ho3; clear hg3 ho3))
    go_ret
    obtain ⟨a3, c3, rfl, hi3⟩ := own_ints HO3.out (Nat.le_trans HLEN.out (by have := HN.out; omega)) HR.out
    exact ⟨a3, _, c3, rfl, HB3.out, hi3⟩
end Go.Proofs.YtcejackabdmpkaaGreatDoor
