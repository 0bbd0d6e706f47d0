/-
  Plain: rows of wide things: copy into them, append where there is room, append of a make, clear. No program in sight.
-/
import Derived.Test.YthjlgpmajeafpaaGreatDoorGrowMrg
import Derived.Lib.AppendZerosOnto
import Derived.Laws.CopyRow
import Derived.Test.YthjlgpmajeafpaaGreatDoorPokeMrg
namespace Go.Proofs.YthjlgpmajeafpaaGreatDoor
open Go Go.RowKit
set_option linter.unusedVariables false
set_option linter.unusedSimpArgs false

theorem spl_get {α : Type} (L vs : List α) (o : Nat) (h : o + vs.length ≤ L.length) (t : Nat) : (L.take o ++ vs ++ L.drop (o + vs.length))[t]? = if t < o then L[t]? else if t < o + vs.length then vs[t - o]? else L[t]? := by
  by_cases h1 : t < o
  · rw [if_pos h1, List.append_assoc, List.getElem?_append_left (by rw [List.length_take]; omega), List.getElem?_take_of_lt h1]
  · rw [if_neg h1, List.append_assoc, List.getElem?_append_right (by rw [List.length_take]; omega), List.length_take, Nat.min_eq_left (by omega)]
    by_cases h2 : t < o + vs.length
    · rw [if_pos h2, List.getElem?_append_left (by omega)]
    · rw [if_neg h2, List.getElem?_append_right (by omega), List.getElem?_drop]
      congr 1
      omega
theorem spl_len {α : Type} (L vs : List α) (o : Nat) (h : o + vs.length ≤ L.length) : (L.take o ++ vs ++ L.drop (o + vs.length)).length = L.length := by
  rw [List.length_append, List.length_append, List.length_take, List.length_drop]; omega
theorem Off.setRow (g : Nat) (cs : Array Value) (w : World) : Off g w (w.setRow g cs) :=
  ⟨rfl, rfl, rfl, by simp [World.setRow], fun k _ hk => setRow_other w g k cs hk⟩
theorem Off.cl {C D : Type} {K : Kit C D} {g : Nat} {w w' : World} (h : Off g w w') {b o n : Nat} {cs : List C} (hb : b ≠ g) (hc : Cl K w (some ⟨b, o, none⟩) n cs) : Cl K w' (some ⟨b, o, none⟩) n cs := by
  refine ⟨hc.len, hc.at'.imp id fun ⟨ad, ha, hx⟩ => ⟨ad, ha, fun t u hu => ?_⟩⟩
  have h1 := hx t u hu
  have hlt := World.block_lt_of_cell? w _ h1
  cases ha
  have e : ((⟨b, o, none⟩ : Addr).add t) = ⟨b, o + t, none⟩ := by unfold Addr.add; split <;> simp_all
  rw [e] at h1 hlt ⊢
  rw [World.cell?_of_block (w := w) (h.block b hlt hb)]
  exact h1

section
variable {C D : Type} {K : Kit C D}
/-- The row with the elements cs2 stored from p on. -/
theorem InRow.spl {T : Nat} {w : World} {g cap : Nat} {cs : List C} (h : InRow K T w g cap cs) (p : Nat) (cs2 : List C) (hp : p + cs2.length ≤ cs.length) {cur : Array Value} (hg : w.heap[g]? = some (.cells cur T (0, 0))) :
    p * K.n + (cs2.flatMap K.cs).length ≤ cur.size ∧ InRow K T (w.setRow g (cur.toList.take (p * K.n) ++ cs2.flatMap K.cs ++ cur.toList.drop (p * K.n + (cs2.flatMap K.cs).length)).toArray) g cap (cs.take p ++ cs2 ++ cs.drop (p + cs2.length)) := by
  obtain ⟨cur', hg', hsz, hcap, hc⟩ := h
  rw [hg] at hg'
  obtain rfl : cur = cur' := by injection hg' with h1; injection h1
  have hn := K.pos
  have hfl : (cs2.flatMap K.cs).length = cs2.length * K.n := flat_len cs2
  have hle : p * K.n + (cs2.flatMap K.cs).length ≤ cur.size := by
    rw [hfl, hsz, ← Nat.add_mul]; exact Nat.mul_le_mul_right _ (by omega)
  refine ⟨hle, _, setRow_heap w g cur _ T _ hg, ?_, ?_, fun j hj i hi => ?_⟩
  · rw [List.size_toArray, spl_len _ _ _ (by simpa using hle)]; simpa using hsz
  · rw [spl_len _ _ _ hp]; exact hcap
  · rw [List.getElem?_toArray, spl_get _ _ _ (by simpa using hle), hfl]
    have hj0 : j < cs.length := by rw [spl_len _ _ _ hp] at hj; exact hj
    have hj2 := (List.getElem?_eq_getElem hj).symm
    rw [spl_get _ _ _ hp] at hj2
    have hci := hc j hj0 i hi
    by_cases h1 : j < p
    · rw [if_pos h1, List.getElem?_eq_getElem hj0] at hj2
      have h2 : (j + 1) * K.n ≤ p * K.n := Nat.mul_le_mul_right _ h1
      rw [Nat.succ_mul] at h2
      rw [if_pos (by omega), Option.some.inj hj2, ← hci]
      simp
    · rw [if_neg h1] at hj2
      have h2 : p * K.n ≤ j * K.n := Nat.mul_le_mul_right _ (by omega)
      rw [if_neg (by omega)]
      by_cases h3 : j < p + cs2.length
      · rw [if_pos h3, List.getElem?_eq_getElem (by omega)] at hj2
        have h4 : (j + 1) * K.n ≤ (p + cs2.length) * K.n := Nat.mul_le_mul_right _ h3
        rw [Nat.succ_mul, Nat.add_mul] at h4
        rw [if_pos (by omega), Option.some.inj hj2]
        have h5 := flat_get K.cs K.n K.len cs2 (j - p) i (by omega) hi
        rw [Nat.sub_mul] at h5
        rw [← h5]
        congr 1
        omega
      · rw [if_neg h3, List.getElem?_eq_getElem hj0] at hj2
        have h4 : (p + cs2.length) * K.n ≤ j * K.n := Nat.mul_le_mul_right _ (by omega)
        rw [Nat.add_mul] at h4
        rw [if_neg (by omega), Option.some.inj hj2, ← hci]
        simp
/-- A slice that reads as cells: of the first of them. -/
theorem cl_take {w : World} {a : Option Addr} {n : Nat} {cs : List C} (h : Cl K w a n cs) (i : Nat) (hi : i ≤ n) : Cl K w a i (cs.take i) := by
  refine ⟨by rw [List.length_take, h.len]; omega, ?_⟩
  rcases h.at' with h0 | ⟨ad, ha, hc⟩
  · exact .inl (by omega)
  · refine .inr ⟨ad, ha, fun t u hu => hc t u ?_⟩
    have e : cs.flatMap K.cs = (cs.take i).flatMap K.cs ++ (cs.drop i).flatMap K.cs := by rw [← List.flatMap_append, List.take_append_drop]
    rw [e, List.getElem?_append_left (List.getElem?_eq_some_iff.1 hu).1]
    exact hu
/-- .. and of those from i on, where the address is moved. -/
theorem cl_drop {w : World} {b o : Nat} {n : Nat} {cs : List C} (h : Cl K w (some ⟨b, o, none⟩) n cs) (i : Nat) (hi : i ≤ n) : Cl K w (some ⟨b, o + i * K.n, none⟩) (n - i) (cs.drop i) := by
  refine ⟨by rw [List.length_drop, h.len], ?_⟩
  rcases h.at' with h0 | ⟨ad, ha, hc⟩
  · exact .inl (by omega)
  · cases ha
    refine .inr ⟨_, rfl, fun t u hu => ?_⟩
    have hl : ((cs.take i).flatMap K.cs).length = i * K.n := by rw [flat_len, List.length_take, h.len, Nat.min_eq_left hi]
    have e : cs.flatMap K.cs = (cs.take i).flatMap K.cs ++ (cs.drop i).flatMap K.cs := by rw [← List.flatMap_append, List.take_append_drop]
    have h1 := hc (i * K.n + t) u (by rw [e, List.getElem?_append_right (by omega), hl, Nat.add_sub_cancel_left]; exact hu)
    have e1 : ((⟨b, o, none⟩ : Addr).add (i * K.n + t)) = ⟨b, o + (i * K.n + t), none⟩ := by unfold Addr.add; split <;> simp_all
    have e2 : ((⟨b, o + i * K.n, none⟩ : Addr).add t) = ⟨b, o + i * K.n + t, none⟩ := by unfold Addr.add; split <;> simp_all
    rw [e1] at h1
    rw [e2, Nat.add_assoc]
    exact h1
theorem cl_empty {w : World} {a : Option Addr} {cs : List C} (hc : cs.length = 0) : Cl K w a 0 cs := ⟨hc, .inl rfl⟩
/-- The cells of the first n, read. -/
theorem cl_cells {P : Program} {w : World} {a : Option Addr} {n c : Nat} {cs : List C} (h : Cl K w a n cs) : (Builtin.firstCells K.n n (.slice a n c)).run P w = .ok (cs.flatMap K.cs).toArray w := by
  have hl : (cs.flatMap K.cs).length = n * K.n := by rw [flat_len, h.len]
  cases a with
  | none =>
    have hn : n = 0 := by
      rcases h.at' with h0 | ⟨ad, ha, _⟩
      · exact h0
      · cases ha
    have hcs : cs = [] := List.eq_nil_of_length_eq_zero (by rw [h.len, hn])
    subst hcs
    exact run_firstCells_none w K.n n n c
  | some ad =>
    refine run_firstCells_some w K.n n ad n c _ hl fun t u hu => ?_
    rcases h.at' with h0 | ⟨ad', ha, hc⟩
    · have hcs : cs = [] := List.eq_nil_of_length_eq_zero (by rw [h.len, h0])
      rw [hcs] at hu; simp at hu
    · cases ha
      exact hc t u hu
theorem firstCells_min {P : Program} {w : World} {a : Option Addr} {n n' c : Nat} {sz : Nat} : (Builtin.firstCells sz n (.slice a n' c)).run P w = (Builtin.firstCells sz n (.slice a n c)).run P w := by cases a <;> rfl
theorem one_flat (h1 : ∀ x, ∀ u ∈ K.cs x, u.oneCell' = true) (cs : List C) : ∀ u ∈ cs.flatMap K.cs, u.oneCell' = true := fun u hu => by
  obtain ⟨x, _, hx⟩ := List.mem_flatMap.1 hu
  exact h1 x u hx
/-- copy into a row. -/
theorem run_copy_in {P : Program} {w : World} {dT sT ty e : TypeId} {i : TypeInfo} {T : Nat} (hu : P.underlying dT = some (.slice e)) (hi : P.info? e = some i) (hs : i.size = K.n) (h1 : ∀ x, ∀ u ∈ K.cs x, u.oneCell' = true)
    {g cap : Nat} {cs : List C} (hr : InRow K T w g cap cs) (p m dLen dCap : Nat) {a2 : Option Addr} (c2 : Nat) {cs2 : List C} (h2 : Cl K w a2 m cs2) (hm : m ≤ dLen) (hp : p + m ≤ cs.length) :
    ∃ w', (Builtin.copy_ #[dT, sT] ty #[.slice (some ⟨g, p * K.n, none⟩) dLen dCap, .slice a2 m c2]).run P w = .ok (goInt m) w' ∧ InRow K T w' g cap (cs.take p ++ cs2 ++ cs.drop (p + m)) ∧ Off g w w' := by
  obtain ⟨cur, hg, _⟩ := id hr
  have hl2 := h2.len
  obtain ⟨hle, hrow⟩ := hr.spl p cs2 (by omega) hg
  have hf := cl_cells (P := P) (c := c2) h2
  have hst := run_storeCells_at P g (p * K.n) T (cs2.flatMap K.cs) 0 cur w hg (by simpa using hle) (one_flat h1 cs2)
  simp only [Nat.add_zero] at hst
  refine ⟨_, ?_, by rw [← hl2]; exact hrow, Off.setRow _ _ _⟩
  have hmin : Nat.min m dLen = m := Nat.min_eq_left hm
  rw [← hs] at hf
  simp [Builtin.copy_, run_underlying hu, Builtin.lenOf, sizeOf, typeInfo, hi, hmin, hf, hst]
/-- copy of nothing, wherever. -/
theorem run_copy_zero {P : Program} {w : World} {dT sT ty e : TypeId} {i : TypeInfo} (hu : P.underlying dT = some (.slice e)) (hi : P.info? e = some i) (d : Option Addr) (dLen dCap : Nat) (a2 : Option Addr) (c2 : Nat) :
    (Builtin.copy_ #[dT, sT] ty #[.slice d dLen dCap, .slice a2 0 c2]).run P w = .ok (goInt 0) w := by
  have hmin : Nat.min 0 dLen = 0 := Nat.min_eq_left (Nat.zero_le _)
  have hl : ∀ (x : Addr), (loadCells x 0).run P w = .ok #[] w := fun x => by simpa using run_loadCells_list (P := P) w x [] (by simp)
  cases d <;> cases a2 <;> simp [Builtin.copy_, run_underlying hu, Builtin.lenOf, Builtin.firstCells, sizeOf, typeInfo, hi, hmin, storeCells, hl]
/-- append within a row: behind the first p. -/
theorem run_append_in {P : Program} {w : World} {t ty e : TypeId} {i : TypeInfo} {T : Nat} (hu : P.underlying t = some (.slice e)) (hi : P.info? e = some i) (hs : i.size = K.n) (h1 : ∀ x, ∀ u ∈ K.cs x, u.oneCell' = true)
    {g cap : Nat} {cs : List C} (hr : InRow K T w g cap cs) (p m : Nat) {a2 : Option Addr} (c2 : Nat) {cs2 : List C} (h2 : Cl K w a2 m cs2) (hp : p + m ≤ cs.length) (ha : 0 < m → ∃ ad, a2 = some ad) (sCap : Nat) (hsc : p + m ≤ sCap) :
    ∃ w', (Builtin.append_ #[t, t] ty #[.slice (some ⟨g, 0, none⟩) p sCap, .slice a2 m c2]).run P w = .ok (.slice (some ⟨g, 0, none⟩) (p + m) sCap) w' ∧ InRow K T w' g cap (cs.take p ++ cs2 ++ cs.drop (p + m)) ∧ Off g w w' := by
  obtain ⟨cur, hg, _⟩ := id hr
  have hl2 := h2.len
  obtain ⟨hle, hrow⟩ := hr.spl p cs2 (by omega) hg
  have hf := cl_cells (P := P) (c := c2) h2
  have hst := run_storeCells_at P g (p * K.n) T (cs2.flatMap K.cs) 0 cur w hg (by simpa using hle) (one_flat h1 cs2)
  simp only [Nat.add_zero] at hst
  refine ⟨_, ?_, by rw [← hl2]; exact hrow, Off.setRow _ _ _⟩
  rw [← hs] at hf hst
  have hpi : p * i.size = p * K.n := by rw [hs]
  simp [Builtin.append_, run_underlying hu, sizeOf, typeInfo, hi, Builtin.lenOf, hsc, hf, Addr.add_lit, hst]
  all_goals simp [hpi]
/-- append of a make. -/
theorem zeroCells_flat (zc : C) (k : Nat) : Builtin.zeroCells (K.cs zc).toArray k = ((List.replicate k zc).flatMap K.cs).toArray := by
  have hl := K.len zc
  have hn := K.pos
  apply Array.ext'
  apply List.ext_getElem?
  intro t
  have hfl : ((List.replicate k zc).flatMap K.cs).length = k * K.n := by rw [flat_len, List.length_replicate]
  by_cases ht : t < k * K.n
  · have hj : t / K.n < k := (Nat.div_lt_iff_lt_mul hn).2 ht
    have hi : t % K.n < K.n := Nat.mod_lt _ hn
    have e : t / K.n * K.n + t % K.n = t := by rw [Nat.mul_comm]; exact Nat.div_add_mod t K.n
    have h2 := flat_get K.cs K.n K.len (List.replicate k zc) (t / K.n) (t % K.n) (by simpa using hj) hi
    rw [e] at h2
    rw [h2]
    have ht' : t < k * (K.cs zc).length := by rw [hl]; exact ht
    have hi' : t % (K.cs zc).length < (K.cs zc).length := by rw [hl]; exact hi
    have h3 : (Builtin.zeroCells (K.cs zc).toArray k).toList[t]? = some ((K.cs zc).toArray[t % K.n]!) := by
      simp [Builtin.zeroCells, ht', hl]
      exact ⟨t, List.getElem?_range ht, rfl⟩
    have h4 : (K.cs zc)[t % K.n]? = some ((K.cs zc)[t % K.n]'(by omega)) := List.getElem?_eq_getElem (by omega)
    have h5 : ((List.replicate k zc)[t / K.n]'(by simpa using hj)) = zc := List.getElem_replicate ..
    rw [h3, h5, h4, getElem!_pos (K.cs zc).toArray (t % K.n) (by simpa [hl] using hi), List.getElem_toArray]
  · rw [List.getElem?_eq_none, List.getElem?_eq_none]
    · simp [hfl]; omega
    · simp [Builtin.zeroCells, hl]; omega
theorem run_grow_zeros {P : Program} {w : World} {t tn ty e : TypeId} {i : TypeInfo} {z : Value} {kq kn : IntKind} (ht : P.underlying t = some (.slice e)) (htn : P.underlying tn = some (.int kn)) (hi : P.info? e = some i) (hz : i.zero = some z) (hsize : i.size = K.n) (hby : i.bytes ≤ 1000) (zc : C) (hzc : z.cells = (K.cs zc).toArray)
    (a : Option Addr) (n cap : Nat) (cs : List C) (ha : Cl K w a n cs) (m : Nat) (hm : 0 < m) (hg : cap < n + m) (hb : n + m ≤ 1000000) :
    ∃ (cap' : Nat) (o : Obj), (Builtin.append_ #[t, tn] ty #[.slice a n cap, .int kq m]).run P w = .ok (.slice (some ⟨w.heap.size, 0, none⟩) (n + m) cap') (w.drew.alloc o) ∧ InRow K e (w.drew.alloc o) w.heap.size cap' (cs ++ List.replicate m zc) ∧ n + m ≤ cap' := by
  have hfit : Builtin.nextslicecap (n + m) cap * i.bytes ≤ 281474976710656 := by
    have h2 := nextslicecap_le hg
    have h3 : Builtin.nextslicecap (n + m) cap * i.bytes ≤ (2 * (n + m)) * 1000 := Nat.mul_le_mul h2 hby
    omega
  have h48 : m * i.bytes ≤ 281474976710656 := by
    have h3 : m * i.bytes ≤ 1000000 * 1000 := Nat.mul_le_mul (by omega) hby
    omega
  have hf := ha.first (P := P) (c := cap)
  rw [← hsize] at hf
  have hr := Lib.run_append_grow_zeros (P := P) w t tn ty e i z kq kn ht htn hi hz a n cap (cs.flatMap K.cs) hf m hm (by have := K.pos; omega) hg (by omega) h48 hfit
  have hge := grownCap_ge w (n + m) cap e
  refine ⟨_, _, hr, ?_, hge⟩
  have hzs : z.cells.size = K.n := by rw [hzc, List.size_toArray, K.len]
  have hfl : (cs.flatMap K.cs).length = n * K.n := by rw [flat_len, ha.len]
  have hrl : ((List.replicate m zc).flatMap K.cs).length = m * K.n := by rw [flat_len, List.length_replicate]
  refine InRow.ofFlat (heap_alloc_new w.drew _) ?_ (by rw [List.length_append, List.length_replicate, ha.len]; exact hge) fun u hu => ?_
  · rw [Array.size_append, Array.size_append, size_zeroCells, size_zeroCells, List.size_toArray, hfl, hzs, ← Nat.add_mul, ← Nat.add_mul]
    congr 1
    omega
  · rw [List.length_append, List.length_replicate, ha.len, Nat.add_mul] at hu
    rw [Array.getElem?_append_left (by rw [Array.size_append, size_zeroCells, List.size_toArray, hfl, hzs]; exact hu), hzc, zeroCells_flat, List.flatMap_append]
    simp
/-- clear of some of a row. -/
theorem run_clear_in {P : Program} {w : World} {t ty e : TypeId} {i : TypeInfo} {z : Value} {T : Nat} (hu : P.underlying t = some (.slice e)) (hi : P.info? e = some i) (hz : i.zero = some z) (zc : C) (hzc : z.cells = (K.cs zc).toArray) (h1 : ∀ x, ∀ u ∈ K.cs x, u.oneCell' = true)
    {g cap : Nat} {cs : List C} (hr : InRow K T w g cap cs) (p m c2 : Nat) (hm : 0 < m) (hp : p + m ≤ cs.length) :
    ∃ w', (Builtin.clear_ #[t] ty #[.slice (some ⟨g, p * K.n, none⟩) m c2]).run P w = .ok (.tuple #[]) w' ∧ InRow K T w' g cap (cs.take p ++ List.replicate m zc ++ cs.drop (p + m)) ∧ Off g w w' := by
  obtain ⟨cur, hg, _⟩ := id hr
  have hl2 : (List.replicate m zc).length = m := List.length_replicate
  obtain ⟨hle, hrow⟩ := hr.spl p (List.replicate m zc) (by omega) hg
  have hst := run_storeCells_at P g (p * K.n) T ((List.replicate m zc).flatMap K.cs) 0 cur w hg (by simpa using hle) (one_flat h1 _)
  simp only [Nat.add_zero] at hst
  refine ⟨_, ?_, by rw [hl2] at hrow; exact hrow, Off.setRow _ _ _⟩
  obtain ⟨m, rfl⟩ : ∃ k, m = k + 1 := ⟨m - 1, by omega⟩
  simp [Builtin.clear_, run_underlying hu, zeroValue, typeInfo, hi, hz, hzc, zeroCells_flat, hst]
/-- The row, read: its first n elements are those of the data. -/
theorem InRow.row {T : Nat} {w : World} {g cap : Nat} {cs : List C} (h : InRow K T w g cap cs) (S : Nat → Prop) (hg : S g) (n : Nat) (l : List D) (hl : l.length = n) (hn : n ≤ cs.length) (hb : n * K.by' ≤ 140737488351232) (hx : ∀ j (h1 : j < cs.length) (h2 : j < l.length), K.Is S w cs[j] l[j]) : IsRow K S w (some ⟨g, 0, none⟩) n cap l := by
  obtain ⟨cur, hc, _, hcap, _⟩ := id h
  refine ⟨hl.symm, by omega, hb, ?_⟩
  refine .inr ⟨g, 0, rfl, hg, fun j hj => ⟨cs[j]'(by omega), ?_, hx j (by omega) hj⟩⟩
  rw [Nat.zero_add]
  exact h.at' j (by omega)
theorem InRow.off {T : Nat} {w w' : World} {g g' cap : Nat} {cs : List C} (h : InRow K T w g cap cs) (ho : Off g' w w') (hne : g ≠ g') : InRow K T w' g cap cs := by
  obtain ⟨cur, hc, h2⟩ := h
  exact ⟨cur, (ho.block g (ltOf hc) hne).trans hc, h2⟩
/-- append where there is room, at a row that is known whole. -/
theorem run_append_fit {P : Program} {w : World} {base : Nat} {t ty e : TypeId} {i : TypeInfo} (hu : P.underlying t = some (.slice e)) (hi : P.info? e = some i) {size : Nat} (hs : i.size = size) {g n cap : Nat} {xs : List Value} (hown : w.ownsRow base e size (.slice (some ⟨g, 0, none⟩) n cap) n xs)
    (ad : Addr) (m c : Nat) (news : List Value) (hl : news.length = m * size) (hnews : ∀ j u, news[j]? = some u → w.cell? (ad.add j) = some u) (h1 : ∀ u ∈ news, u.oneCell' = true) (hfit : n + m ≤ cap) :
    ∃ w', (Builtin.append_ #[t, t] ty #[.slice (some ⟨g, 0, none⟩) n cap, .slice (some ad) m c]).run P w = .ok (.slice (some ⟨g, 0, none⟩) (n + m) cap) w' ∧ w'.ownsRow base e size (.slice (some ⟨g, 0, none⟩) (n + m) cap) (n + m) (xs ++ news) ∧ w.grownBy w' (some g) ∧ g < w'.heap.size := by
  obtain ⟨hxl, h4 | ⟨g', cap', cur, hv, hB, hg, hcap, hmax, hsz, htk⟩⟩ := hown
  · exact absurd h4.1 (by simp)
  · simp only [Value.slice.injEq, Option.some.injEq, Addr.mk.injEq, and_true] at hv
    obtain ⟨rfl, _, rfl⟩ := hv
    subst hs
    have hle : n * i.size + news.length ≤ cur.size := by rw [hl, hsz, ← Nat.add_mul]; exact Nat.mul_le_mul_right _ hfit
    have hrun := run_append_room (P := P) w t ty e i hu hi g n cap cur hg ad m c news hl hnews h1 hfit hle
    have hO := Off.setRow g (cur.toList.take (n * i.size) ++ news ++ cur.toList.drop (n * i.size + news.length)).toArray w
    have hh := setRow_heap w g cur (cur.toList.take (n * i.size) ++ news ++ cur.toList.drop (n * i.size + news.length)).toArray e _ hg
    refine ⟨_, hrun, ⟨by rw [List.length_append, hxl, hl, Nat.add_mul], .inr ⟨g, cap, _, rfl, hB, hh, hfit, hmax, ?_, ?_⟩⟩, ⟨hO.os, hO.tape, hO.output, hO.size, fun k hk hne => hO.block k hk (fun e => hne (by rw [e]))⟩, ltOf hh⟩
    · rw [List.size_toArray, spl_len _ _ _ (by simpa using hle)]; simpa using hsz
    · rw [htk]
      have e1 : (n + m) * i.size = (xs ++ news).length := by rw [List.length_append, hxl, hl, Nat.add_mul]
      rw [e1, List.append_assoc, ← List.append_assoc]
      exact List.take_left' rfl
end
theorem wpList_append_run' {P : Program} {w : World} {ops : Array Oper} {rest : List Oper} {o : Oper} {a : Act} {Q : Exit → Act → World → Prop} (hgd : o.guard = none) (s x : Operand) (t t2 : TypeId)
    (ho : o.op = .call { callee := .builtin .append, args := #[s, x], argTypes := #[t, t2] }) (vs vx v' : Value) (w' : World) (hs : a.eval s = vs) (hx : a.eval x = vx)
    (hrun : (Builtin.append_ #[t, t2] o.type #[vs, vx]).run P w = .ok v' w') (h : wpList P ops Q rest (a.put o.dst v') w') : wpList P ops Q (o :: rest) a w := by
  refine wpList_plain hgd fun K hK => ?_
  unfold Oper.wp execOp
  simp only [ho, resolve, invoke, builtin, Sem.run_bind, Sem.run_pure, Result.andThen_ok, List.map_toArray, List.map_cons, List.map_nil, hs, hx, hrun]
  exact hK _ _ h
theorem wpList_copy_run' {P : Program} {w : World} {ops : Array Oper} {rest : List Oper} {o : Oper} {a : Act} {Q : Exit → Act → World → Prop} (hgd : o.guard = none) (s x : Operand) (t t2 : TypeId)
    (ho : o.op = .call { callee := .builtin .copy, args := #[s, x], argTypes := #[t, t2] }) (vs vx v' : Value) (w' : World) (hs : a.eval s = vs) (hx : a.eval x = vx)
    (hrun : (Builtin.copy_ #[t, t2] o.type #[vs, vx]).run P w = .ok v' w') (h : wpList P ops Q rest (a.put o.dst v') w') : wpList P ops Q (o :: rest) a w := by
  refine wpList_plain hgd fun K hK => ?_
  unfold Oper.wp execOp
  simp only [ho, resolve, invoke, builtin, Sem.run_bind, Sem.run_pure, Result.andThen_ok, List.map_toArray, List.map_cons, List.map_nil, hs, hx, hrun]
  exact hK _ _ h
theorem step_copy_run' {P : Program} {w : World} {ops : Array Oper} {o : Oper} {a : Act} {K' : Act → World → Prop} {Q : Exit → Act → World → Prop} {E : Prop} (hgd : o.guard = none) (s x : Operand) (t t2 : TypeId)
    (ho : o.op = .call { callee := .builtin .copy, args := #[s, x], argTypes := #[t, t2] }) (vs vx v' : Value) (w' : World) (hs : a.eval s = vs) (hx : a.eval x = vx)
    (hrun : (Builtin.copy_ #[t, t2] o.type #[vs, vx]).run P w = .ok v' w') (h : K' (a.put o.dst v') w') :
    if Region.wanted o (yielded ops a.tmps) = true then Oper.wp P o a w K' Q else E := by
  have hw : Region.wanted o (yielded ops a.tmps) = true := by simp [Region.wanted, hgd]
  rw [if_pos hw]
  unfold Oper.wp execOp
  simp only [ho, resolve, invoke, builtin, Sem.run_bind, Sem.run_pure, Result.andThen_ok, List.map_toArray, List.map_cons, List.map_nil, hs, hx, hrun]
  exact h
theorem wpList_clear_run' {P : Program} {w : World} {ops : Array Oper} {rest : List Oper} {o : Oper} {a : Act} {Q : Exit → Act → World → Prop} (hgd : o.guard = none) (s : Operand) (t : TypeId)
    (ho : o.op = .call { callee := .builtin .clear, args := #[s], argTypes := #[t] }) (vs v' : Value) (w' : World) (hs : a.eval s = vs)
    (hrun : (Builtin.clear_ #[t] o.type #[vs]).run P w = .ok v' w') (h : wpList P ops Q rest (a.put o.dst v') w') : wpList P ops Q (o :: rest) a w := by
  refine wpList_plain hgd fun K hK => ?_
  unfold Oper.wp execOp
  simp only [ho, resolve, invoke, builtin, Sem.run_bind, Sem.run_pure, Result.andThen_ok, List.map_toArray, List.map_cons, List.map_nil, hs, hrun]
  exact hK _ _ h
/-- append where there is room: at the list of a plain region's operations. -/
theorem wpList_append_fit {P : Program} {w : World} {ops : Array Oper} {rest : List Oper} {o : Oper} {a : Act} {Q : Exit → Act → World → Prop} (hgd : o.guard = none) (s x : Operand) (t : TypeId)
    (ho : o.op = .call { callee := .builtin .append, args := #[s, x], argTypes := #[t, t] }) (base : Nat) (e : TypeId) (i : TypeInfo) (size : Nat) (hu : P.underlying t = some (.slice e)) (hi : P.info? e = some i) (hs : i.size = size) (g n cap : Nat) (xs : List Value) (hv : a.eval s = .slice (some ⟨g, 0, none⟩) n cap) (hown : w.ownsRow base e size (.slice (some ⟨g, 0, none⟩) n cap) n xs)
    (ad : Addr) (m c : Nat) (news : List Value) (hx : a.eval x = .slice (some ad) m c) (hl : news.length = m * size) (hnews : ∀ j u, news[j]? = some u → w.cell? (ad.add j) = some u) (h1 : ∀ u ∈ news, u.oneCell' = true) (hfit : n + m ≤ cap)
    (h : ∀ w', w'.ownsRow base e size (.slice (some ⟨g, 0, none⟩) (n + m) cap) (n + m) (xs ++ news) → w.grownBy w' (some g) → g < w'.heap.size → wpList P ops Q rest (a.put o.dst (.slice (some ⟨g, 0, none⟩) (n + m) cap)) w') : wpList P ops Q (o :: rest) a w := by
  obtain ⟨w', hr, h2, h3, h4⟩ := run_append_fit (P := P) (ty := o.type) hu hi hs hown ad m c news hl hnews h1 hfit
  exact wpList_append_run' hgd s x t t ho _ _ _ w' hv hx hr (h w' h2 h3 h4)
end Go.Proofs.YthjlgpmajeafpaaGreatDoor

/-
  slots.Clone returns a copy of a state in a row of its own that is full. Condition: the state can be read as data.
-/
namespace Go.Proofs.YthjlgpmajeafpaaGreatDoor
open Go Go.RowKit Go.Shelf
set_option linter.unusedVariables false
set_option linter.unusedSimpArgs false

/-- The copy: its row is full, in a block of its own. -/
structure StaRow (w : World) (d : Sta) (g n : Nat) (cs : List SlC) (w' : World) : Prop where
  below : Below w.heap.size w w'
  ge : w.heap.size ≤ g
  lt : g < w'.heap.size
  num : n = d.l.length
  row : InRow slK 58 w' g n cs
  len : cs.length = n
  els : ∀ j (h : j < cs.length) (h' : j < d.l.length), IsSl (fun b => w.heap.size ≤ b ∧ b < w'.heap.size ∧ b ≠ g) w' cs[j] d.l[j]
def StaPost2 (w : World) (d : Sta) (e : Ending) (w' : World) : Prop := ∃ (g n : Nat) (cs : List SlC), e = .returned (.agg #[.int .i64 d.n, .int .i64 d.t, .slice (some ⟨g, 0, none⟩) n n]) ∧ StaRow w d g n cs w'

set_option maxRecDepth 100000 in
set_option maxHeartbeats 16000000 in
theorem cloneSta2_call (c : StC) (d : Sta) (w : World) (hd : IsSta (· < w.heap.size) w c d) : Calls Tryz.prog 39 #[c.v] w (StaPost2 w d) := by
  obtain ⟨ti, hi, hz0, hz1, hz2⟩ := info_parts infoSlot
  obtain ⟨sn, st, a, sl, sc⟩ := c
  have hbig := hd.l.big
  have HLI := hid hd.l.len
  have HDI := hid hd.l
  have HNT := hid (And.intro hd.n (And.intro hd.rn (And.intro hd.t hd.rt)))
  dsimp only at hbig HLI HDI HNT
  clear hd
  obtain ⟨wb, hwb⟩ : ∃ wb, wb = (w.alloc (.cells #[.int .i64 sn, .int .i64 st, .slice a sl sc] 55)).alloc (.cells #[.int .i64 0, .int .i64 0, .slice none 0 0] 55) := ⟨_, rfl⟩
  have hb0 : Below w.heap.size w wb := by rw [hwb]; exact ((Below.refl _ w).alloc (Nat.le_refl _) _).alloc (by simp) _
  have hsb : wb.heap.size = w.heap.size + 2 := by rw [hwb]; simp
  have g1 : wb.heap[w.heap.size]? = some (.cells #[.int .i64 sn, .int .i64 st, .slice a sl sc] 55) := by rw [hwb]; exact heapAlloc _ (heap_alloc_new w _)
  have g2 : wb.heap[w.heap.size + 1]? = some (.cells #[.int .i64 0, .int .i64 0, .slice none 0 0] 55) := by rw [hwb]; exact heapNewAt _ _ _ (by simp)
  have k2 := cellOf g1 2
  (try dsimp only at k2)
  rw [hwb] at k2
  have HWB := hid hwb
  have HB0 := hid hb0
  have HSB := hid hsb
  have G1 := hid g1
  have G2 := hid g2
  clear hwb hb0 hsb g1 g2
  dsimp only [StC.v]
  go_enter Tryz.func39, Tryz.ntmps39
  go_wp2_with (at_make; refine wpList_make_own _ rfl _ _ 53 rfl wb.heap.size 58 ti _ 10 Tryz.underlying53 hi hz0 hz1 .i64 .i64 _ sl rfl rfl rfl (by rw [hz2]; omega) (by unfold maxLen; omega) (by rw [HWB.out]; exact Nat.le_refl _) ?_; intro w1 hown1 hg1; rw [← HWB.out] at hown1 hg1; have k2' := (heapGrown hg1 G1.out (by simp) : _); have c2 := cellOf k2' 2; (try dsimp only at c2); have HO1 := hid hown1; have HG1 := hid hg1; clear k2' hown1 hg1 k2)
  clear c2
  have HBS := hid (show Below w.heap.size w w1 from HB0.out.grown HG1.out (by have := HSB.out; omega) (fun r e => by cases e))
  have HZS := hid (show w.heap.size ≤ wb.heap.size by have := HSB.out; omega)
  have HZB := hid (show wb.heap.size ≤ w1.heap.size from HG1.out.size)
  go_loopw [3, 13] (fun vv i wr => ∃ (k : Nat), vv = .slice (some ⟨w.heap.size + 1 + 1, 0, none⟩) k sl ∧ k ≤ sl ∧ i = .int .i64 k ∧ Built slK 58 wb.heap.size wr (.slice (some ⟨w.heap.size + 1 + 1, 0, none⟩) k sl) k d.l ∧ Below wb.heap.size w1 wr) (fun _ i _ => sl - (intOf i).toNat)
  case atStart => exact ⟨0, rfl, Nat.zero_le _, rfl, ⟨[], rfl, (by rw [show w.heap.size + 1 + 1 = wb.heap.size from HSB.out.symm]; exact HO1.out), fun j h => by simp at h⟩, Below.refl _ _⟩
  case round =>
  obtain ⟨k, rfl, hk, rfl, hbu, hbr⟩ := hrel
  obtain ⟨wp, rfl⟩ : ∃ w1 : World, w1 = wr := ⟨_, rfl⟩
  by_cases hlt : k < sl
  · have hkl : k < d.l.length := by have := HLI.out; omega
    obtain ⟨b, o, rfl, hb, hx⟩ := HDI.out.slot (show 0 < sl by omega)
    obtain ⟨x, hxa, hxi⟩ := hx k hkl
    have hbw : Below w.heap.size w wp := HBS.out.trans (hbr.mono HZS.out)
    obtain ⟨x0, x1, x2, x3, x4, x5, x6, x7, x8, x9⟩ := (hxa.same (hbw.block b hb)).slot
    have hlt' : (k : Int) < (sl : Int) := by omega
    have hk0 : (0 : Int) ≤ (k : Int) := by omega
    obtain ⟨cs, hcs, hown, hel⟩ := hbu
    have hvb := Built.own (K := slK) ⟨cs, hcs, hown, hel⟩
    have hba : Below w.heap.size w (wp.alloc (.cells #[.int .i64 x.k.k, .int .i64 x.k.i, .int .i64 x.k.s, .string x.k.t, .slice x.k.la x.k.ll x.k.lc, .slice x.k.fa x.k.fl x.k.fc, .int .i64 x.n, .int .i64 x.t, .slice x.ia x.il x.ic, .slice x.va x.vl x.vc] 58)) := hbw.alloc hbw.size _
    have hbs : wb.heap.size ≤ wp.heap.size := belowSize hbr HZB.out
    have HCS : Hid (Calls Tryz.prog 84 #[.agg #[.int .i64 x.k.k, .int .i64 x.k.i, .int .i64 x.k.s, .string x.k.t, .slice x.k.la x.k.ll x.k.lc, .slice x.k.fa x.k.fl x.k.fc, .int .i64 x.n, .int .i64 x.t, .slice x.ia x.il x.ic, .slice x.va x.vl x.vc]] (wp.alloc (.cells #[.int .i64 x.k.k, .int .i64 x.k.i, .int .i64 x.k.s, .string x.k.t, .slice x.k.la x.k.ll x.k.lc, .slice x.k.fa x.k.fl x.k.fc, .int .i64 x.n, .int .i64 x.t, .slice x.ia x.il x.ic, .slice x.va x.vl x.vc] 58)) fun e w' => ∃ c' : SlC, e = .returned (.agg #[.int .i64 c'.k.k, .int .i64 c'.k.i, .int .i64 c'.k.s, .string c'.k.t, .slice c'.k.la c'.k.ll c'.k.lc, .slice c'.k.fa c'.k.fl c'.k.fc, .int .i64 c'.n, .int .i64 c'.t, .slice c'.ia c'.il c'.ic, .slice c'.va c'.vl c'.vc]) ∧ Below (wp.alloc (.cells #[.int .i64 x.k.k, .int .i64 x.k.i, .int .i64 x.k.s, .string x.k.t, .slice x.k.la x.k.ll x.k.lc, .slice x.k.fa x.k.fl x.k.fc, .int .i64 x.n, .int .i64 x.t, .slice x.ia x.il x.ic, .slice x.va x.vl x.vc] 58)).heap.size (wp.alloc (.cells #[.int .i64 x.k.k, .int .i64 x.k.i, .int .i64 x.k.s, .string x.k.t, .slice x.k.la x.k.ll x.k.lc, .slice x.k.fa x.k.fl x.k.fc, .int .i64 x.n, .int .i64 x.t, .slice x.ia x.il x.ic, .slice x.va x.vl x.vc] 58)) w' ∧ IsSl (fun b => (wp.alloc (.cells #[.int .i64 x.k.k, .int .i64 x.k.i, .int .i64 x.k.s, .string x.k.t, .slice x.k.la x.k.ll x.k.lc, .slice x.k.fa x.k.fl x.k.fc, .int .i64 x.n, .int .i64 x.t, .slice x.ia x.il x.ic, .slice x.va x.vl x.vc] 58)).heap.size ≤ b ∧ b < w'.heap.size) w' c' d.l[k]) := hid (cloneSlot_call x d.l[k] (wp.alloc (.cells #[.int .i64 x.k.k, .int .i64 x.k.i, .int .i64 x.k.s, .string x.k.t, .slice x.k.la x.k.ll x.k.lc, .slice x.k.fa x.k.fl x.k.fc, .int .i64 x.n, .int .i64 x.t, .slice x.ia x.il x.ic, .slice x.va x.vl x.vc] 58)) (slK.same (fun b q => ⟨by have := hba.size; omega, hba.block b q⟩) hxi))
    have HVB := hid hvb
    have HOWN := hid hown
    have HEL := hid hel
    have HCL := hid hcs
    have HBR := hid hbr
    clear hvb hown hel hcs hba hbr hxi hxa hx hb hbw
    have hcap1 : k + 1 ≤ maxLen := by unfold maxLen; omega
    have hcap2 : (k + 1) * 152 ≤ 140737488355328 := by omega
    go_wp2_with (first
      | (go_at_call 84; refine HCS.out.mono ?_; rintro e w4 ⟨c4, rfl, hb4, hi4⟩; have HB4 := hid hb4; have HI4 := hid hi4; clear hb4 hi4)
      | (at_builtin; refine wpList_append_fit (by rfl) _ _ 53 (by rfl) wb.heap.size 58 ti 10 Tryz.underlying53 hi hz1 (w.heap.size + 1 + 1) k sl (cs.flatMap SlC.cs) (by rfl) ((ownExt (HOWN.out.alloc _) HB4.out).alloc (.cells #[.int .i64 c4.k.k, .int .i64 c4.k.i, .int .i64 c4.k.s, .string c4.k.t, .slice c4.k.la c4.k.ll c4.k.lc, .slice c4.k.fa c4.k.fl c4.k.fc, .int .i64 c4.n, .int .i64 c4.t, .slice c4.ia c4.il c4.ic, .slice c4.va c4.vl c4.vc] 58)) ⟨w4.heap.size, 0, none⟩ 1 1 (SlC.cs c4) (by rfl) (by rfl) (World.news_of_block (heap_alloc_new w4 _)) (by simp [SlC.cs, Value.oneCell']) (by omega) ?_; intro w5 hown2 hgrow hlt2; have HO2 := hid hown2; have HG := hid hgrow; have HAT := hid hlt2; clear hown2 hgrow hlt2))
    go_roundw
    case rel =>
      have h4 := HB4.out.size
      simp only [World.size_alloc] at h4
      have h14 : Below wb.heap.size w1 w4 := HBR.out.trans ((((Below.refl _ wp).alloc (Nat.le_refl _) (.cells #[.int .i64 x.k.k, .int .i64 x.k.i, .int .i64 x.k.s, .string x.k.t, .slice x.k.la x.k.ll x.k.lc, .slice x.k.fa x.k.fl x.k.fc, .int .i64 x.n, .int .i64 x.t, .slice x.ia x.il x.ic, .slice x.va x.vl x.vc] 58)).trans (HB4.out.mono (by simp))).mono hbs)
      have hpush : Built slK 58 wb.heap.size w5 (.slice (some ⟨w.heap.size + 1 + 1, 0, none⟩) (k + 1) sl) (k + 1) d.l :=
        Built.push (K := slK) (N := wp.heap.size) (w1 := w4) (o := (.cells #[.int .i64 c4.k.k, .int .i64 c4.k.i, .int .i64 c4.k.s, .string c4.k.t, .slice c4.k.la c4.k.ll c4.k.lc, .slice c4.k.fa c4.k.fl c4.k.fc, .int .i64 c4.n, .int .i64 c4.t, .slice c4.ia c4.il c4.ic, .slice c4.va c4.vl c4.vc] 58)) (c := c4) HCL.out
          (fun j hj hj' => slK.same (fun b hb => ⟨⟨hb.1, by have := hb.2.1; omega, hb.2.2⟩, (HB4.out.block b (by have := hb.2.1; simp; omega)).trans (Below.heap_alloc _ _ _ (by have := hb.2.1; omega))⟩) (HEL.out j hj hj')) hkl
          (HI4.out.same fun b hb => ⟨⟨by have := hb.1; simp at this; omega, hb.2⟩, rfl⟩) hbs (fun r e => (HVB.out r e).2) HO2.out HG.out (.inl rfl)
      exact ⟨k + 1, rfl, by omega, by go_num, hpush, (h14.alloc (by omega) _).grown HG.out (by simp; omega) (fun r e => (HVB.out r e).1)⟩
    case measure => simp [intOf]; omega
  · obtain rfl : sl = k := by omega
    have hsz0 : wb.heap.size ≤ wp.heap.size := belowSize hbr HZB.out
    have gb : wp.heap[w.heap.size]? = some (.cells #[.int .i64 sn, .int .i64 st, .slice a sl sc] 55) := heapBelow hbr (heapGrown HG1.out G1.out (by simp)) (by have := HSB.out; omega)
    have gr : wp.heap[w.heap.size + 1]? = some (.cells #[.int .i64 0, .int .i64 0, .slice none 0 0] 55) := heapBelow hbr (heapGrown HG1.out G2.out (by simp)) (by have := HSB.out; omega)
    have HBP := hid (HBS.out.trans (hbr.mono HZS.out))
    have HBU := hid hbu
    have HGB := hid gb
    have HGR := hid gr
    have HSP := hid hsz0
    have e0 := cellOf gb 0; have ef0 := freeOf gb 0; have f0 := cellOf gr 0; have ff0 := freeOf gr 0; have e1 := cellOf gb 1; have ef1 := freeOf gb 1; have f1 := cellOf gr 1; have ff1 := freeOf gr 1; have e2 := cellOf gb 2; have ef2 := freeOf gb 2; have f2 := cellOf gr 2; have ff2 := freeOf gr 2
    (try dsimp only at e0 f0 e1 f1 e2 f2)
    clear gb gr hbu hbr hsz0 HO1 HG1 G1 G2 HWB HB0 HBS HZS HZB
    go_wp2
    clear e0 f0 ef0 ff0 e1 f1 ef1 ff1 e2 f2 ef2 ff2
    have hsp := HSP.out
    have hsb := HSB.out
    have h8 := heapSetOther (⟨w.heap.size, 2, none⟩ : Addr) (.slice (some ⟨w.heap.size + 1 + 1, 0, none⟩) sl sl) HGR.out (by dsimp only; omega)
    have h1 := heapSet (o := 2) (.slice (some ⟨w.heap.size + 1 + 1, 0, none⟩) sl sl) (heapSet (o := 1) (.int .i64 st) (heapSet (o := 0) (.int .i64 sn) h8))
    simp only [List.setIfInBounds_toArray, List.set_cons_zero, List.set_cons_succ] at h1
    have hO : ∀ b, b ≠ w.heap.size → b ≠ w.heap.size + 1 → ((((wp.setCell ⟨w.heap.size, 2, none⟩ (.slice (some ⟨w.heap.size + 1 + 1, 0, none⟩) sl sl)).setCell ⟨w.heap.size + 1, 0, none⟩ (.int .i64 sn)).setCell ⟨w.heap.size + 1, 1, none⟩ (.int .i64 st)).setCell ⟨w.heap.size + 1, 2, none⟩ (.slice (some ⟨w.heap.size + 1 + 1, 0, none⟩) sl sl)).heap[b]? = wp.heap[b]? := fun b h2 h3 => (Below.heap_setCell _ _ _ _ h3).trans ((Below.heap_setCell _ _ _ _ h3).trans ((Below.heap_setCell _ _ _ _ h3).trans (Below.heap_setCell _ _ _ _ h2)))
    have hS : ((((wp.setCell ⟨w.heap.size, 2, none⟩ (.slice (some ⟨w.heap.size + 1 + 1, 0, none⟩) sl sl)).setCell ⟨w.heap.size + 1, 0, none⟩ (.int .i64 sn)).setCell ⟨w.heap.size + 1, 1, none⟩ (.int .i64 st)).setCell ⟨w.heap.size + 1, 2, none⟩ (.slice (some ⟨w.heap.size + 1 + 1, 0, none⟩) sl sl)).heap.size = wp.heap.size := by simp [World.setCell]
    have hB9 : Below w.heap.size w ((((wp.setCell ⟨w.heap.size, 2, none⟩ (.slice (some ⟨w.heap.size + 1 + 1, 0, none⟩) sl sl)).setCell ⟨w.heap.size + 1, 0, none⟩ (.int .i64 sn)).setCell ⟨w.heap.size + 1, 1, none⟩ (.int .i64 st)).setCell ⟨w.heap.size + 1, 2, none⟩ (.slice (some ⟨w.heap.size + 1 + 1, 0, none⟩) sl sl)) := (((HBP.out.setCell (p := ⟨w.heap.size, 2, none⟩) (Nat.le_refl _) _).setCell (p := ⟨w.heap.size + 1, 0, none⟩) (by dsimp only; omega) _).setCell (p := ⟨w.heap.size + 1, 1, none⟩) (by dsimp only; omega) _).setCell (p := ⟨w.heap.size + 1, 2, none⟩) (by dsimp only; omega) _
    have hbu9 := (((HBU.out.set (⟨w.heap.size, 2, none⟩ : Addr) (.slice (some ⟨w.heap.size + 1 + 1, 0, none⟩) sl sl) (by dsimp only; omega)).set (⟨w.heap.size + 1, 0, none⟩ : Addr) (.int .i64 sn) (by dsimp only; omega)).set (⟨w.heap.size + 1, 1, none⟩ : Addr) (.int .i64 st) (by dsimp only; omega)).set (⟨w.heap.size + 1, 2, none⟩ : Addr) (.slice (some ⟨w.heap.size + 1 + 1, 0, none⟩) sl sl) (by dsimp only; omega)
    obtain ⟨cs, hcs, hown, hel⟩ := hbu9
    have hlt := (World.ownsRow.lt hown) (w.heap.size + 1 + 1) rfl
    refine bodyPost_ret (v := StC.v ⟨sn, st, (some ⟨w.heap.size + 1 + 1, 0, none⟩), sl, sl⟩) (by simp [results, Tryz.results39, go_sem, cellOf h1]) rfl ⟨w.heap.size + 1 + 1, sl, cs, ?_, hB9, by omega, hlt.2, HLI.out, InRow.ofOwn hcs hown, hcs, fun j h h' => (hel j h h').same fun b q => ⟨⟨by omega, q.2.1, fun e => q.2.2 (by rw [e]; rfl)⟩, rfl⟩⟩
    have h8 := HNT.out.1
    have h9 := HNT.out.2.2.1
    subst h8; subst h9
    rfl
end Go.Proofs.YthjlgpmajeafpaaGreatDoor

/-
  slices.Insert of one slot into a row that is full: the row in a new block. Conditions: the row lies in one block; the slot's cells can be read.
-/
namespace Go.Proofs.YthjlgpmajeafpaaGreatDoor
open Go Go.RowKit Go.Shelf
set_option linter.unusedVariables false
set_option linter.unusedSimpArgs false

abbrev zeroC : SlC := ⟨⟨0, 0, 0, ⟨#[]⟩, none, 0, 0, none, 0, 0⟩, 0, 0, none, 0, 0, none, 0, 0⟩
theorem one_sl : ∀ (x : SlC), ∀ u ∈ slK.cs x, u.oneCell' = true := fun x u hu => by
  simp only [SlC.cs, List.mem_cons, List.not_mem_nil, or_false] at hu
  rcases hu with rfl | rfl | rfl | rfl | rfl | rfl | rfl | rfl | rfl | rfl <;> rfl
theorem ins_list {α : Type} (cs : List α) (z x : α) (i n : Nat) (hn : cs.length = n) (hi : i < n) :
    ((cs.take i ++ List.replicate (n + 1 - i) z).take i ++ [x] ++ (cs.take i ++ List.replicate (n + 1 - i) z).drop (i + 1)).take (i + 1) ++ cs.drop i ++ ((cs.take i ++ List.replicate (n + 1 - i) z).take i ++ [x] ++ (cs.take i ++ List.replicate (n + 1 - i) z).drop (i + 1)).drop (i + 1 + (n - i)) = cs.take i ++ x :: cs.drop i := by
  obtain ⟨A, hA⟩ : ∃ A, A = cs.take i := ⟨_, rfl⟩
  obtain ⟨R, hR⟩ : ∃ R, R = List.replicate (n + 1 - i) z := ⟨_, rfl⟩
  have hAl : A.length = i := by rw [hA, List.length_take]; omega
  have hRl : R.length = n + 1 - i := by rw [hR, List.length_replicate]
  rw [← hA, ← hR]
  have e1 : (A ++ R).take i = A := List.take_left' hAl
  rw [e1]
  have hl : (A ++ [x]).length = i + 1 := by rw [List.length_append, hAl]; rfl
  have e2 : (A ++ [x] ++ (A ++ R).drop (i + 1)).take (i + 1) = A ++ [x] := List.take_left' hl
  have e3 : (A ++ [x] ++ (A ++ R).drop (i + 1)).drop (i + 1 + (n - i)) = [] := by
    apply List.drop_eq_nil_of_le
    rw [List.length_append, hl, List.length_drop, List.length_append, hAl, hRl]
    omega
  rw [e2, e3]
  simp
def InsPost (w : World) (n : Nat) (cs : List SlC) (e : Ending) (w' : World) : Prop := ∃ (g cap : Nat), e = .returned (.slice (some ⟨g, 0, none⟩) n cap) ∧ w.heap.size ≤ g ∧ g < w'.heap.size ∧ Below w.heap.size w w' ∧ InRow slK 58 w' g cap cs

set_option maxRecDepth 100000 in
set_option maxHeartbeats 4000000 in
theorem insertS_call (g n i : Nat) (cs : List SlC) (gv cv : Nat) (x : SlC) (w : World) (hg : g < w.heap.size) (hrow : InRow slK 58 w g n cs) (hn : cs.length = n) (hi : i ≤ n) (hb : n ≤ 100000) (hx : Cl slK w (some ⟨gv, 0, none⟩) 1 [x]) :
    Calls Tryz.prog 99 #[.slice (some ⟨g, 0, none⟩) n n, .int .i64 i, .slice (some ⟨gv, 0, none⟩) 1 cv] w (InsPost w (n + 1) (cs.take i ++ x :: cs.drop i)) := by
  obtain ⟨ti, hi0, hz0, hz1, hz2⟩ := info_parts infoSlot
  have hcl : Cl slK w (some ⟨g, 0, none⟩) n cs := by
    have h := hrow.cl 0 n (by omega)
    rw [Nat.zero_mul, List.drop_zero, List.take_of_length_le (by omega)] at h
    exact h
  have HN := hid hn
  by_cases hin : i = n
  · subst hin
    obtain ⟨cap', o, hrun, hrow', hcap⟩ := run_grow (K := slK) (P := Tryz.prog) (ty := 53) Tryz.underlying53 hi0 hz0 (by rw [hz1]) (by rw [hz2]; omega) rfl one_sl (some ⟨g, 0, none⟩) i i cs hcl (some ⟨gv, 0, none⟩) 1 cv [x] hx (by omega) (by omega)
    have HROW := hid hrow'
    have HBB := hid (show Below w.heap.size w (w.drew.alloc o) from ((Below.refl _ w).drew).alloc (Nat.le_refl _) o)
    have HSS := hid (show (w.drew.alloc o).heap.size = w.heap.size + 1 by simp)
    obtain ⟨w2, hw2⟩ : ∃ w2, w2 = w.drew.alloc o := ⟨_, rfl⟩
    rw [← hw2] at hrun HROW HBB HSS
    clear hw2 hrow' hcl hrow hn hx hi0 hz0 hz1 hz2
    go_enter Tryz.func99, Tryz.ntmps99
    go_wp2_with (at_builtin; refine wpList_append_run' (by rfl) _ _ _ _ (by rfl) _ _ _ _ (by rfl) (by rfl) hrun ?_)
    go_ret
    refine ⟨w.heap.size, cap', rfl, Nat.le_refl _, by rw [HSS.out]; omega, HBB.out, ?_⟩
    have h := HROW.out
    rw [List.take_of_length_le (by have := HN.out; omega), List.drop_eq_nil_of_le (by have := HN.out; omega)]
    exact h
  · have hlt : i < n := by omega
    have hkk : (n : Int) + 1 - (i : Int) = ((n + 1 - i : Nat) : Int) := by omega
    obtain ⟨G, o, hrun, hrow1, hG⟩ := run_grow_zeros (K := slK) (P := Tryz.prog) (t := 53) (tn := 3) (ty := 53) (kq := .i64) Tryz.underlying53 Tryz.underlying3 hi0 hz0 (by rw [hz1]) (by rw [hz2]; omega) zeroC rfl (some ⟨g, 0, none⟩) i n (cs.take i) (cl_take hcl i hi) (n + 1 - i) (by omega) (by omega) (by omega)
    rw [← hkk] at hrun
    rw [show i + (n + 1 - i) = n + 1 by omega] at hrun hG
    have HB1 := hid (show Below w.heap.size w (w.drew.alloc o) from ((Below.refl _ w).drew).alloc (Nat.le_refl _) o)
    have HS1 := hid (show (w.drew.alloc o).heap.size = w.heap.size + 1 by simp)
    obtain ⟨w1, hw1⟩ : ∃ w1, w1 = w.drew.alloc o := ⟨_, rfl⟩
    rw [← hw1] at hrun HB1 HS1 hrow1
    clear hw1
    have hx1 : Cl slK w1 (some ⟨gv, 0, none⟩) 1 [x] := hx.ext HB1.out
    have hlen1 : (cs.take i ++ List.replicate (n + 1 - i) zeroC).length = n + 1 := by rw [List.length_append, List.length_take, List.length_replicate]; omega
    obtain ⟨w2, hr2, hrow2, ho2⟩ := run_copy_in (K := slK) (P := Tryz.prog) (w := w1) (dT := 53) (sT := 53) (ty := 3) Tryz.underlying53 hi0 (by rw [hz1]) one_sl hrow1 i 1 (n + 1 - i) (G - i) cv hx1 (by omega) (by omega)
    have hcb : Cl slK w2.drew (some ⟨g, i * 10, none⟩) (n - i) (cs.drop i) := by
      have h1 := (ho2.cl (by omega) ((hcl.ext HB1.out))).ext ((Below.refl _ w2).drew)
      have h2 := cl_drop h1 i hi
      rw [Nat.zero_add] at h2
      exact h2
    have HCB := hid hcb
    have HR2 := hid hrow2
    have HO12 := hid ho2
    have HLB := hid (show i + 1 + (n - i) ≤ ((cs.take i ++ List.replicate (n + 1 - i) zeroC).take i ++ [x] ++ (cs.take i ++ List.replicate (n + 1 - i) zeroC).drop (i + 1)).length by
      simp only [List.length_append, List.length_take, List.length_drop, List.length_replicate, List.length_singleton]; omega)
    have hGi : ¬ (G = i) := by omega
    have hGi1 : ¬ (G = i + 1) := by omega
    have hni : ¬ (n = i) := by omega
    have hw1 : IntKind.i64.wrap ((i : Int) + 1) = (i : Int) + 1 := IntWalk.i64_in _ (by omega)
    have hb1 : (0 : Int) ≤ (i : Int) + 1 := by omega
    have htn : ((i : Int) + 1).toNat = i + 1 := by omega
    have hb2 : ¬ (i : Int) = (n : Int) := by omega
    have hb3 : (i : Int) ≤ (n : Int) := by omega
    have hb4 : (i : Int) + 1 ≤ (n : Int) + 1 := by omega
    have hb5 : (i : Int) < (n : Int) := by omega
    clear hcb hrow2 ho2 hx1 hrow1 hcl hrow hn hx hkk hlen1 hin
    go_enter Tryz.func99, Tryz.ntmps99
    go_upto_region 11 with (first
      | (at_builtin; refine wpList_append_run' (by rfl) _ _ _ _ (by rfl) _ _ _ _ (by rfl) (by rfl) hrun ?_)
      | (with_reducible refine wpList_copy_run' (by rfl) _ _ _ _ (by rfl) _ _ _ w2 (by rfl) (by rfl) hr2 ?_))
    clear hrun hr2
    refine wp_region_split 9 (fun _ => True) (by kernel_rfl) (by kernel_rfl) (by kernel_rfl) (by decide) (trivial) (fun hS => ?_)
    simp only [List.take_succ_cons, List.take_zero, List.drop_succ_cons, List.drop_zero]
    refine wpAnyH_take (i := 0) (oi := _) (v := ?_) rfl (by kernel_rfl) (by kernel_rfl) (by kernel_rfl) (fun _ _ _ h => h) (Or.inl ⟨by rfl, ?_⟩) hS ?_
    rotate_left
    · intro w' hw'
      (try dsimp only at hw')
      go_simp
      (try with_reducible rfl)
    simp only [Act.put, List.getElem_toArray, List.getElem_cons_succ, List.getElem_cons_zero, List.setIfInBounds_toArray, List.set_cons_zero, List.set_cons_succ]
    refine wpAnyH_take (i := 1) (oi := _) (v := ?_) rfl (by kernel_rfl) (by kernel_rfl) (by kernel_rfl) (fun _ _ _ h => h) (Or.inl ⟨by rfl, ?_⟩) hS ?_
    rotate_left
    · intro w' hw'
      (try dsimp only at hw')
      go_simp
      (try with_reducible rfl)
    simp only [Act.put, List.getElem_toArray, List.getElem_cons_succ, List.getElem_cons_zero, List.setIfInBounds_toArray, List.set_cons_zero, List.set_cons_succ]
    refine wpAnyH_take (i := 2) (oi := _) (v := ?_) rfl (by kernel_rfl) (by kernel_rfl) (by kernel_rfl) (fun _ _ _ h => h) (Or.inl ⟨by rfl, ?_⟩) hS ?_
    rotate_left
    · intro w' hw'
      (try dsimp only at hw')
      go_simp
      (try with_reducible rfl)
    simp only [Act.put, List.getElem_toArray, List.getElem_cons_succ, List.getElem_cons_zero, List.setIfInBounds_toArray, List.set_cons_zero, List.set_cons_succ]
    refine wpAnyH_take (i := 3) (oi := _) (v := ?_) rfl (by kernel_rfl) (by kernel_rfl) (by kernel_rfl) (fun _ _ _ h => h) (Or.inl ⟨by rfl, ?_⟩) hS ?_
    rotate_left
    · intro w' hw'
      (try dsimp only at hw')
      go_simp
      (try with_reducible rfl)
    simp only [Act.put, List.getElem_toArray, List.getElem_cons_succ, List.getElem_cons_zero, List.setIfInBounds_toArray, List.set_cons_zero, List.set_cons_succ]
    refine wpAnyH_take (i := 4) (oi := _) (v := ?_) rfl (by kernel_rfl) (by kernel_rfl) (by kernel_rfl) (fun _ _ _ h => h) (Or.inl ⟨by rfl, ?_⟩) hS ?_
    rotate_left
    · intro w' hw'
      (try dsimp only at hw')
      go_simp
      (try with_reducible rfl)
    simp only [Act.put, List.getElem_toArray, List.getElem_cons_succ, List.getElem_cons_zero, List.setIfInBounds_toArray, List.set_cons_zero, List.set_cons_succ]
    refine wpAnyH_take (i := 5) (oi := _) (v := ?_) rfl (by kernel_rfl) (by kernel_rfl) (by kernel_rfl) (fun _ _ _ h => h) (Or.inl ⟨by rfl, ?_⟩) hS ?_
    rotate_left
    · intro w' hw'
      (try dsimp only at hw')
      go_simp
      (try with_reducible rfl)
    simp only [Act.put, List.getElem_toArray, List.getElem_cons_succ, List.getElem_cons_zero, List.setIfInBounds_toArray, List.set_cons_zero, List.set_cons_succ]
    refine wpAnyH_take (i := 6) (oi := _) (v := ?_) rfl (by kernel_rfl) (by kernel_rfl) (by kernel_rfl) (fun _ _ _ h => h) (Or.inl ⟨by rfl, ?_⟩) hS ?_
    rotate_left
    · intro w' hw'
      (try dsimp only at hw')
      go_simp
      (try with_reducible rfl)
    simp only [Act.put, List.getElem_toArray, List.getElem_cons_succ, List.getElem_cons_zero, List.setIfInBounds_toArray, List.set_cons_zero, List.set_cons_succ]
    refine wpAnyH_take (i := 7) (oi := _) (v := ?_) rfl (by kernel_rfl) (by kernel_rfl) (by kernel_rfl) (fun _ _ _ h => h) (Or.inl ⟨by rfl, ?_⟩) hS ?_
    rotate_left
    · intro w' hw'
      (try dsimp only at hw')
      go_simp
      (try with_reducible rfl)
    simp only [Act.put, List.getElem_toArray, List.getElem_cons_succ, List.getElem_cons_zero, List.setIfInBounds_toArray, List.set_cons_zero, List.set_cons_succ]
    refine wpAnyH_ready (rs := [8]) (by kernel_rfl) (by simp) ?_
    refine AllReadyH.cons (o := _) rfl (fun K hK => ?_) AllReadyH.nil
    obtain ⟨w3, hr3, hrow3, ho3⟩ := run_copy_in (K := slK) (P := Tryz.prog) (w := w2.drew) (dT := 53) (sT := 53) (ty := 3) Tryz.underlying53 hi0 (by rw [hz1]) one_sl (HR2.out.ext ((Below.refl _ _).drew)) (i + 1) (n - i) (n - i) (G - (i + 1)) (n - i) (HCB.out) (Nat.le_refl _) HLB.out
    have HR3 := hid hrow3
    have HO3 := hid ho3
    clear hrow3 ho3
    refine step_copy_run' (by rfl) _ _ _ _ (by rfl) (.slice (some ⟨w.heap.size, (i + 1) * 10, none⟩) (n - i) (G - (i + 1))) (.slice (some ⟨g, i * 10, none⟩) (n - i) (n - i)) _ w3 (by rfl) (by rfl) hr3 ?_
    clear hr3
    refine hK.out _ _ (trivial) (fun hS => ?_)
    clear hK K
    (try simp only [Act.put, List.getElem_toArray, List.getElem_cons_succ, List.getElem_cons_zero, List.setIfInBounds_toArray, List.set_cons_zero, List.set_cons_succ])
    refine wpAnyH_done (by kernel_rfl) ?_ _
    (try dsimp only)
    clear hS
    go_wp2
    go_ret
    have hO := HO12.out.trans (Off.of (g := w.heap.size) ((Below.refl _ w2).drew))
    refine ⟨w.heap.size, G, rfl, Nat.le_refl _, ?_, ?_, ?_⟩
    · have h1 := HS1.out; have h2 := HO12.out.size; have h3 := HO3.out.size; simp at h3; omega
    · exact HB1.out.trans ((hO.trans HO3.out).below (Nat.le_refl _) (by have := HS1.out; omega))
    · have h := HR3.out; rw [ins_list _ _ _ _ _ HN.out hlt] at h; exact h
end Go.Proofs.YthjlgpmajeafpaaGreatDoor
