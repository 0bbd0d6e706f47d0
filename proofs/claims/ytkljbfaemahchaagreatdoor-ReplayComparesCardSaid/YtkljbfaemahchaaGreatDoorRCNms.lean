/-
  manifoldlaw54.names: the names of effects, in order, each once. Conditions: the effects can be read as data, at most a hundred.
-/
import Derived.Test.YtkljbfaemahchaaGreatDoorRT25Mrg
import Derived.Test.YtkljbfaemahchaaGreatDoorRCKpt
import Derived.Sort.Walk0
namespace Go.Proofs.YtkljbfaemahchaaGreatDoor
open Go Go.RowKit Go.Shelf Go.Sort
set_option linter.unusedVariables false
set_option linter.unusedSimpArgs false
attribute [local go_sem ↓] Go.wp_at_zero Go.wp_at_succ

@[reducible] def strK : Kit TB TB := ⟨1, 16, fun s => [encStr s], fun _ => rfl, by decide, fun _ _ c d => c = d, fun _ h => h⟩
theorem flatS (zs : List TB) : zs.flatMap strK.cs = zs.map encStr := by
  induction zs with
  | nil => rfl
  | cons x r ih => rw [List.flatMap_cons, ih]; rfl
theorem keptS {T B : Nat} {w : World} {v : Value} {k : Nat} {zs : List TB} (h : Kept strK T B w v k zs) : w.ownsRow B T 1 v zs.length (zs.map encStr) ∧ zs.length = k := by
  obtain ⟨cs, h1, h2, h3, h4⟩ := h
  obtain rfl : cs = zs := List.ext_getElem (h1.trans h2.symm) fun j hj hj' => h4 j hj hj'
  rw [flatS] at h3
  rw [h2]
  exact ⟨h3, rfl⟩
theorem one_st : ∀ (x : TB), ∀ u ∈ strK.cs x, u.oneCell' = true := fun x u hu => by
  simp only [List.mem_cons, List.not_mem_nil, or_false] at hu
  subst hu
  rfl
theorem lessL (x y : TB) : Op.bytesLess (ofL x).toList (ofL y).toList = decide (x < y) := by
  rw [ByteArray.toList_eq, ByteArray.toList_eq]
  exact bytesLess_eq x y
theorem eqL' (x y : TB) : ((ofL x).toList == (ofL y).toList) = decide (x = y) := by
  rw [ByteArray.toList_eq, ByteArray.toList_eq, Bool.eq_iff_iff]
  simp [ofL]
theorem clT {w : World} {a : Option Addr} {n : Nat} {cs : List TB} (h : Cl strK w a n cs) (i : Nat) (hi : i ≤ n) : Cl strK w a i (cs.take i) := by
  refine ⟨by rw [List.length_take, h.len]; omega, ?_⟩
  rcases h.at' with h0 | ⟨ad, ha, hc⟩
  · exact .inl (by omega)
  · refine .inr ⟨ad, ha, fun t u hu => hc t u ?_⟩
    rw [flatS] at hu ⊢
    rw [List.map_take, List.getElem?_take] at hu
    split at hu
    · exact hu
    · cases hu
theorem clD {w : World} {b : Nat} {n : Nat} {cs : List TB} (h : Cl strK w (some ⟨b, 0, none⟩) n cs) (i : Nat) (hi : i ≤ n) : Cl strK w (some ⟨b, i, none⟩) (n - i) (cs.drop i) := by
  refine ⟨by rw [List.length_drop, h.len], ?_⟩
  rcases h.at' with h0 | ⟨ad, ha, hc⟩
  · exact .inl (by omega)
  · cases ha
    refine .inr ⟨_, rfl, fun t u hu => ?_⟩
    rw [flatS, List.map_drop, List.getElem?_drop] at hu
    have := hc (i + t) u (by rw [flatS]; exact hu)
    rw [← this]
    congr 1
    unfold Addr.add
    split <;> split <;> simp_all
theorem keptCl {T B : Nat} {w : World} {p : Option Addr} {n c k : Nat} {zs : List TB} (h : Kept strK T B w (.slice p n c) k zs) : Cl strK w p zs.length zs := by
  have h1 := (keptS h).1
  refine ⟨rfl, ?_⟩
  rcases h1.2 with ⟨_, h0⟩ | ⟨g, cap, cur, e, _⟩
  · exact .inl h0
  · cases e
    refine .inr ⟨_, rfl, fun t u hu => ?_⟩
    rw [flatS] at hu
    exact World.ownsRow.cells h1 rfl t u hu
/-- What stands behind the insertion. -/
theorem ins_inc {zs : List TB} {nb : TB} {j : Nat} (h : Inc zs) (hj : j ≤ zs.length) (h1 : ∀ i (h : i < zs.length), i < j → zs[i] < nb) (h2 : ∀ h : j < zs.length, ¬ zs[j] < nb ∧ zs[j] ≠ nb) :
    Inc (zs.take j ++ [nb] ++ zs.drop j) ∧ ∀ x, x ∈ zs.take j ++ [nb] ++ zs.drop j ↔ x ∈ zs ∨ nb = x := by
  have hlo : ∀ x ∈ zs.take j, x < nb := fun x hx => by
    obtain ⟨i, hi, rfl⟩ := List.getElem_of_mem hx
    rw [List.length_take] at hi
    rw [List.getElem_take]
    exact h1 i (by omega) (by omega)
  have hhi : ∀ x ∈ zs.drop j, nb ≤ x ∧ nb ≠ x := fun x hx => by
    obtain ⟨i, hi, rfl⟩ := List.getElem_of_mem hx
    rw [List.length_drop] at hi
    rw [List.getElem_drop]
    obtain ⟨q1, q2⟩ := h2 (by omega)
    have q3 : nb ≤ zs[j] := List.not_lt.1 q1
    by_cases e : i = 0
    · subst e
      exact ⟨q3, fun e => q2 e.symm⟩
    · have hp := List.pairwise_iff_getElem.1 h j (j + i) (by omega) (by omega) (by omega)
      refine ⟨List.le_trans q3 hp.1, fun e => ?_⟩
      rw [← e] at hp
      exact q2 (List.le_antisymm hp.1 q3)
  constructor
  · unfold Inc
    rw [List.append_assoc, List.pairwise_append]
    refine ⟨List.Pairwise.sublist (List.take_sublist _ _) h, ?_, ?_⟩
    · rw [List.singleton_append, List.pairwise_cons]
      exact ⟨hhi, List.Pairwise.sublist (List.drop_sublist _ _) h⟩
    · intro x hx y hy
      rcases List.mem_append.1 hy with hy | hy
      · obtain rfl : y = nb := by simpa using hy
        exact ⟨List.le_of_lt (hlo x hx), fun e => List.lt_irrefl _ (e ▸ hlo x hx)⟩
      · exact ⟨List.le_trans (List.le_of_lt (hlo x hx)) (hhi y hy).1, fun e => absurd (hlo x hx) (List.not_lt.2 (by rw [e]; exact (hhi y hy).1))⟩
  · intro x
    have e : x ∈ zs ↔ x ∈ zs.take j ∨ x ∈ zs.drop j := by rw [← List.mem_append, List.take_append_drop]
    rw [e]
    simp only [List.mem_append, List.mem_cons, List.not_mem_nil, or_false]
    constructor
    · rintro ((h | h) | h)
      · exact .inl (.inl h)
      · exact .inr h.symm
      · exact .inl (.inr h)
    · rintro ((h | h) | h)
      · exact .inl (.inl h)
      · exact .inr h
      · exact .inl (.inr h.symm)

set_option maxRecDepth 100000 in
set_option maxHeartbeats 16000000 in
theorem lNames_call (a : Option Addr) (n c : Nat) (l : List Ef) (w : World) (hl : IsRow efK (· < w.heap.size) w a n c l) (hn : n ≤ 100) :
    Calls Tryz.prog 72 #[.slice a n c] w fun e w' => ∃ v zs, e = .returned v ∧ w'.ownsRow w.heap.size 9 1 v zs.length (zs.map encStr) ∧ (Inc zs ∧ ∀ x, x ∈ zs ↔ ∃ e ∈ l, e.nm.data.toList = x) ∧ Below w.heap.size w w' := by
  obtain ⟨ti, hi, hz0, hz1, hz2⟩ := info_parts infoStr
  have HL := hid (And.intro hl.len hn)
  have HD := hid hl
  clear hl hn
  obtain ⟨B, hB⟩ : ∃ B, B = w.heap.size := ⟨_, rfl⟩
  have HB := hid hB
  rw [← hB]
  clear hB
  go_enter Tryz.func72, Tryz.ntmps72
  go_wp2
  go_loopw [3, 4] (fun v iv wr => ∃ (k : Nat) (zs : List TB), k ≤ n ∧ iv = .int .i64 k ∧ Kept strK 9 B wr v zs.length zs ∧ zs.length ≤ k ∧ (zs = [] → v = .slice none 0 0) ∧ (Inc zs ∧ ∀ x, x ∈ zs ↔ ∃ e ∈ l.take k, e.nm.data.toList = x) ∧ Below B w wr) (fun _ i _ => n - (intOf i).toNat)
  case atStart => exact ⟨0, [], Nat.zero_le _, rfl, Kept.nil _ _ _, Nat.le_refl _, fun _ => rfl, ⟨List.Pairwise.nil, fun x => by simp⟩, Below.refl _ _⟩
  case round =>
    obtain ⟨k, zs, hk, rfl, hkept, hzk, hnil, hinc, hbr⟩ := hrel
    obtain ⟨wo, hwo⟩ : ∃ w1 : World, w1 = wr := ⟨_, rfl⟩
    rw [← hwo] at hkept hbr ⊢
    clear hwo
    have HBR := hid hbr
    have HKE := hid hkept
    have HIN := hid hinc
    obtain ⟨p3, c3, rfl, hc3, hx3⟩ := names_shape (keptS hkept).1
    have HX3 := hid hx3
    have HNI := hid hnil
    clear hx3 hkept hinc hnil
    by_cases hlt : k < n
    · have hkl : k < l.length := by have := HL.out.1; omega
      obtain ⟨b, o, rfl, hb, hx⟩ := HD.out.slot (show 0 < n by omega)
      obtain ⟨x, hxa, hxi⟩ := hx k hkl
      have hlt' : (k : Int) < (n : Int) := by omega
      have hk0 : (0 : Int) ≤ (k : Int) := by omega
      obtain ⟨nb, hnb⟩ : ∃ nb, nb = (l[k]).nm.data.toList := ⟨_, rfl⟩
      have hxn : x.nm = ofL nb := by rw [hnb, ← hxi.nm]; rfl
      have HNM := hid (show ∀ W, Below wo.heap.size wo W → W.cell? ⟨b, o + k * 18 + 1, none⟩ = some (.string (ofL nb)) from fun W h => by
        have h2 : Below B w W := hbr.trans (h.mono (by have := hbr.size; have := HB.out; omega))
        rw [h2.cell (p := ⟨b, o + k * 18 + 1, none⟩) (by rw [HB.out]; exact hb), ← hxn]
        exact hxa 1 (by decide))
      have HTK := hid (show ∀ x, (∃ e ∈ l.take (k + 1), e.nm.data.toList = x) ↔ (∃ e ∈ l.take k, e.nm.data.toList = x) ∨ nb = x from fun x => by
        rw [List.take_succ_eq_append_getElem hkl, hnb]
        constructor
        · rintro ⟨e, he, rfl⟩
          rcases List.mem_append.1 he with h | h
          · exact .inl ⟨e, h, rfl⟩
          · obtain rfl : e = l[k] := by simpa using h
            exact .inr rfl
        · rintro (⟨e, he, rfl⟩ | rfl)
          · exact ⟨e, List.mem_append_left _ he, rfl⟩
          · exact ⟨l[k], List.mem_append_right _ (by simp), rfl⟩)
      have hn100 : n ≤ 100 := HL.out.2
      have hzl : zs.length ≤ 100 := by omega
      clear hxa hxi hx hb hnb hxn hbr
      go_wp2
      go_loopw [5] (fun jv wi => ∃ j : Nat, jv = .int .i64 j ∧ j ≤ zs.length ∧ (∀ i (h : i < zs.length), i < j → zs[i] < nb) ∧ Below wo.heap.size wo wi) (fun jv _ => zs.length + 1 - (intOf jv).toNat)
      case atStart => exact ⟨0, rfl, Nat.zero_le _, fun i h hi => absurd hi (Nat.not_lt_zero _), Below.refl _ _⟩
      case round =>
        obtain ⟨j, rfl, hj1, hlow, hbi⟩ := hrel
        obtain ⟨wi, hwi⟩ : ∃ w1 : World, w1 = wr := ⟨_, rfl⟩
        rw [← hwi] at hbi ⊢
        clear hwi
        have HBI := hid hbi
        have HLOW := hid hlow
        clear hbi hlow
        have hj0 : (0 : Int) ≤ (j : Int) := by omega
        by_cases hm : j < zs.length
        · obtain ⟨g3, rfl, hg3, hcz⟩ := HX3.out j hm
          obtain ⟨y, hy⟩ : ∃ y, y = zs[j] := ⟨_, rfl⟩
          rw [← hy] at hcz
          have HC6 : Hid (∀ W, Below wi.heap.size wi W → W.cell? ⟨g3, j, none⟩ = some (.string (ofL y)) ∧ W.cell? ⟨b, o + k * 18 + 1, none⟩ = some (.string (ofL nb))) := hid fun W h => by
            have hb2 : Below wo.heap.size wo W := HBI.out.trans (h.mono HBI.out.size)
            exact ⟨(hb2.cell (p := ⟨g3, j, none⟩) hg3).trans hcz, HNM.out W hb2⟩
          have hjl : (j : Int) < (zs.length : Int) := by omega
          have HY := hid (show ∀ h : j < zs.length, zs[j] = y from fun _ => hy.symm)
          clear hcz hy hg3
          have hbe := eqL' y nb
          have hbl := lessL y nb
          by_cases hq : y < nb
          · rw [decide_eq_true hq] at hbl
            go_upto_region 6 with (fail)
            refine wp_region_held_drew (S := (fun W => Below wi.heap.size wi W)) (by kernel_rfl) ((Below.refl _ _).drew) (fun hS => ?_)
            refine wpAnyH_take (i := 0) (oi := _) (v := ?_) rfl (by kernel_rfl) (by kernel_rfl) (by kernel_rfl) (fun _ _ _ h => h) (Or.inl ⟨by rfl, ?_⟩) hS ?_
            rotate_left
            · intro w' hw'
              have hcells := HC6.out w' hw'
              go_simp
              (try with_reducible rfl)
            simp only [Act.put, List.getElem_toArray, List.getElem_cons_succ, List.getElem_cons_zero, List.setIfInBounds_toArray, List.set_cons_zero, List.set_cons_succ]
            refine wpAnyH_take (i := 1) (oi := _) (v := ?_) rfl (by kernel_rfl) (by kernel_rfl) (by kernel_rfl) (fun _ _ _ h => h) (Or.inl ⟨by rfl, ?_⟩) hS ?_
            rotate_left
            · intro w' hw'
              have hcells := HC6.out w' hw'
              go_simp
              (try with_reducible rfl)
            simp only [Act.put, List.getElem_toArray, List.getElem_cons_succ, List.getElem_cons_zero, List.setIfInBounds_toArray, List.set_cons_zero, List.set_cons_succ]
            refine wpAnyH_take (i := 2) (oi := _) (v := ?_) rfl (by kernel_rfl) (by kernel_rfl) (by kernel_rfl) (fun _ _ _ h => h) (Or.inl ⟨by rfl, ?_⟩) hS ?_
            rotate_left
            · intro w' hw'
              have hcells := HC6.out w' hw'
              go_simp
              (try with_reducible rfl)
            simp only [Act.put, List.getElem_toArray, List.getElem_cons_succ, List.getElem_cons_zero, List.setIfInBounds_toArray, List.set_cons_zero, List.set_cons_succ]
            refine wpAnyH_take (i := 3) (oi := _) (v := ?_) rfl (by kernel_rfl) (by kernel_rfl) (by kernel_rfl) (fun _ _ _ h => h) (Or.inl ⟨by rfl, ?_⟩) hS ?_
            rotate_left
            · intro w' hw'
              have hcells := HC6.out w' hw'
              go_simp
              (try with_reducible rfl)
            simp only [Act.put, List.getElem_toArray, List.getElem_cons_succ, List.getElem_cons_zero, List.setIfInBounds_toArray, List.set_cons_zero, List.set_cons_succ]
            refine wpAnyH_take (i := 4) (oi := _) (v := ?_) rfl (by kernel_rfl) (by kernel_rfl) (by kernel_rfl) (fun _ _ _ h => h) (Or.inl ⟨by rfl, ?_⟩) hS ?_
            rotate_left
            · intro w' hw'
              have hcells := HC6.out w' hw'
              go_simp
              (try with_reducible rfl)
            simp only [Act.put, List.getElem_toArray, List.getElem_cons_succ, List.getElem_cons_zero, List.setIfInBounds_toArray, List.set_cons_zero, List.set_cons_succ]
            refine wpAnyH_take (i := 5) (oi := _) (v := ?_) rfl (by kernel_rfl) (by kernel_rfl) (by kernel_rfl) (fun _ _ _ h => h) (Or.inl ⟨by rfl, ?_⟩) hS ?_
            rotate_left
            · intro w' hw'
              have hcells := HC6.out w' hw'
              go_simp
              (try with_reducible rfl)
            simp only [Act.put, List.getElem_toArray, List.getElem_cons_succ, List.getElem_cons_zero, List.setIfInBounds_toArray, List.set_cons_zero, List.set_cons_succ]
            refine wpAnyH_take (i := 6) (oi := _) (v := ?_) rfl (by kernel_rfl) (by kernel_rfl) (by kernel_rfl) (fun _ _ _ h => h) (Or.inl ⟨by rfl, ?_⟩) hS ?_
            rotate_left
            · intro w' hw'
              have hcells := HC6.out w' hw'
              go_simp
              (try with_reducible rfl)
            simp only [Act.put, List.getElem_toArray, List.getElem_cons_succ, List.getElem_cons_zero, List.setIfInBounds_toArray, List.set_cons_zero, List.set_cons_succ]
            refine wpAnyH_take (i := 7) (oi := _) (v := ?_) rfl (by kernel_rfl) (by kernel_rfl) (by kernel_rfl) (fun _ _ _ h => h) (Or.inl ⟨by rfl, ?_⟩) hS ?_
            rotate_left
            · intro w' hw'
              have hcells := HC6.out w' hw'
              go_simp
              (try with_reducible rfl)
            simp only [Act.put, List.getElem_toArray, List.getElem_cons_succ, List.getElem_cons_zero, List.setIfInBounds_toArray, List.set_cons_zero, List.set_cons_succ]
            refine wpAnyH_take (i := 8) (oi := _) (v := ?_) rfl (by kernel_rfl) (by kernel_rfl) (by kernel_rfl) (fun _ _ _ h => h) (Or.inl ⟨by rfl, ?_⟩) hS ?_
            rotate_left
            · intro w' hw'
              have hcells := HC6.out w' hw'
              go_simp
              (try with_reducible rfl)
            simp only [Act.put, List.getElem_toArray, List.getElem_cons_succ, List.getElem_cons_zero, List.setIfInBounds_toArray, List.set_cons_zero, List.set_cons_succ]
            refine wpAnyH_take (i := 9) (oi := _) (v := ?_) rfl (by kernel_rfl) (by kernel_rfl) (by kernel_rfl) (fun _ _ _ h => h) (Or.inl ⟨by rfl, ?_⟩) hS ?_
            rotate_left
            · intro w' hw'
              have hcells := HC6.out w' hw'
              go_simp
              (try with_reducible rfl)
            simp only [Act.put, List.getElem_toArray, List.getElem_cons_succ, List.getElem_cons_zero, List.setIfInBounds_toArray, List.set_cons_zero, List.set_cons_succ]
            refine wpAnyH_take (i := 10) (oi := _) (v := ?_) rfl (by kernel_rfl) (by kernel_rfl) (by kernel_rfl) (fun _ _ _ h => h) (Or.inl ⟨by rfl, ?_⟩) hS ?_
            rotate_left
            · intro w' hw'
              have hcells := HC6.out w' hw'
              go_simp
              (try with_reducible rfl)
            simp only [Act.put, List.getElem_toArray, List.getElem_cons_succ, List.getElem_cons_zero, List.setIfInBounds_toArray, List.set_cons_zero, List.set_cons_succ]
            refine wpAnyH_take (i := 11) (oi := _) (v := ?_) rfl (by kernel_rfl) (by kernel_rfl) (by kernel_rfl) (fun _ _ _ h => h) (Or.inl ⟨by rfl, ?_⟩) hS ?_
            rotate_left
            · intro w' hw'
              have hcells := HC6.out w' hw'
              go_simp
              (try with_reducible rfl)
            simp only [Act.put, List.getElem_toArray, List.getElem_cons_succ, List.getElem_cons_zero, List.setIfInBounds_toArray, List.set_cons_zero, List.set_cons_succ]
            refine wpAnyH_take (i := 12) (oi := _) (v := ?_) rfl (by kernel_rfl) (by kernel_rfl) (by kernel_rfl) (fun _ _ _ h => h) (Or.inl ⟨by rfl, ?_⟩) hS ?_
            rotate_left
            · intro w' hw'
              have hcells := HC6.out w' hw'
              go_simp
              (try with_reducible rfl)
            simp only [Act.put, List.getElem_toArray, List.getElem_cons_succ, List.getElem_cons_zero, List.setIfInBounds_toArray, List.set_cons_zero, List.set_cons_succ]
            refine wpAnyH_take (i := 13) (oi := _) (v := ?_) rfl (by kernel_rfl) (by kernel_rfl) (by kernel_rfl) (fun _ _ _ h => h) (Or.inl ⟨by rfl, ?_⟩) hS ?_
            rotate_left
            · intro w' hw'
              have hcells := HC6.out w' hw'
              go_simp
              (try with_reducible rfl)
            simp only [Act.put, List.getElem_toArray, List.getElem_cons_succ, List.getElem_cons_zero, List.setIfInBounds_toArray, List.set_cons_zero, List.set_cons_succ]
            refine wpAnyH_take (i := 14) (oi := _) (v := ?_) rfl (by kernel_rfl) (by kernel_rfl) (by kernel_rfl) (fun _ _ _ h => h) (Or.inl ⟨by rfl, ?_⟩) hS ?_
            rotate_left
            · intro w' hw'
              have hcells := HC6.out w' hw'
              go_simp
              (try with_reducible rfl)
            simp only [Act.put, List.getElem_toArray, List.getElem_cons_succ, List.getElem_cons_zero, List.setIfInBounds_toArray, List.set_cons_zero, List.set_cons_succ]
            refine wpAnyH_take (i := 15) (oi := _) (v := ?_) rfl (by kernel_rfl) (by kernel_rfl) (by kernel_rfl) (fun _ _ _ h => h) (Or.inl ⟨by rfl, ?_⟩) hS ?_
            rotate_left
            · intro w' hw'
              have hcells := HC6.out w' hw'
              go_simp
              (try with_reducible rfl)
            simp only [Act.put, List.getElem_toArray, List.getElem_cons_succ, List.getElem_cons_zero, List.setIfInBounds_toArray, List.set_cons_zero, List.set_cons_succ]
            refine wpAnyH_done (by kernel_rfl) ?_ _
            (try dsimp only)
            have HBJ := hid hS
            clear hS HC6
            go_wp2
            go_roundw
            case rel =>
              refine ⟨j + 1, by go_num, by omega, fun i h hi => ?_, HBI.out.trans (HBJ.out.mono HBI.out.size)⟩
              by_cases e : i = j
              · subst e
                rw [HY.out h]; exact hq
              · exact HLOW.out i h (by omega)
            case measure => simp [intOf]; omega
          · rw [decide_eq_false hq] at hbl
            by_cases he : y = nb
            · rw [decide_eq_true he] at hbe
              have HE := hid he
              clear he
              have hbn : ((ofL y).toList != (ofL nb).toList) = false := by rw [bne, hbe]; rfl
              have hjb : ((j : Int) == (zs.length : Int)) = false := by simp; omega
              go_upto_region 6 with (fail)
              refine wp_region_held_drew (S := (fun W => Below wi.heap.size wi W)) (by kernel_rfl) ((Below.refl _ _).drew) (fun hS => ?_)
              refine wpAnyH_take (i := 0) (oi := _) (v := ?_) rfl (by kernel_rfl) (by kernel_rfl) (by kernel_rfl) (fun _ _ _ h => h) (Or.inl ⟨by rfl, ?_⟩) hS ?_
              rotate_left
              · intro w' hw'
                have hcells := HC6.out w' hw'
                go_simp
                (try with_reducible rfl)
              simp only [Act.put, List.getElem_toArray, List.getElem_cons_succ, List.getElem_cons_zero, List.setIfInBounds_toArray, List.set_cons_zero, List.set_cons_succ]
              refine wpAnyH_take (i := 1) (oi := _) (v := ?_) rfl (by kernel_rfl) (by kernel_rfl) (by kernel_rfl) (fun _ _ _ h => h) (Or.inl ⟨by rfl, ?_⟩) hS ?_
              rotate_left
              · intro w' hw'
                have hcells := HC6.out w' hw'
                go_simp
                (try with_reducible rfl)
              simp only [Act.put, List.getElem_toArray, List.getElem_cons_succ, List.getElem_cons_zero, List.setIfInBounds_toArray, List.set_cons_zero, List.set_cons_succ]
              refine wpAnyH_take (i := 2) (oi := _) (v := ?_) rfl (by kernel_rfl) (by kernel_rfl) (by kernel_rfl) (fun _ _ _ h => h) (Or.inl ⟨by rfl, ?_⟩) hS ?_
              rotate_left
              · intro w' hw'
                have hcells := HC6.out w' hw'
                go_simp
                (try with_reducible rfl)
              simp only [Act.put, List.getElem_toArray, List.getElem_cons_succ, List.getElem_cons_zero, List.setIfInBounds_toArray, List.set_cons_zero, List.set_cons_succ]
              refine wpAnyH_take (i := 3) (oi := _) (v := ?_) rfl (by kernel_rfl) (by kernel_rfl) (by kernel_rfl) (fun _ _ _ h => h) (Or.inl ⟨by rfl, ?_⟩) hS ?_
              rotate_left
              · intro w' hw'
                have hcells := HC6.out w' hw'
                go_simp
                (try with_reducible rfl)
              simp only [Act.put, List.getElem_toArray, List.getElem_cons_succ, List.getElem_cons_zero, List.setIfInBounds_toArray, List.set_cons_zero, List.set_cons_succ]
              refine wpAnyH_take (i := 4) (oi := _) (v := ?_) rfl (by kernel_rfl) (by kernel_rfl) (by kernel_rfl) (fun _ _ _ h => h) (Or.inl ⟨by rfl, ?_⟩) hS ?_
              rotate_left
              · intro w' hw'
                have hcells := HC6.out w' hw'
                go_simp
                (try with_reducible rfl)
              simp only [Act.put, List.getElem_toArray, List.getElem_cons_succ, List.getElem_cons_zero, List.setIfInBounds_toArray, List.set_cons_zero, List.set_cons_succ]
              refine wpAnyH_take (i := 5) (oi := _) (v := ?_) rfl (by kernel_rfl) (by kernel_rfl) (by kernel_rfl) (fun _ _ _ h => h) (Or.inl ⟨by rfl, ?_⟩) hS ?_
              rotate_left
              · intro w' hw'
                have hcells := HC6.out w' hw'
                go_simp
                (try with_reducible rfl)
              simp only [Act.put, List.getElem_toArray, List.getElem_cons_succ, List.getElem_cons_zero, List.setIfInBounds_toArray, List.set_cons_zero, List.set_cons_succ]
              refine wpAnyH_take (i := 6) (oi := _) (v := ?_) rfl (by kernel_rfl) (by kernel_rfl) (by kernel_rfl) (fun _ _ _ h => h) (Or.inl ⟨by rfl, ?_⟩) hS ?_
              rotate_left
              · intro w' hw'
                have hcells := HC6.out w' hw'
                go_simp
                (try with_reducible rfl)
              simp only [Act.put, List.getElem_toArray, List.getElem_cons_succ, List.getElem_cons_zero, List.setIfInBounds_toArray, List.set_cons_zero, List.set_cons_succ]
              refine wpAnyH_take (i := 7) (oi := _) (v := ?_) rfl (by kernel_rfl) (by kernel_rfl) (by kernel_rfl) (fun _ _ _ h => h) (Or.inl ⟨by rfl, ?_⟩) hS ?_
              rotate_left
              · intro w' hw'
                have hcells := HC6.out w' hw'
                go_simp
                (try with_reducible rfl)
              simp only [Act.put, List.getElem_toArray, List.getElem_cons_succ, List.getElem_cons_zero, List.setIfInBounds_toArray, List.set_cons_zero, List.set_cons_succ]
              refine wpAnyH_take (i := 8) (oi := _) (v := ?_) rfl (by kernel_rfl) (by kernel_rfl) (by kernel_rfl) (fun _ _ _ h => h) (Or.inl ⟨by rfl, ?_⟩) hS ?_
              rotate_left
              · intro w' hw'
                have hcells := HC6.out w' hw'
                go_simp
                (try with_reducible rfl)
              simp only [Act.put, List.getElem_toArray, List.getElem_cons_succ, List.getElem_cons_zero, List.setIfInBounds_toArray, List.set_cons_zero, List.set_cons_succ]
              refine wpAnyH_take (i := 9) (oi := _) (v := ?_) rfl (by kernel_rfl) (by kernel_rfl) (by kernel_rfl) (fun _ _ _ h => h) (Or.inl ⟨by rfl, ?_⟩) hS ?_
              rotate_left
              · intro w' hw'
                have hcells := HC6.out w' hw'
                go_simp
                (try with_reducible rfl)
              simp only [Act.put, List.getElem_toArray, List.getElem_cons_succ, List.getElem_cons_zero, List.setIfInBounds_toArray, List.set_cons_zero, List.set_cons_succ]
              refine wpAnyH_take (i := 10) (oi := _) (v := ?_) rfl (by kernel_rfl) (by kernel_rfl) (by kernel_rfl) (fun _ _ _ h => h) (Or.inl ⟨by rfl, ?_⟩) hS ?_
              rotate_left
              · intro w' hw'
                have hcells := HC6.out w' hw'
                go_simp
                (try with_reducible rfl)
              simp only [Act.put, List.getElem_toArray, List.getElem_cons_succ, List.getElem_cons_zero, List.setIfInBounds_toArray, List.set_cons_zero, List.set_cons_succ]
              refine wpAnyH_take (i := 11) (oi := _) (v := ?_) rfl (by kernel_rfl) (by kernel_rfl) (by kernel_rfl) (fun _ _ _ h => h) (Or.inl ⟨by rfl, ?_⟩) hS ?_
              rotate_left
              · intro w' hw'
                have hcells := HC6.out w' hw'
                go_simp
                (try with_reducible rfl)
              simp only [Act.put, List.getElem_toArray, List.getElem_cons_succ, List.getElem_cons_zero, List.setIfInBounds_toArray, List.set_cons_zero, List.set_cons_succ]
              refine wpAnyH_take (i := 12) (oi := _) (v := ?_) rfl (by kernel_rfl) (by kernel_rfl) (by kernel_rfl) (fun _ _ _ h => h) (Or.inl ⟨by rfl, ?_⟩) hS ?_
              rotate_left
              · intro w' hw'
                have hcells := HC6.out w' hw'
                go_simp
                (try with_reducible rfl)
              simp only [Act.put, List.getElem_toArray, List.getElem_cons_succ, List.getElem_cons_zero, List.setIfInBounds_toArray, List.set_cons_zero, List.set_cons_succ]
              refine wpAnyH_take (i := 13) (oi := _) (v := ?_) rfl (by kernel_rfl) (by kernel_rfl) (by kernel_rfl) (fun _ _ _ h => h) (Or.inl ⟨by rfl, ?_⟩) hS ?_
              rotate_left
              · intro w' hw'
                have hcells := HC6.out w' hw'
                go_simp
                (try with_reducible rfl)
              simp only [Act.put, List.getElem_toArray, List.getElem_cons_succ, List.getElem_cons_zero, List.setIfInBounds_toArray, List.set_cons_zero, List.set_cons_succ]
              refine wpAnyH_take (i := 14) (oi := _) (v := ?_) rfl (by kernel_rfl) (by kernel_rfl) (by kernel_rfl) (fun _ _ _ h => h) (Or.inl ⟨by rfl, ?_⟩) hS ?_
              rotate_left
              · intro w' hw'
                have hcells := HC6.out w' hw'
                go_simp
                (try with_reducible rfl)
              simp only [Act.put, List.getElem_toArray, List.getElem_cons_succ, List.getElem_cons_zero, List.setIfInBounds_toArray, List.set_cons_zero, List.set_cons_succ]
              refine wpAnyH_take (i := 15) (oi := _) (v := ?_) rfl (by kernel_rfl) (by kernel_rfl) (by kernel_rfl) (fun _ _ _ h => h) (Or.inl ⟨by rfl, ?_⟩) hS ?_
              rotate_left
              · intro w' hw'
                have hcells := HC6.out w' hw'
                go_simp
                (try with_reducible rfl)
              simp only [Act.put, List.getElem_toArray, List.getElem_cons_succ, List.getElem_cons_zero, List.setIfInBounds_toArray, List.set_cons_zero, List.set_cons_succ]
              refine wpAnyH_done (by kernel_rfl) ?_ _
              (try dsimp only)
              clear hS
              go_upto_region 8 with (fail)
              refine wp_region_held_drew (S := (fun W => Below wi.heap.size wi W)) (by kernel_rfl) ((Below.refl _ _).drew.drew) (fun hS => ?_)
              refine wpAnyH_take (i := 0) (oi := _) (v := ?_) rfl (by kernel_rfl) (by kernel_rfl) (by kernel_rfl) (fun _ _ _ h => h) (Or.inl ⟨by rfl, ?_⟩) hS ?_
              rotate_left
              · intro w' hw'
                have hcells := HC6.out w' hw'
                go_simp
                (try with_reducible rfl)
              simp only [Act.put, List.getElem_toArray, List.getElem_cons_succ, List.getElem_cons_zero, List.setIfInBounds_toArray, List.set_cons_zero, List.set_cons_succ]
              refine wpAnyH_take (i := 1) (oi := _) (v := ?_) rfl (by kernel_rfl) (by kernel_rfl) (by kernel_rfl) (fun _ _ _ h => h) (Or.inl ⟨by rfl, ?_⟩) hS ?_
              rotate_left
              · intro w' hw'
                have hcells := HC6.out w' hw'
                go_simp
                (try with_reducible rfl)
              simp only [Act.put, List.getElem_toArray, List.getElem_cons_succ, List.getElem_cons_zero, List.setIfInBounds_toArray, List.set_cons_zero, List.set_cons_succ]
              refine wpAnyH_take (i := 2) (oi := _) (v := ?_) rfl (by kernel_rfl) (by kernel_rfl) (by kernel_rfl) (fun _ _ _ h => h) (Or.inl ⟨by rfl, ?_⟩) hS ?_
              rotate_left
              · intro w' hw'
                have hcells := HC6.out w' hw'
                go_simp
                (try with_reducible rfl)
              simp only [Act.put, List.getElem_toArray, List.getElem_cons_succ, List.getElem_cons_zero, List.setIfInBounds_toArray, List.set_cons_zero, List.set_cons_succ]
              refine wpAnyH_take (i := 3) (oi := _) (v := ?_) rfl (by kernel_rfl) (by kernel_rfl) (by kernel_rfl) (fun _ _ _ h => h) (Or.inl ⟨by rfl, ?_⟩) hS ?_
              rotate_left
              · intro w' hw'
                have hcells := HC6.out w' hw'
                go_simp
                (try with_reducible rfl)
              simp only [Act.put, List.getElem_toArray, List.getElem_cons_succ, List.getElem_cons_zero, List.setIfInBounds_toArray, List.set_cons_zero, List.set_cons_succ]
              refine wpAnyH_take (i := 4) (oi := _) (v := ?_) rfl (by kernel_rfl) (by kernel_rfl) (by kernel_rfl) (fun _ _ _ h => h) (Or.inl ⟨by rfl, ?_⟩) hS ?_
              rotate_left
              · intro w' hw'
                have hcells := HC6.out w' hw'
                go_simp
                (try with_reducible rfl)
              simp only [Act.put, List.getElem_toArray, List.getElem_cons_succ, List.getElem_cons_zero, List.setIfInBounds_toArray, List.set_cons_zero, List.set_cons_succ]
              refine wpAnyH_take (i := 5) (oi := _) (v := ?_) rfl (by kernel_rfl) (by kernel_rfl) (by kernel_rfl) (fun _ _ _ h => h) (Or.inl ⟨by rfl, ?_⟩) hS ?_
              rotate_left
              · intro w' hw'
                have hcells := HC6.out w' hw'
                go_simp
                (try with_reducible rfl)
              simp only [Act.put, List.getElem_toArray, List.getElem_cons_succ, List.getElem_cons_zero, List.setIfInBounds_toArray, List.set_cons_zero, List.set_cons_succ]
              refine wpAnyH_take (i := 6) (oi := _) (v := ?_) rfl (by kernel_rfl) (by kernel_rfl) (by kernel_rfl) (fun _ _ _ h => h) (Or.inl ⟨by rfl, ?_⟩) hS ?_
              rotate_left
              · intro w' hw'
                have hcells := HC6.out w' hw'
                go_simp
                (try with_reducible rfl)
              simp only [Act.put, List.getElem_toArray, List.getElem_cons_succ, List.getElem_cons_zero, List.setIfInBounds_toArray, List.set_cons_zero, List.set_cons_succ]
              refine wpAnyH_take (i := 7) (oi := _) (v := ?_) rfl (by kernel_rfl) (by kernel_rfl) (by kernel_rfl) (fun _ _ _ h => h) (Or.inl ⟨by rfl, ?_⟩) hS ?_
              rotate_left
              · intro w' hw'
                have hcells := HC6.out w' hw'
                go_simp
                (try with_reducible rfl)
              simp only [Act.put, List.getElem_toArray, List.getElem_cons_succ, List.getElem_cons_zero, List.setIfInBounds_toArray, List.set_cons_zero, List.set_cons_succ]
              refine wpAnyH_take (i := 8) (oi := _) (v := ?_) rfl (by kernel_rfl) (by kernel_rfl) (by kernel_rfl) (fun _ _ _ h => h) (Or.inl ⟨by rfl, ?_⟩) hS ?_
              rotate_left
              · intro w' hw'
                have hcells := HC6.out w' hw'
                go_simp
                (try with_reducible rfl)
              simp only [Act.put, List.getElem_toArray, List.getElem_cons_succ, List.getElem_cons_zero, List.setIfInBounds_toArray, List.set_cons_zero, List.set_cons_succ]
              refine wpAnyH_take (i := 9) (oi := _) (v := ?_) rfl (by kernel_rfl) (by kernel_rfl) (by kernel_rfl) (fun _ _ _ h => h) (Or.inl ⟨by rfl, ?_⟩) hS ?_
              rotate_left
              · intro w' hw'
                have hcells := HC6.out w' hw'
                go_simp
                (try with_reducible rfl)
              simp only [Act.put, List.getElem_toArray, List.getElem_cons_succ, List.getElem_cons_zero, List.setIfInBounds_toArray, List.set_cons_zero, List.set_cons_succ]
              refine wpAnyH_take (i := 10) (oi := _) (v := ?_) rfl (by kernel_rfl) (by kernel_rfl) (by kernel_rfl) (fun _ _ _ h => h) (Or.inl ⟨by rfl, ?_⟩) hS ?_
              rotate_left
              · intro w' hw'
                have hcells := HC6.out w' hw'
                go_simp
                (try with_reducible rfl)
              simp only [Act.put, List.getElem_toArray, List.getElem_cons_succ, List.getElem_cons_zero, List.setIfInBounds_toArray, List.set_cons_zero, List.set_cons_succ]
              refine wpAnyH_take (i := 11) (oi := _) (v := ?_) rfl (by kernel_rfl) (by kernel_rfl) (by kernel_rfl) (fun _ _ _ h => h) (Or.inl ⟨by rfl, ?_⟩) hS ?_
              rotate_left
              · intro w' hw'
                have hcells := HC6.out w' hw'
                go_simp
                (try with_reducible rfl)
              simp only [Act.put, List.getElem_toArray, List.getElem_cons_succ, List.getElem_cons_zero, List.setIfInBounds_toArray, List.set_cons_zero, List.set_cons_succ]
              refine wpAnyH_take (i := 12) (oi := _) (v := ?_) rfl (by kernel_rfl) (by kernel_rfl) (by kernel_rfl) (fun _ _ _ h => h) (Or.inl ⟨by rfl, ?_⟩) hS ?_
              rotate_left
              · intro w' hw'
                have hcells := HC6.out w' hw'
                go_simp
                (try with_reducible rfl)
              simp only [Act.put, List.getElem_toArray, List.getElem_cons_succ, List.getElem_cons_zero, List.setIfInBounds_toArray, List.set_cons_zero, List.set_cons_succ]
              refine wpAnyH_take (i := 13) (oi := _) (v := ?_) rfl (by kernel_rfl) (by kernel_rfl) (by kernel_rfl) (fun _ _ _ h => h) (Or.inl ⟨by rfl, ?_⟩) hS ?_
              rotate_left
              · intro w' hw'
                have hcells := HC6.out w' hw'
                go_simp
                (try with_reducible rfl)
              simp only [Act.put, List.getElem_toArray, List.getElem_cons_succ, List.getElem_cons_zero, List.setIfInBounds_toArray, List.set_cons_zero, List.set_cons_succ]
              refine wpAnyH_take (i := 14) (oi := _) (v := ?_) rfl (by kernel_rfl) (by kernel_rfl) (by kernel_rfl) (fun _ _ _ h => h) (Or.inl ⟨by rfl, ?_⟩) hS ?_
              rotate_left
              · intro w' hw'
                have hcells := HC6.out w' hw'
                go_simp
                (try with_reducible rfl)
              simp only [Act.put, List.getElem_toArray, List.getElem_cons_succ, List.getElem_cons_zero, List.setIfInBounds_toArray, List.set_cons_zero, List.set_cons_succ]
              refine wpAnyH_take (i := 15) (oi := _) (v := ?_) rfl (by kernel_rfl) (by kernel_rfl) (by kernel_rfl) (fun _ _ _ h => h) (Or.inl ⟨by rfl, ?_⟩) hS ?_
              rotate_left
              · intro w' hw'
                have hcells := HC6.out w' hw'
                go_simp
                (try with_reducible rfl)
              simp only [Act.put, List.getElem_toArray, List.getElem_cons_succ, List.getElem_cons_zero, List.setIfInBounds_toArray, List.set_cons_zero, List.set_cons_succ]
              refine wpAnyH_done (by kernel_rfl) ?_ _
              (try dsimp only)
              have HBV := hid (HBI.out.trans (hS.mono HBI.out.size))
              clear hS
              go_wp2
              go_roundw
              case rel =>
                have hs0 := HBR.out.size
                have hs1 := HB.out
                refine ⟨k + 1, zs, by omega, by go_num, HKE.out.ext (by omega) HBV.out, by omega, HNI.out, ⟨HIN.out.1, fun x => ?_⟩, HBR.out.trans (HBV.out.mono (by omega))⟩
                rw [HIN.out.2, HTK.out]
                refine ⟨.inl, fun h => h.elim id fun h => ?_⟩
                rw [← HIN.out.2, ← h, ← HE.out, ← HY.out hm]
                exact List.getElem_mem hm
              case measure => simp [intOf]; omega
            · rw [decide_eq_false he] at hbe
              have hbn : ((ofL y).toList != (ofL nb).toList) = true := by rw [bne, hbe]; rfl
              have hjb : ((j : Int) == (zs.length : Int)) = false := by simp; omega
              have HSTOP := hid (show ∀ h : j < zs.length, ¬ zs[j] < nb ∧ zs[j] ≠ nb from fun h => by rw [HY.out h]; exact ⟨hq, he⟩)
              go_upto_region 6 with (fail)
              refine wp_region_held_drew (S := (fun W => Below wi.heap.size wi W)) (by kernel_rfl) ((Below.refl _ _).drew) (fun hS => ?_)
              refine wpAnyH_take (i := 0) (oi := _) (v := ?_) rfl (by kernel_rfl) (by kernel_rfl) (by kernel_rfl) (fun _ _ _ h => h) (Or.inl ⟨by rfl, ?_⟩) hS ?_
              rotate_left
              · intro w' hw'
                have hcells := HC6.out w' hw'
                go_simp
                (try with_reducible rfl)
              simp only [Act.put, List.getElem_toArray, List.getElem_cons_succ, List.getElem_cons_zero, List.setIfInBounds_toArray, List.set_cons_zero, List.set_cons_succ]
              refine wpAnyH_take (i := 1) (oi := _) (v := ?_) rfl (by kernel_rfl) (by kernel_rfl) (by kernel_rfl) (fun _ _ _ h => h) (Or.inl ⟨by rfl, ?_⟩) hS ?_
              rotate_left
              · intro w' hw'
                have hcells := HC6.out w' hw'
                go_simp
                (try with_reducible rfl)
              simp only [Act.put, List.getElem_toArray, List.getElem_cons_succ, List.getElem_cons_zero, List.setIfInBounds_toArray, List.set_cons_zero, List.set_cons_succ]
              refine wpAnyH_take (i := 2) (oi := _) (v := ?_) rfl (by kernel_rfl) (by kernel_rfl) (by kernel_rfl) (fun _ _ _ h => h) (Or.inl ⟨by rfl, ?_⟩) hS ?_
              rotate_left
              · intro w' hw'
                have hcells := HC6.out w' hw'
                go_simp
                (try with_reducible rfl)
              simp only [Act.put, List.getElem_toArray, List.getElem_cons_succ, List.getElem_cons_zero, List.setIfInBounds_toArray, List.set_cons_zero, List.set_cons_succ]
              refine wpAnyH_take (i := 3) (oi := _) (v := ?_) rfl (by kernel_rfl) (by kernel_rfl) (by kernel_rfl) (fun _ _ _ h => h) (Or.inl ⟨by rfl, ?_⟩) hS ?_
              rotate_left
              · intro w' hw'
                have hcells := HC6.out w' hw'
                go_simp
                (try with_reducible rfl)
              simp only [Act.put, List.getElem_toArray, List.getElem_cons_succ, List.getElem_cons_zero, List.setIfInBounds_toArray, List.set_cons_zero, List.set_cons_succ]
              refine wpAnyH_take (i := 4) (oi := _) (v := ?_) rfl (by kernel_rfl) (by kernel_rfl) (by kernel_rfl) (fun _ _ _ h => h) (Or.inl ⟨by rfl, ?_⟩) hS ?_
              rotate_left
              · intro w' hw'
                have hcells := HC6.out w' hw'
                go_simp
                (try with_reducible rfl)
              simp only [Act.put, List.getElem_toArray, List.getElem_cons_succ, List.getElem_cons_zero, List.setIfInBounds_toArray, List.set_cons_zero, List.set_cons_succ]
              refine wpAnyH_take (i := 5) (oi := _) (v := ?_) rfl (by kernel_rfl) (by kernel_rfl) (by kernel_rfl) (fun _ _ _ h => h) (Or.inl ⟨by rfl, ?_⟩) hS ?_
              rotate_left
              · intro w' hw'
                have hcells := HC6.out w' hw'
                go_simp
                (try with_reducible rfl)
              simp only [Act.put, List.getElem_toArray, List.getElem_cons_succ, List.getElem_cons_zero, List.setIfInBounds_toArray, List.set_cons_zero, List.set_cons_succ]
              refine wpAnyH_take (i := 6) (oi := _) (v := ?_) rfl (by kernel_rfl) (by kernel_rfl) (by kernel_rfl) (fun _ _ _ h => h) (Or.inl ⟨by rfl, ?_⟩) hS ?_
              rotate_left
              · intro w' hw'
                have hcells := HC6.out w' hw'
                go_simp
                (try with_reducible rfl)
              simp only [Act.put, List.getElem_toArray, List.getElem_cons_succ, List.getElem_cons_zero, List.setIfInBounds_toArray, List.set_cons_zero, List.set_cons_succ]
              refine wpAnyH_take (i := 7) (oi := _) (v := ?_) rfl (by kernel_rfl) (by kernel_rfl) (by kernel_rfl) (fun _ _ _ h => h) (Or.inl ⟨by rfl, ?_⟩) hS ?_
              rotate_left
              · intro w' hw'
                have hcells := HC6.out w' hw'
                go_simp
                (try with_reducible rfl)
              simp only [Act.put, List.getElem_toArray, List.getElem_cons_succ, List.getElem_cons_zero, List.setIfInBounds_toArray, List.set_cons_zero, List.set_cons_succ]
              refine wpAnyH_take (i := 8) (oi := _) (v := ?_) rfl (by kernel_rfl) (by kernel_rfl) (by kernel_rfl) (fun _ _ _ h => h) (Or.inl ⟨by rfl, ?_⟩) hS ?_
              rotate_left
              · intro w' hw'
                have hcells := HC6.out w' hw'
                go_simp
                (try with_reducible rfl)
              simp only [Act.put, List.getElem_toArray, List.getElem_cons_succ, List.getElem_cons_zero, List.setIfInBounds_toArray, List.set_cons_zero, List.set_cons_succ]
              refine wpAnyH_take (i := 9) (oi := _) (v := ?_) rfl (by kernel_rfl) (by kernel_rfl) (by kernel_rfl) (fun _ _ _ h => h) (Or.inl ⟨by rfl, ?_⟩) hS ?_
              rotate_left
              · intro w' hw'
                have hcells := HC6.out w' hw'
                go_simp
                (try with_reducible rfl)
              simp only [Act.put, List.getElem_toArray, List.getElem_cons_succ, List.getElem_cons_zero, List.setIfInBounds_toArray, List.set_cons_zero, List.set_cons_succ]
              refine wpAnyH_take (i := 10) (oi := _) (v := ?_) rfl (by kernel_rfl) (by kernel_rfl) (by kernel_rfl) (fun _ _ _ h => h) (Or.inl ⟨by rfl, ?_⟩) hS ?_
              rotate_left
              · intro w' hw'
                have hcells := HC6.out w' hw'
                go_simp
                (try with_reducible rfl)
              simp only [Act.put, List.getElem_toArray, List.getElem_cons_succ, List.getElem_cons_zero, List.setIfInBounds_toArray, List.set_cons_zero, List.set_cons_succ]
              refine wpAnyH_take (i := 11) (oi := _) (v := ?_) rfl (by kernel_rfl) (by kernel_rfl) (by kernel_rfl) (fun _ _ _ h => h) (Or.inl ⟨by rfl, ?_⟩) hS ?_
              rotate_left
              · intro w' hw'
                have hcells := HC6.out w' hw'
                go_simp
                (try with_reducible rfl)
              simp only [Act.put, List.getElem_toArray, List.getElem_cons_succ, List.getElem_cons_zero, List.setIfInBounds_toArray, List.set_cons_zero, List.set_cons_succ]
              refine wpAnyH_take (i := 12) (oi := _) (v := ?_) rfl (by kernel_rfl) (by kernel_rfl) (by kernel_rfl) (fun _ _ _ h => h) (Or.inl ⟨by rfl, ?_⟩) hS ?_
              rotate_left
              · intro w' hw'
                have hcells := HC6.out w' hw'
                go_simp
                (try with_reducible rfl)
              simp only [Act.put, List.getElem_toArray, List.getElem_cons_succ, List.getElem_cons_zero, List.setIfInBounds_toArray, List.set_cons_zero, List.set_cons_succ]
              refine wpAnyH_take (i := 13) (oi := _) (v := ?_) rfl (by kernel_rfl) (by kernel_rfl) (by kernel_rfl) (fun _ _ _ h => h) (Or.inl ⟨by rfl, ?_⟩) hS ?_
              rotate_left
              · intro w' hw'
                have hcells := HC6.out w' hw'
                go_simp
                (try with_reducible rfl)
              simp only [Act.put, List.getElem_toArray, List.getElem_cons_succ, List.getElem_cons_zero, List.setIfInBounds_toArray, List.set_cons_zero, List.set_cons_succ]
              refine wpAnyH_take (i := 14) (oi := _) (v := ?_) rfl (by kernel_rfl) (by kernel_rfl) (by kernel_rfl) (fun _ _ _ h => h) (Or.inl ⟨by rfl, ?_⟩) hS ?_
              rotate_left
              · intro w' hw'
                have hcells := HC6.out w' hw'
                go_simp
                (try with_reducible rfl)
              simp only [Act.put, List.getElem_toArray, List.getElem_cons_succ, List.getElem_cons_zero, List.setIfInBounds_toArray, List.set_cons_zero, List.set_cons_succ]
              refine wpAnyH_take (i := 15) (oi := _) (v := ?_) rfl (by kernel_rfl) (by kernel_rfl) (by kernel_rfl) (fun _ _ _ h => h) (Or.inl ⟨by rfl, ?_⟩) hS ?_
              rotate_left
              · intro w' hw'
                have hcells := HC6.out w' hw'
                go_simp
                (try with_reducible rfl)
              simp only [Act.put, List.getElem_toArray, List.getElem_cons_succ, List.getElem_cons_zero, List.setIfInBounds_toArray, List.set_cons_zero, List.set_cons_succ]
              refine wpAnyH_done (by kernel_rfl) ?_ _
              (try dsimp only)
              clear hS
              go_upto_region 8 with (fail)
              refine wp_region_held_drew (S := (fun W => Below wi.heap.size wi W)) (by kernel_rfl) ((Below.refl _ _).drew.drew) (fun hS => ?_)
              refine wpAnyH_take (i := 0) (oi := _) (v := ?_) rfl (by kernel_rfl) (by kernel_rfl) (by kernel_rfl) (fun _ _ _ h => h) (Or.inl ⟨by rfl, ?_⟩) hS ?_
              rotate_left
              · intro w' hw'
                have hcells := HC6.out w' hw'
                go_simp
                (try with_reducible rfl)
              simp only [Act.put, List.getElem_toArray, List.getElem_cons_succ, List.getElem_cons_zero, List.setIfInBounds_toArray, List.set_cons_zero, List.set_cons_succ]
              refine wpAnyH_take (i := 1) (oi := _) (v := ?_) rfl (by kernel_rfl) (by kernel_rfl) (by kernel_rfl) (fun _ _ _ h => h) (Or.inl ⟨by rfl, ?_⟩) hS ?_
              rotate_left
              · intro w' hw'
                have hcells := HC6.out w' hw'
                go_simp
                (try with_reducible rfl)
              simp only [Act.put, List.getElem_toArray, List.getElem_cons_succ, List.getElem_cons_zero, List.setIfInBounds_toArray, List.set_cons_zero, List.set_cons_succ]
              refine wpAnyH_take (i := 2) (oi := _) (v := ?_) rfl (by kernel_rfl) (by kernel_rfl) (by kernel_rfl) (fun _ _ _ h => h) (Or.inl ⟨by rfl, ?_⟩) hS ?_
              rotate_left
              · intro w' hw'
                have hcells := HC6.out w' hw'
                go_simp
                (try with_reducible rfl)
              simp only [Act.put, List.getElem_toArray, List.getElem_cons_succ, List.getElem_cons_zero, List.setIfInBounds_toArray, List.set_cons_zero, List.set_cons_succ]
              refine wpAnyH_take (i := 3) (oi := _) (v := ?_) rfl (by kernel_rfl) (by kernel_rfl) (by kernel_rfl) (fun _ _ _ h => h) (Or.inl ⟨by rfl, ?_⟩) hS ?_
              rotate_left
              · intro w' hw'
                have hcells := HC6.out w' hw'
                go_simp
                (try with_reducible rfl)
              simp only [Act.put, List.getElem_toArray, List.getElem_cons_succ, List.getElem_cons_zero, List.setIfInBounds_toArray, List.set_cons_zero, List.set_cons_succ]
              refine wpAnyH_take (i := 4) (oi := _) (v := ?_) rfl (by kernel_rfl) (by kernel_rfl) (by kernel_rfl) (fun _ _ _ h => h) (Or.inl ⟨by rfl, ?_⟩) hS ?_
              rotate_left
              · intro w' hw'
                have hcells := HC6.out w' hw'
                go_simp
                (try with_reducible rfl)
              simp only [Act.put, List.getElem_toArray, List.getElem_cons_succ, List.getElem_cons_zero, List.setIfInBounds_toArray, List.set_cons_zero, List.set_cons_succ]
              refine wpAnyH_take (i := 5) (oi := _) (v := ?_) rfl (by kernel_rfl) (by kernel_rfl) (by kernel_rfl) (fun _ _ _ h => h) (Or.inl ⟨by rfl, ?_⟩) hS ?_
              rotate_left
              · intro w' hw'
                have hcells := HC6.out w' hw'
                go_simp
                (try with_reducible rfl)
              simp only [Act.put, List.getElem_toArray, List.getElem_cons_succ, List.getElem_cons_zero, List.setIfInBounds_toArray, List.set_cons_zero, List.set_cons_succ]
              refine wpAnyH_take (i := 6) (oi := _) (v := ?_) rfl (by kernel_rfl) (by kernel_rfl) (by kernel_rfl) (fun _ _ _ h => h) (Or.inl ⟨by rfl, ?_⟩) hS ?_
              rotate_left
              · intro w' hw'
                have hcells := HC6.out w' hw'
                go_simp
                (try with_reducible rfl)
              simp only [Act.put, List.getElem_toArray, List.getElem_cons_succ, List.getElem_cons_zero, List.setIfInBounds_toArray, List.set_cons_zero, List.set_cons_succ]
              refine wpAnyH_take (i := 7) (oi := _) (v := ?_) rfl (by kernel_rfl) (by kernel_rfl) (by kernel_rfl) (fun _ _ _ h => h) (Or.inl ⟨by rfl, ?_⟩) hS ?_
              rotate_left
              · intro w' hw'
                have hcells := HC6.out w' hw'
                go_simp
                (try with_reducible rfl)
              simp only [Act.put, List.getElem_toArray, List.getElem_cons_succ, List.getElem_cons_zero, List.setIfInBounds_toArray, List.set_cons_zero, List.set_cons_succ]
              refine wpAnyH_take (i := 8) (oi := _) (v := ?_) rfl (by kernel_rfl) (by kernel_rfl) (by kernel_rfl) (fun _ _ _ h => h) (Or.inl ⟨by rfl, ?_⟩) hS ?_
              rotate_left
              · intro w' hw'
                have hcells := HC6.out w' hw'
                go_simp
                (try with_reducible rfl)
              simp only [Act.put, List.getElem_toArray, List.getElem_cons_succ, List.getElem_cons_zero, List.setIfInBounds_toArray, List.set_cons_zero, List.set_cons_succ]
              refine wpAnyH_take (i := 9) (oi := _) (v := ?_) rfl (by kernel_rfl) (by kernel_rfl) (by kernel_rfl) (fun _ _ _ h => h) (Or.inl ⟨by rfl, ?_⟩) hS ?_
              rotate_left
              · intro w' hw'
                have hcells := HC6.out w' hw'
                go_simp
                (try with_reducible rfl)
              simp only [Act.put, List.getElem_toArray, List.getElem_cons_succ, List.getElem_cons_zero, List.setIfInBounds_toArray, List.set_cons_zero, List.set_cons_succ]
              refine wpAnyH_take (i := 10) (oi := _) (v := ?_) rfl (by kernel_rfl) (by kernel_rfl) (by kernel_rfl) (fun _ _ _ h => h) (Or.inl ⟨by rfl, ?_⟩) hS ?_
              rotate_left
              · intro w' hw'
                have hcells := HC6.out w' hw'
                go_simp
                (try with_reducible rfl)
              simp only [Act.put, List.getElem_toArray, List.getElem_cons_succ, List.getElem_cons_zero, List.setIfInBounds_toArray, List.set_cons_zero, List.set_cons_succ]
              refine wpAnyH_take (i := 11) (oi := _) (v := ?_) rfl (by kernel_rfl) (by kernel_rfl) (by kernel_rfl) (fun _ _ _ h => h) (Or.inl ⟨by rfl, ?_⟩) hS ?_
              rotate_left
              · intro w' hw'
                have hcells := HC6.out w' hw'
                go_simp
                (try with_reducible rfl)
              simp only [Act.put, List.getElem_toArray, List.getElem_cons_succ, List.getElem_cons_zero, List.setIfInBounds_toArray, List.set_cons_zero, List.set_cons_succ]
              refine wpAnyH_take (i := 12) (oi := _) (v := ?_) rfl (by kernel_rfl) (by kernel_rfl) (by kernel_rfl) (fun _ _ _ h => h) (Or.inl ⟨by rfl, ?_⟩) hS ?_
              rotate_left
              · intro w' hw'
                have hcells := HC6.out w' hw'
                go_simp
                (try with_reducible rfl)
              simp only [Act.put, List.getElem_toArray, List.getElem_cons_succ, List.getElem_cons_zero, List.setIfInBounds_toArray, List.set_cons_zero, List.set_cons_succ]
              refine wpAnyH_take (i := 13) (oi := _) (v := ?_) rfl (by kernel_rfl) (by kernel_rfl) (by kernel_rfl) (fun _ _ _ h => h) (Or.inl ⟨by rfl, ?_⟩) hS ?_
              rotate_left
              · intro w' hw'
                have hcells := HC6.out w' hw'
                go_simp
                (try with_reducible rfl)
              simp only [Act.put, List.getElem_toArray, List.getElem_cons_succ, List.getElem_cons_zero, List.setIfInBounds_toArray, List.set_cons_zero, List.set_cons_succ]
              refine wpAnyH_take (i := 14) (oi := _) (v := ?_) rfl (by kernel_rfl) (by kernel_rfl) (by kernel_rfl) (fun _ _ _ h => h) (Or.inl ⟨by rfl, ?_⟩) hS ?_
              rotate_left
              · intro w' hw'
                have hcells := HC6.out w' hw'
                go_simp
                (try with_reducible rfl)
              simp only [Act.put, List.getElem_toArray, List.getElem_cons_succ, List.getElem_cons_zero, List.setIfInBounds_toArray, List.set_cons_zero, List.set_cons_succ]
              refine wpAnyH_take (i := 15) (oi := _) (v := ?_) rfl (by kernel_rfl) (by kernel_rfl) (by kernel_rfl) (fun _ _ _ h => h) (Or.inl ⟨by rfl, ?_⟩) hS ?_
              rotate_left
              · intro w' hw'
                have hcells := HC6.out w' hw'
                go_simp
                (try with_reducible rfl)
              simp only [Act.put, List.getElem_toArray, List.getElem_cons_succ, List.getElem_cons_zero, List.setIfInBounds_toArray, List.set_cons_zero, List.set_cons_succ]
              refine wpAnyH_done (by kernel_rfl) ?_ _
              (try dsimp only)
              have HBV := hid (HBI.out.trans (hS.mono HBI.out.size))
              clear hS
              obtain ⟨wv, hwv⟩ : ∃ w1 : World, w1 = wi.drew.drew := ⟨_, rfl⟩
              rw [← hwv] at HBV ⊢
              clear hwv
              have HC9 := hid (show ∀ W, Below wv.heap.size wv W → W.cell? ⟨b, o + k * 18 + 1, none⟩ = some (.string (ofL nb)) from fun W h => HNM.out W (HBV.out.trans (h.mono HBV.out.size)))
              have HSV := hid (show B ≤ wv.heap.size by have h1 := HBR.out.size; have h2 := HBV.out.size; have h3 := HB.out; omega)
              have HCL := hid (show ∀ W, Below wv.heap.size wv W → Cl strK W (some ⟨g3, 0, none⟩) zs.length zs from fun W h => keptCl (HKE.out.ext (by have h1 := HBR.out.size; have h3 := HB.out; omega) (HBV.out.trans (h.mono HBV.out.size))))
              have hjc : (j : Int) ≤ (c3 : Int) := by omega
              have hjc2 : (j : Int) ≤ (zs.length : Int) := by omega
              have hjc3 : (zs.length : Int) ≤ (c3 : Int) := by omega
              have hJ0 : (0 : Int) ≤ (j : Int) := by omega
              have hcj : ¬ c3 = j := by omega
              go_upto_region 9 with (fail)
              refine wp_region_held_drew (S := (fun W => Below wv.heap.size wv W)) (by kernel_rfl) ((Below.refl _ _).drew) (fun hS => ?_)
              refine wpAnyH_take (i := 1) (oi := _) (v := ?_) rfl (by kernel_rfl) (by kernel_rfl) (by kernel_rfl) (fun _ _ _ h => h) (Or.inl ⟨by rfl, ?_⟩) hS ?_
              rotate_left
              · intro w' hw'
                have hcells := HC9.out w' hw'
                go_simp
                (try with_reducible rfl)
              simp only [Act.put, List.getElem_toArray, List.getElem_cons_succ, List.getElem_cons_zero, List.setIfInBounds_toArray, List.set_cons_zero, List.set_cons_succ]
              refine wpAnyH_take (i := 2) (oi := _) (v := ?_) rfl (by kernel_rfl) (by kernel_rfl) (by kernel_rfl) (fun _ _ _ h => h) (Or.inl ⟨by rfl, ?_⟩) hS ?_
              rotate_left
              · intro w' hw'
                have hcells := HC9.out w' hw'
                go_simp
                (try with_reducible rfl)
              simp only [Act.put, List.getElem_toArray, List.getElem_cons_succ, List.getElem_cons_zero, List.setIfInBounds_toArray, List.set_cons_zero, List.set_cons_succ]
              refine wpAnyH_take (i := 3) (oi := _) (v := ?_) rfl (by kernel_rfl) (by kernel_rfl) (by kernel_rfl) (fun _ _ _ h => h) (Or.inl ⟨by rfl, ?_⟩) hS ?_
              rotate_left
              · intro w' hw'
                have hcells := HC9.out w' hw'
                go_simp
                (try with_reducible rfl)
              simp only [Act.put, List.getElem_toArray, List.getElem_cons_succ, List.getElem_cons_zero, List.setIfInBounds_toArray, List.set_cons_zero, List.set_cons_succ]
              refine wpAnyH_take (i := 5) (oi := _) (v := ?_) rfl (by kernel_rfl) (by kernel_rfl) (by kernel_rfl) (fun _ _ _ h => h) (Or.inl ⟨by rfl, ?_⟩) hS ?_
              rotate_left
              · intro w' hw'
                have hcells := HC9.out w' hw'
                go_simp
                (try with_reducible rfl)
              simp only [Act.put, List.getElem_toArray, List.getElem_cons_succ, List.getElem_cons_zero, List.setIfInBounds_toArray, List.set_cons_zero, List.set_cons_succ]
              refine wpAnyH_take (i := 6) (oi := _) (v := ?_) rfl (by kernel_rfl) (by kernel_rfl) (by kernel_rfl) (fun _ _ _ h => h) (Or.inl ⟨by rfl, ?_⟩) hS ?_
              rotate_left
              · intro w' hw'
                have hcells := HC9.out w' hw'
                go_simp
                (try with_reducible rfl)
              simp only [Act.put, List.getElem_toArray, List.getElem_cons_succ, List.getElem_cons_zero, List.setIfInBounds_toArray, List.set_cons_zero, List.set_cons_succ]
              refine wpAnyH_take (i := 7) (oi := _) (v := ?_) rfl (by kernel_rfl) (by kernel_rfl) (by kernel_rfl) (fun _ _ _ h => h) (Or.inl ⟨by rfl, ?_⟩) hS ?_
              rotate_left
              · intro w' hw'
                have hcells := HC9.out w' hw'
                go_simp
                (try with_reducible rfl)
              simp only [Act.put, List.getElem_toArray, List.getElem_cons_succ, List.getElem_cons_zero, List.setIfInBounds_toArray, List.set_cons_zero, List.set_cons_succ]
              refine wpAnyH_take (i := 8) (oi := _) (v := ?_) rfl (by kernel_rfl) (by kernel_rfl) (by kernel_rfl) (fun _ _ _ h => h) (Or.inl ⟨by rfl, ?_⟩) hS ?_
              rotate_left
              · intro w' hw'
                have hcells := HC9.out w' hw'
                go_simp
                (try with_reducible rfl)
              simp only [Act.put, List.getElem_toArray, List.getElem_cons_succ, List.getElem_cons_zero, List.setIfInBounds_toArray, List.set_cons_zero, List.set_cons_succ]
              refine wpAnyH_take (i := 9) (oi := _) (v := ?_) rfl (by kernel_rfl) (by kernel_rfl) (by kernel_rfl) (fun _ _ _ h => h) (Or.inl ⟨by rfl, ?_⟩) hS ?_
              rotate_left
              · intro w' hw'
                have hcells := HC9.out w' hw'
                go_simp
                (try with_reducible rfl)
              simp only [Act.put, List.getElem_toArray, List.getElem_cons_succ, List.getElem_cons_zero, List.setIfInBounds_toArray, List.set_cons_zero, List.set_cons_succ]
              refine wpAnyH_take (i := 12) (oi := _) (v := ?_) rfl (by kernel_rfl) (by kernel_rfl) (by kernel_rfl) (fun _ _ _ h => h) (Or.inl ⟨by rfl, ?_⟩) hS ?_
              rotate_left
              · intro w' hw'
                have hcells := HC9.out w' hw'
                go_simp
                (try with_reducible rfl)
              simp only [Act.put, List.getElem_toArray, List.getElem_cons_succ, List.getElem_cons_zero, List.setIfInBounds_toArray, List.set_cons_zero, List.set_cons_succ]
              refine wpAnyH_take (i := 13) (oi := _) (v := ?_) rfl (by kernel_rfl) (by kernel_rfl) (by kernel_rfl) (fun _ _ _ h => h) (Or.inl ⟨by rfl, ?_⟩) hS ?_
              rotate_left
              · intro w' hw'
                have hcells := HC9.out w' hw'
                go_simp
                (try with_reducible rfl)
              simp only [Act.put, List.getElem_toArray, List.getElem_cons_succ, List.getElem_cons_zero, List.setIfInBounds_toArray, List.set_cons_zero, List.set_cons_succ]
              refine wpAnyH_take (i := 14) (oi := _) (v := ?_) rfl (by kernel_rfl) (by kernel_rfl) (by kernel_rfl) (fun _ _ _ h => h) (Or.inl ⟨by rfl, ?_⟩) hS ?_
              rotate_left
              · intro w' hw'
                have hcells := HC9.out w' hw'
                go_simp
                (try with_reducible rfl)
              simp only [Act.put, List.getElem_toArray, List.getElem_cons_succ, List.getElem_cons_zero, List.setIfInBounds_toArray, List.set_cons_zero, List.set_cons_succ]
              refine wpAnyH_ready (rs := [0, 10]) (by kernel_rfl) (by simp) ?_
              refine AllReadyH.cons (o := _) rfl (fun K hK => ?_) ?_
              · go_simp
                obtain ⟨w0, hw0⟩ : ∃ u, u = (wv.alloc (.cells #[] 9)).drew := ⟨_, rfl⟩
                rw [← hw0]
                have HB0 := hid (show Below wv.heap.size wv w0 by rw [hw0]; exact ((Below.refl _ _).alloc (Nat.le_refl _) _).drew)
                have HS0 := hid (show w0.heap.size = wv.heap.size + 1 by rw [hw0]; simp)
                have HK0 := hid (show Kept strK 9 B w0 (.slice (some ⟨wv.heap.size, 0, none⟩) 0 0) 0 [] by rw [hw0]; exact (Kept.made (w := wv) #[] 0 HSV.out (Nat.zero_le _) rfl).ext (by simp; have := HSV.out; omega) ((Below.refl _ _).drew))
                clear hw0
                refine hK.out _ _ (HB0.out) (fun hS => ?_)
                clear hK K
                (try simp only [Act.put, List.getElem_toArray, List.getElem_cons_succ, List.getElem_cons_zero, List.setIfInBounds_toArray, List.set_cons_zero, List.set_cons_succ])
                refine wpAnyH_ready (rs := [4, 10]) (by kernel_rfl) (by simp) ?_
                refine AllReadyH.cons (o := _) rfl (fun K hK => ?_) ?_
                · obtain ⟨a4, cap4, w4, hr4, hk4, hg4, hat4⟩ := run_append_kept (K := strK) (P := Tryz.prog) (w := w0) (ty := 37) Tryz.underlying37 hi hz0 (by rw [hz1]) (by rw [hz2]; omega) rfl one_st HK0.out c3 (clT (HCL.out w0 HB0.out) j (by omega)) (l2 := zs.take j) (by rw [List.length_take]; omega) (fun _ _ _ => rfl) (Nat.le_trans HSV.out (HB0.out).size) (by omega)
                  rw [Nat.zero_add] at hr4 hk4 hat4
                  rw [List.nil_append] at hk4
                  refine step_append_run (by rfl) _ _ _ (by rfl) _ _ _ _ (by rfl) (by rfl) hr4 ?_
                  have hown4 := HK0.out.own
                  have HK4 := hid hk4
                  have hn4 : ∀ r, (Value.slice (some ⟨wv.heap.size, 0, none⟩) 0 0).ownBlock = some r → wv.heap.size ≤ r := fun r e => by cases e; exact Nat.le_refl _
                  have HAT4 := hid (show ∀ r, (Value.slice a4 j cap4).ownBlock = some r → wv.heap.size ≤ r from fun r hr => (hat4 r hr).elim (fun e => hn4 r e) (fun e => by rw [e]; exact HB0.out.size))
                  have HB4 := hid (HB0.out.trans (grown_below hg4 hn4 HB0.out.size))
                  clear hr4 hk4 hg4 hat4 hown4 hn4
                  refine hK.out _ _ (HB4.out) (fun hS => ?_)
                  clear hK K
                  (try simp only [Act.put, List.getElem_toArray, List.getElem_cons_succ, List.getElem_cons_zero, List.setIfInBounds_toArray, List.set_cons_zero, List.set_cons_succ])
                  refine wpAnyH_ready (rs := [10]) (by kernel_rfl) (by simp) ?_
                  refine AllReadyH.cons (o := _) rfl (fun K hK => ?_) AllReadyH.nil
                  go_simp
                  obtain ⟨wX, hwX⟩ : ∃ u, u = w4.alloc (.cells #[.string (ofL nb)] 9) := ⟨_, rfl⟩
                  rw [← hwX]
                  have hbx : Below w4.heap.size w4 wX := by rw [hwX]; exact (Below.refl _ _).alloc (Nat.le_refl _) _
                  have HXB := hid (HB4.out.trans (hbx.mono HB4.out.size))
                  have HCX := hid (show wX.heap[w4.heap.size]? = some (.cells #[.string (ofL nb)] 9) by rw [hwX]; exact heap_alloc_new w4 _)
                  have HKX := hid (HK4.out.ext (Nat.le_trans HSV.out HB4.out.size) hbx)
                  clear hwX hbx
                  refine hK.out _ _ (HXB.out) (fun hS => ?_)
                  clear hK K
                  (try simp only [Act.put, List.getElem_toArray, List.getElem_cons_succ, List.getElem_cons_zero, List.setIfInBounds_toArray, List.set_cons_zero, List.set_cons_succ])
                  refine wpAnyH_ready (rs := [11]) (by kernel_rfl) (by simp) ?_
                  refine AllReadyH.cons (o := _) rfl (fun K hK => ?_) AllReadyH.nil
                  have hcx : Cl strK wX (some ⟨w4.heap.size, 0, none⟩) 1 [nb] := ⟨rfl, .inr ⟨_, rfl, fun t u hu => (by rw [flatS] at hu; exact World.news_of_block HCX.out t u hu)⟩⟩
                  obtain ⟨a5, cap5, w5, hr5, hk5, hg5, hat5⟩ := run_append_kept (K := strK) (P := Tryz.prog) (w := wX) (ty := 37) Tryz.underlying37 hi hz0 (by rw [hz1]) (by rw [hz2]; omega) rfl one_st HKX.out 1 hcx (l2 := [nb]) rfl (one_els rfl) (Nat.le_trans HSV.out (HXB.out).size) (by omega)
                  refine step_append_run (by rfl) _ _ _ (by rfl) _ _ _ _ (by rfl) (by rfl) hr5 ?_
                  have HK5 := hid hk5
                  have HAT5 := hid (show ∀ r, (Value.slice a5 (j + 1) cap5).ownBlock = some r → wv.heap.size ≤ r from fun r hr => (hat5 r hr).elim (fun e => HAT4.out r e) (fun e => by rw [e]; exact HXB.out.size))
                  have HB5 := hid (HXB.out.trans (grown_below hg5 HAT4.out HXB.out.size))
                  clear hr5 hk5 hg5 hat5 hcx
                  refine hK.out _ _ (HB5.out) (fun hS => ?_)
                  clear hK K
                  (try simp only [Act.put, List.getElem_toArray, List.getElem_cons_succ, List.getElem_cons_zero, List.setIfInBounds_toArray, List.set_cons_zero, List.set_cons_succ])
                  refine wpAnyH_ready (rs := [15]) (by kernel_rfl) (by simp) ?_
                  refine AllReadyH.cons (o := _) rfl (fun K hK => ?_) AllReadyH.nil
                  obtain ⟨a6, cap6, w6, hr6, hk6, hg6, hat6⟩ := run_append_kept (K := strK) (P := Tryz.prog) (w := w5) (ty := 37) Tryz.underlying37 hi hz0 (by rw [hz1]) (by rw [hz2]; omega) rfl one_st HK5.out (c3 - j) (clD (HCL.out w5 HB5.out) j (by omega)) (l2 := zs.drop j) (by rw [List.length_drop]) (fun _ _ _ => rfl) (Nat.le_trans HSV.out HB5.out.size) (by omega)
                  refine step_append_run (by rfl) _ _ _ (by rfl) _ _ _ _ (by rfl) (by rfl) hr6 ?_
                  have HK6 := hid hk6
                  have HB6 := hid (HB5.out.trans (grown_below hg6 HAT5.out HB5.out.size))
                  clear hr6 hk6 hg6 hat6
                  refine hK.out _ _ (HB6.out) (fun hS => ?_)
                  clear hK K
                  (try simp only [Act.put, List.getElem_toArray, List.getElem_cons_succ, List.getElem_cons_zero, List.setIfInBounds_toArray, List.set_cons_zero, List.set_cons_succ])
                  refine wpAnyH_take (i := 16) (oi := _) (v := ?_) rfl (by kernel_rfl) (by kernel_rfl) (by kernel_rfl) (fun _ _ _ h => h) (Or.inl ⟨by rfl, ?_⟩) hS ?_
                  rotate_left
                  · intro w' hw'
                    have hcells := HC9.out w' hw'
                    go_simp
                    (try with_reducible rfl)
                  simp only [Act.put, List.getElem_toArray, List.getElem_cons_succ, List.getElem_cons_zero, List.setIfInBounds_toArray, List.set_cons_zero, List.set_cons_succ]
                  refine wpAnyH_done (by kernel_rfl) ?_ _
                  (try dsimp only)
                  clear hS
                  go_wp2
                  go_roundw
                  case rel =>
                    have hs0 := HBR.out.size
                    have hs1 := HB.out
                    have hs2 := HBV.out.size
                    have hII := ins_inc (nb := nb) (j := j) HIN.out.1 (by omega) HLOW.out HSTOP.out
                    skip
                    have hle : (zs.take j ++ [nb] ++ zs.drop j).length = j + 1 + (zs.length - j) := by simp; try omega
                    refine ⟨k + 1, zs.take j ++ [nb] ++ zs.drop j, by omega, by go_num, ?_, by rw [hle]; omega, fun e => by simp at e, ⟨hII.1, fun x => ?_⟩, HBR.out.trans ((HBV.out.trans (HB6.out.mono HBV.out.size)).mono (by omega))⟩
                    · rw [hle]; exact HK6.out
                    · rw [hII.2, HIN.out.2, HTK.out]
                  case measure => simp [intOf]; omega
                refine AllReadyH.cons (o := _) rfl (fun K hK => ?_) AllReadyH.nil
                go_simp
                obtain ⟨wX, hwX⟩ : ∃ u, u = w0.alloc (.cells #[.string (ofL nb)] 9) := ⟨_, rfl⟩
                rw [← hwX]
                have hbx : Below w0.heap.size w0 wX := by rw [hwX]; exact (Below.refl _ _).alloc (Nat.le_refl _) _
                have HXB := hid (HB0.out.trans (hbx.mono HB0.out.size))
                have HCX := hid (show wX.heap[w0.heap.size]? = some (.cells #[.string (ofL nb)] 9) by rw [hwX]; exact heap_alloc_new w0 _)
                have HKX := hid (HK0.out.ext (Nat.le_trans HSV.out HB0.out.size) hbx)
                clear hwX hbx
                refine hK.out _ _ (HXB.out) (fun hS => ?_)
                clear hK K
                (try simp only [Act.put, List.getElem_toArray, List.getElem_cons_succ, List.getElem_cons_zero, List.setIfInBounds_toArray, List.set_cons_zero, List.set_cons_succ])
                refine wpAnyH_ready (rs := [4]) (by kernel_rfl) (by simp) ?_
                refine AllReadyH.cons (o := _) rfl (fun K hK => ?_) AllReadyH.nil
                obtain ⟨a4, cap4, w4, hr4, hk4, hg4, hat4⟩ := run_append_kept (K := strK) (P := Tryz.prog) (w := wX) (ty := 37) Tryz.underlying37 hi hz0 (by rw [hz1]) (by rw [hz2]; omega) rfl one_st HKX.out c3 (clT (HCL.out wX HXB.out) j (by omega)) (l2 := zs.take j) (by rw [List.length_take]; omega) (fun _ _ _ => rfl) (Nat.le_trans HSV.out (HXB.out).size) (by omega)
                rw [Nat.zero_add] at hr4 hk4 hat4
                rw [List.nil_append] at hk4
                refine step_append_run (by rfl) _ _ _ (by rfl) _ _ _ _ (by rfl) (by rfl) hr4 ?_
                have hown4 := HKX.out.own
                have HK4 := hid hk4
                have hn4 : ∀ r, (Value.slice (some ⟨wv.heap.size, 0, none⟩) 0 0).ownBlock = some r → wv.heap.size ≤ r := fun r e => by cases e; exact Nat.le_refl _
                have HAT4 := hid (show ∀ r, (Value.slice a4 j cap4).ownBlock = some r → wv.heap.size ≤ r from fun r hr => (hat4 r hr).elim (fun e => hn4 r e) (fun e => by rw [e]; exact HXB.out.size))
                have HB4 := hid (HXB.out.trans (grown_below hg4 hn4 HXB.out.size))
                have HCX4 := hid ((hg4.block _ (ltOf HCX.out) (fun e => by have e2 : w0.heap.size = wv.heap.size := Option.some.inj e; have := HS0.out; omega)).trans HCX.out)
                clear hr4 hk4 hg4 hat4 hown4 hn4
                refine hK.out _ _ (HB4.out) (fun hS => ?_)
                clear hK K
                (try simp only [Act.put, List.getElem_toArray, List.getElem_cons_succ, List.getElem_cons_zero, List.setIfInBounds_toArray, List.set_cons_zero, List.set_cons_succ])
                refine wpAnyH_ready (rs := [11]) (by kernel_rfl) (by simp) ?_
                refine AllReadyH.cons (o := _) rfl (fun K hK => ?_) AllReadyH.nil
                have hcx : Cl strK w4 (some ⟨w0.heap.size, 0, none⟩) 1 [nb] := ⟨rfl, .inr ⟨_, rfl, fun t u hu => (by rw [flatS] at hu; exact World.news_of_block HCX4.out t u hu)⟩⟩
                obtain ⟨a5, cap5, w5, hr5, hk5, hg5, hat5⟩ := run_append_kept (K := strK) (P := Tryz.prog) (w := w4) (ty := 37) Tryz.underlying37 hi hz0 (by rw [hz1]) (by rw [hz2]; omega) rfl one_st HK4.out 1 hcx (l2 := [nb]) rfl (one_els rfl) (Nat.le_trans HSV.out (HB4.out).size) (by omega)
                refine step_append_run (by rfl) _ _ _ (by rfl) _ _ _ _ (by rfl) (by rfl) hr5 ?_
                have HK5 := hid hk5
                have HAT5 := hid (show ∀ r, (Value.slice a5 (j + 1) cap5).ownBlock = some r → wv.heap.size ≤ r from fun r hr => (hat5 r hr).elim (fun e => HAT4.out r e) (fun e => by rw [e]; exact HB4.out.size))
                have HB5 := hid (HB4.out.trans (grown_below hg5 HAT4.out HB4.out.size))
                clear hr5 hk5 hg5 hat5 hcx
                refine hK.out _ _ (HB5.out) (fun hS => ?_)
                clear hK K
                (try simp only [Act.put, List.getElem_toArray, List.getElem_cons_succ, List.getElem_cons_zero, List.setIfInBounds_toArray, List.set_cons_zero, List.set_cons_succ])
                refine wpAnyH_ready (rs := [15]) (by kernel_rfl) (by simp) ?_
                refine AllReadyH.cons (o := _) rfl (fun K hK => ?_) AllReadyH.nil
                obtain ⟨a6, cap6, w6, hr6, hk6, hg6, hat6⟩ := run_append_kept (K := strK) (P := Tryz.prog) (w := w5) (ty := 37) Tryz.underlying37 hi hz0 (by rw [hz1]) (by rw [hz2]; omega) rfl one_st HK5.out (c3 - j) (clD (HCL.out w5 HB5.out) j (by omega)) (l2 := zs.drop j) (by rw [List.length_drop]) (fun _ _ _ => rfl) (Nat.le_trans HSV.out HB5.out.size) (by omega)
                refine step_append_run (by rfl) _ _ _ (by rfl) _ _ _ _ (by rfl) (by rfl) hr6 ?_
                have HK6 := hid hk6
                have HB6 := hid (HB5.out.trans (grown_below hg6 HAT5.out HB5.out.size))
                clear hr6 hk6 hg6 hat6
                refine hK.out _ _ (HB6.out) (fun hS => ?_)
                clear hK K
                (try simp only [Act.put, List.getElem_toArray, List.getElem_cons_succ, List.getElem_cons_zero, List.setIfInBounds_toArray, List.set_cons_zero, List.set_cons_succ])
                refine wpAnyH_take (i := 16) (oi := _) (v := ?_) rfl (by kernel_rfl) (by kernel_rfl) (by kernel_rfl) (fun _ _ _ h => h) (Or.inl ⟨by rfl, ?_⟩) hS ?_
                rotate_left
                · intro w' hw'
                  have hcells := HC9.out w' hw'
                  go_simp
                  (try with_reducible rfl)
                simp only [Act.put, List.getElem_toArray, List.getElem_cons_succ, List.getElem_cons_zero, List.setIfInBounds_toArray, List.set_cons_zero, List.set_cons_succ]
                refine wpAnyH_done (by kernel_rfl) ?_ _
                (try dsimp only)
                clear hS
                go_wp2
                go_roundw
                case rel =>
                  have hs0 := HBR.out.size
                  have hs1 := HB.out
                  have hs2 := HBV.out.size
                  have hII := ins_inc (nb := nb) (j := j) HIN.out.1 (by omega) HLOW.out HSTOP.out
                  skip
                  have hle : (zs.take j ++ [nb] ++ zs.drop j).length = j + 1 + (zs.length - j) := by simp; try omega
                  refine ⟨k + 1, zs.take j ++ [nb] ++ zs.drop j, by omega, by go_num, ?_, by rw [hle]; omega, fun e => by simp at e, ⟨hII.1, fun x => ?_⟩, HBR.out.trans ((HBV.out.trans (HB6.out.mono HBV.out.size)).mono (by omega))⟩
                  · rw [hle]; exact HK6.out
                  · rw [hII.2, HIN.out.2, HTK.out]
                case measure => simp [intOf]; omega
              refine AllReadyH.cons (o := _) rfl (fun K hK => ?_) AllReadyH.nil
              go_simp
              obtain ⟨wX, hwX⟩ : ∃ u, u = (wv.alloc (.cells #[.string (ofL nb)] 9)).drew := ⟨_, rfl⟩
              rw [← hwX]
              have HXB := hid (show Below wv.heap.size wv wX by rw [hwX]; exact ((Below.refl _ _).alloc (Nat.le_refl _) _).drew)
              have HCX := hid (show wX.heap[wv.heap.size]? = some (.cells #[.string (ofL nb)] 9) by rw [hwX]; exact heap_alloc_new wv _)
              have HSX := hid (show wX.heap.size = wv.heap.size + 1 by rw [hwX]; simp)
              clear hwX
              refine hK.out _ _ (HXB.out) (fun hS => ?_)
              clear hK K
              (try simp only [Act.put, List.getElem_toArray, List.getElem_cons_succ, List.getElem_cons_zero, List.setIfInBounds_toArray, List.set_cons_zero, List.set_cons_succ])
              refine wpAnyH_ready (rs := [0]) (by kernel_rfl) (by simp) ?_
              refine AllReadyH.cons (o := _) rfl (fun K hK => ?_) AllReadyH.nil
              go_simp
              obtain ⟨w0, hw0⟩ : ∃ u, u = wX.alloc (.cells #[] 9) := ⟨_, rfl⟩
              rw [← hw0]
              have hb0 : Below wX.heap.size wX w0 := by rw [hw0]; exact (Below.refl _ _).alloc (Nat.le_refl _) _
              have HB0 := hid (HXB.out.trans (hb0.mono HXB.out.size))
              have HK0 := hid (show Kept strK 9 B w0 (.slice (some ⟨wX.heap.size, 0, none⟩) 0 0) 0 [] by rw [hw0]; exact Kept.made #[] 0 (Nat.le_trans HSV.out HXB.out.size) (Nat.zero_le _) rfl)
              have HCX0 := hid (heapExt hb0 HCX.out)
              clear hw0 hb0
              refine hK.out _ _ (HB0.out) (fun hS => ?_)
              clear hK K
              (try simp only [Act.put, List.getElem_toArray, List.getElem_cons_succ, List.getElem_cons_zero, List.setIfInBounds_toArray, List.set_cons_zero, List.set_cons_succ])
              refine wpAnyH_ready (rs := [4]) (by kernel_rfl) (by simp) ?_
              refine AllReadyH.cons (o := _) rfl (fun K hK => ?_) AllReadyH.nil
              obtain ⟨a4, cap4, w4, hr4, hk4, hg4, hat4⟩ := run_append_kept (K := strK) (P := Tryz.prog) (w := w0) (ty := 37) Tryz.underlying37 hi hz0 (by rw [hz1]) (by rw [hz2]; omega) rfl one_st HK0.out c3 (clT (HCL.out w0 HB0.out) j (by omega)) (l2 := zs.take j) (by rw [List.length_take]; omega) (fun _ _ _ => rfl) (Nat.le_trans HSV.out (HB0.out).size) (by omega)
              rw [Nat.zero_add] at hr4 hk4 hat4
              rw [List.nil_append] at hk4
              refine step_append_run (by rfl) _ _ _ (by rfl) _ _ _ _ (by rfl) (by rfl) hr4 ?_
              have hown4 := HK0.out.own
              have HK4 := hid hk4
              have hn4 : ∀ r, (Value.slice (some ⟨wX.heap.size, 0, none⟩) 0 0).ownBlock = some r → wv.heap.size ≤ r := fun r e => by cases e; exact HXB.out.size
              have HAT4 := hid (show ∀ r, (Value.slice a4 j cap4).ownBlock = some r → wv.heap.size ≤ r from fun r hr => (hat4 r hr).elim (fun e => hn4 r e) (fun e => by rw [e]; exact HB0.out.size))
              have HB4 := hid (HB0.out.trans (grown_below hg4 hn4 HB0.out.size))
              have HCX4 := hid ((hg4.block _ (ltOf HCX0.out) (fun e => by have e2 : wv.heap.size = wX.heap.size := Option.some.inj e; have := HSX.out; omega)).trans HCX0.out)
              clear hr4 hk4 hg4 hat4 hown4 hn4
              refine hK.out _ _ (HB4.out) (fun hS => ?_)
              clear hK K
              (try simp only [Act.put, List.getElem_toArray, List.getElem_cons_succ, List.getElem_cons_zero, List.setIfInBounds_toArray, List.set_cons_zero, List.set_cons_succ])
              refine wpAnyH_ready (rs := [11]) (by kernel_rfl) (by simp) ?_
              refine AllReadyH.cons (o := _) rfl (fun K hK => ?_) AllReadyH.nil
              have hcx : Cl strK w4 (some ⟨wv.heap.size, 0, none⟩) 1 [nb] := ⟨rfl, .inr ⟨_, rfl, fun t u hu => (by rw [flatS] at hu; exact World.news_of_block HCX4.out t u hu)⟩⟩
              obtain ⟨a5, cap5, w5, hr5, hk5, hg5, hat5⟩ := run_append_kept (K := strK) (P := Tryz.prog) (w := w4) (ty := 37) Tryz.underlying37 hi hz0 (by rw [hz1]) (by rw [hz2]; omega) rfl one_st HK4.out 1 hcx (l2 := [nb]) rfl (one_els rfl) (Nat.le_trans HSV.out (HB4.out).size) (by omega)
              refine step_append_run (by rfl) _ _ _ (by rfl) _ _ _ _ (by rfl) (by rfl) hr5 ?_
              have HK5 := hid hk5
              have HAT5 := hid (show ∀ r, (Value.slice a5 (j + 1) cap5).ownBlock = some r → wv.heap.size ≤ r from fun r hr => (hat5 r hr).elim (fun e => HAT4.out r e) (fun e => by rw [e]; exact HB4.out.size))
              have HB5 := hid (HB4.out.trans (grown_below hg5 HAT4.out HB4.out.size))
              clear hr5 hk5 hg5 hat5 hcx
              refine hK.out _ _ (HB5.out) (fun hS => ?_)
              clear hK K
              (try simp only [Act.put, List.getElem_toArray, List.getElem_cons_succ, List.getElem_cons_zero, List.setIfInBounds_toArray, List.set_cons_zero, List.set_cons_succ])
              refine wpAnyH_ready (rs := [15]) (by kernel_rfl) (by simp) ?_
              refine AllReadyH.cons (o := _) rfl (fun K hK => ?_) AllReadyH.nil
              obtain ⟨a6, cap6, w6, hr6, hk6, hg6, hat6⟩ := run_append_kept (K := strK) (P := Tryz.prog) (w := w5) (ty := 37) Tryz.underlying37 hi hz0 (by rw [hz1]) (by rw [hz2]; omega) rfl one_st HK5.out (c3 - j) (clD (HCL.out w5 HB5.out) j (by omega)) (l2 := zs.drop j) (by rw [List.length_drop]) (fun _ _ _ => rfl) (Nat.le_trans HSV.out HB5.out.size) (by omega)
              refine step_append_run (by rfl) _ _ _ (by rfl) _ _ _ _ (by rfl) (by rfl) hr6 ?_
              have HK6 := hid hk6
              have HB6 := hid (HB5.out.trans (grown_below hg6 HAT5.out HB5.out.size))
              clear hr6 hk6 hg6 hat6
              refine hK.out _ _ (HB6.out) (fun hS => ?_)
              clear hK K
              (try simp only [Act.put, List.getElem_toArray, List.getElem_cons_succ, List.getElem_cons_zero, List.setIfInBounds_toArray, List.set_cons_zero, List.set_cons_succ])
              refine wpAnyH_take (i := 16) (oi := _) (v := ?_) rfl (by kernel_rfl) (by kernel_rfl) (by kernel_rfl) (fun _ _ _ h => h) (Or.inl ⟨by rfl, ?_⟩) hS ?_
              rotate_left
              · intro w' hw'
                have hcells := HC9.out w' hw'
                go_simp
                (try with_reducible rfl)
              simp only [Act.put, List.getElem_toArray, List.getElem_cons_succ, List.getElem_cons_zero, List.setIfInBounds_toArray, List.set_cons_zero, List.set_cons_succ]
              refine wpAnyH_done (by kernel_rfl) ?_ _
              (try dsimp only)
              clear hS
              go_wp2
              go_roundw
              case rel =>
                have hs0 := HBR.out.size
                have hs1 := HB.out
                have hs2 := HBV.out.size
                have hII := ins_inc (nb := nb) (j := j) HIN.out.1 (by omega) HLOW.out HSTOP.out
                skip
                have hle : (zs.take j ++ [nb] ++ zs.drop j).length = j + 1 + (zs.length - j) := by simp; try omega
                refine ⟨k + 1, zs.take j ++ [nb] ++ zs.drop j, by omega, by go_num, ?_, by rw [hle]; omega, fun e => by simp at e, ⟨hII.1, fun x => ?_⟩, HBR.out.trans ((HBV.out.trans (HB6.out.mono HBV.out.size)).mono (by omega))⟩
                · rw [hle]; exact HK6.out
                · rw [hII.2, HIN.out.2, HTK.out]
              case measure => simp [intOf]; omega
        · have hjl : ¬ (j : Int) < (zs.length : Int) := by omega
          obtain rfl : j = zs.length := by omega
          have hjb : ((zs.length : Int) == (zs.length : Int)) = true := by simp
          have HSTOP := hid (show ∀ h : zs.length < zs.length, ¬ zs[zs.length] < nb ∧ zs[zs.length] ≠ nb from fun h => absurd h (by omega))
          go_upto_region 6 with (fail)
          refine wp_region_held_drew (S := (fun W => Below wi.heap.size wi W)) (by kernel_rfl) ((Below.refl _ _).drew) (fun hS => ?_)
          refine wpAnyH_take (i := 0) (oi := _) (v := ?_) rfl (by kernel_rfl) (by kernel_rfl) (by kernel_rfl) (fun _ _ _ h => h) (Or.inl ⟨by rfl, ?_⟩) hS ?_
          rotate_left
          · intro w' hw'
            (try dsimp only at hw')
            go_simp
            (try with_reducible rfl)
          simp only [Act.put, List.getElem_toArray, List.getElem_cons_succ, List.getElem_cons_zero, List.setIfInBounds_toArray, List.set_cons_zero, List.set_cons_succ]
          refine wpAnyH_take (i := 1) (oi := _) (v := ?_) rfl (by kernel_rfl) (by kernel_rfl) (by kernel_rfl) (fun _ _ _ h => h) (Or.inl ⟨by rfl, ?_⟩) hS ?_
          rotate_left
          · intro w' hw'
            (try dsimp only at hw')
            go_simp
            (try with_reducible rfl)
          simp only [Act.put, List.getElem_toArray, List.getElem_cons_succ, List.getElem_cons_zero, List.setIfInBounds_toArray, List.set_cons_zero, List.set_cons_succ]
          refine wpAnyH_take (i := 2) (oi := _) (v := ?_) rfl (by kernel_rfl) (by kernel_rfl) (by kernel_rfl) (fun _ _ _ h => h) (Or.inl ⟨by rfl, ?_⟩) hS ?_
          rotate_left
          · intro w' hw'
            (try dsimp only at hw')
            go_simp
            (try with_reducible rfl)
          simp only [Act.put, List.getElem_toArray, List.getElem_cons_succ, List.getElem_cons_zero, List.setIfInBounds_toArray, List.set_cons_zero, List.set_cons_succ]
          refine wpAnyH_take (i := 3) (oi := _) (v := ?_) rfl (by kernel_rfl) (by kernel_rfl) (by kernel_rfl) (fun _ _ _ h => h) (Or.inl ⟨by rfl, ?_⟩) hS ?_
          rotate_left
          · intro w' hw'
            (try dsimp only at hw')
            go_simp
            (try with_reducible rfl)
          simp only [Act.put, List.getElem_toArray, List.getElem_cons_succ, List.getElem_cons_zero, List.setIfInBounds_toArray, List.set_cons_zero, List.set_cons_succ]
          refine wpAnyH_take (i := 4) (oi := _) (v := ?_) rfl (by kernel_rfl) (by kernel_rfl) (by kernel_rfl) (fun _ _ _ h => h) (Or.inl ⟨by rfl, ?_⟩) hS ?_
          rotate_left
          · intro w' hw'
            (try dsimp only at hw')
            go_simp
            (try with_reducible rfl)
          simp only [Act.put, List.getElem_toArray, List.getElem_cons_succ, List.getElem_cons_zero, List.setIfInBounds_toArray, List.set_cons_zero, List.set_cons_succ]
          refine wpAnyH_take (i := 5) (oi := _) (v := undef) rfl (by kernel_rfl) (by kernel_rfl) (by kernel_rfl) (fun _ _ _ h => h) (Or.inr ⟨by rfl, rfl⟩) hS ?_
          simp only [Act.put, List.getElem_toArray, List.getElem_cons_succ, List.getElem_cons_zero, List.setIfInBounds_toArray, List.set_cons_zero, List.set_cons_succ]
          refine wpAnyH_take (i := 6) (oi := _) (v := undef) rfl (by kernel_rfl) (by kernel_rfl) (by kernel_rfl) (fun _ _ _ h => h) (Or.inr ⟨by rfl, rfl⟩) hS ?_
          simp only [Act.put, List.getElem_toArray, List.getElem_cons_succ, List.getElem_cons_zero, List.setIfInBounds_toArray, List.set_cons_zero, List.set_cons_succ]
          refine wpAnyH_take (i := 7) (oi := _) (v := undef) rfl (by kernel_rfl) (by kernel_rfl) (by kernel_rfl) (fun _ _ _ h => h) (Or.inr ⟨by rfl, rfl⟩) hS ?_
          simp only [Act.put, List.getElem_toArray, List.getElem_cons_succ, List.getElem_cons_zero, List.setIfInBounds_toArray, List.set_cons_zero, List.set_cons_succ]
          refine wpAnyH_take (i := 8) (oi := _) (v := undef) rfl (by kernel_rfl) (by kernel_rfl) (by kernel_rfl) (fun _ _ _ h => h) (Or.inr ⟨by rfl, rfl⟩) hS ?_
          simp only [Act.put, List.getElem_toArray, List.getElem_cons_succ, List.getElem_cons_zero, List.setIfInBounds_toArray, List.set_cons_zero, List.set_cons_succ]
          refine wpAnyH_take (i := 9) (oi := _) (v := undef) rfl (by kernel_rfl) (by kernel_rfl) (by kernel_rfl) (fun _ _ _ h => h) (Or.inr ⟨by rfl, rfl⟩) hS ?_
          simp only [Act.put, List.getElem_toArray, List.getElem_cons_succ, List.getElem_cons_zero, List.setIfInBounds_toArray, List.set_cons_zero, List.set_cons_succ]
          refine wpAnyH_take (i := 10) (oi := _) (v := undef) rfl (by kernel_rfl) (by kernel_rfl) (by kernel_rfl) (fun _ _ _ h => h) (Or.inr ⟨by rfl, rfl⟩) hS ?_
          simp only [Act.put, List.getElem_toArray, List.getElem_cons_succ, List.getElem_cons_zero, List.setIfInBounds_toArray, List.set_cons_zero, List.set_cons_succ]
          refine wpAnyH_take (i := 11) (oi := _) (v := undef) rfl (by kernel_rfl) (by kernel_rfl) (by kernel_rfl) (fun _ _ _ h => h) (Or.inr ⟨by rfl, rfl⟩) hS ?_
          simp only [Act.put, List.getElem_toArray, List.getElem_cons_succ, List.getElem_cons_zero, List.setIfInBounds_toArray, List.set_cons_zero, List.set_cons_succ]
          refine wpAnyH_take (i := 12) (oi := _) (v := undef) rfl (by kernel_rfl) (by kernel_rfl) (by kernel_rfl) (fun _ _ _ h => h) (Or.inr ⟨by rfl, rfl⟩) hS ?_
          simp only [Act.put, List.getElem_toArray, List.getElem_cons_succ, List.getElem_cons_zero, List.setIfInBounds_toArray, List.set_cons_zero, List.set_cons_succ]
          refine wpAnyH_take (i := 13) (oi := _) (v := undef) rfl (by kernel_rfl) (by kernel_rfl) (by kernel_rfl) (fun _ _ _ h => h) (Or.inr ⟨by rfl, rfl⟩) hS ?_
          simp only [Act.put, List.getElem_toArray, List.getElem_cons_succ, List.getElem_cons_zero, List.setIfInBounds_toArray, List.set_cons_zero, List.set_cons_succ]
          refine wpAnyH_take (i := 14) (oi := _) (v := undef) rfl (by kernel_rfl) (by kernel_rfl) (by kernel_rfl) (fun _ _ _ h => h) (Or.inr ⟨by rfl, rfl⟩) hS ?_
          simp only [Act.put, List.getElem_toArray, List.getElem_cons_succ, List.getElem_cons_zero, List.setIfInBounds_toArray, List.set_cons_zero, List.set_cons_succ]
          refine wpAnyH_take (i := 15) (oi := _) (v := ?_) rfl (by kernel_rfl) (by kernel_rfl) (by kernel_rfl) (fun _ _ _ h => h) (Or.inl ⟨by rfl, ?_⟩) hS ?_
          rotate_left
          · intro w' hw'
            (try dsimp only at hw')
            go_simp
            (try with_reducible rfl)
          simp only [Act.put, List.getElem_toArray, List.getElem_cons_succ, List.getElem_cons_zero, List.setIfInBounds_toArray, List.set_cons_zero, List.set_cons_succ]
          refine wpAnyH_done (by kernel_rfl) ?_ _
          (try dsimp only)
          clear hS
          go_upto_region 8 with (fail)
          refine wp_region_held_drew (S := (fun W => Below wi.heap.size wi W)) (by kernel_rfl) ((Below.refl _ _).drew.drew) (fun hS => ?_)
          refine wpAnyH_take (i := 0) (oi := _) (v := ?_) rfl (by kernel_rfl) (by kernel_rfl) (by kernel_rfl) (fun _ _ _ h => h) (Or.inl ⟨by rfl, ?_⟩) hS ?_
          rotate_left
          · intro w' hw'
            (try dsimp only at hw')
            go_simp
            (try with_reducible rfl)
          simp only [Act.put, List.getElem_toArray, List.getElem_cons_succ, List.getElem_cons_zero, List.setIfInBounds_toArray, List.set_cons_zero, List.set_cons_succ]
          refine wpAnyH_take (i := 1) (oi := _) (v := ?_) rfl (by kernel_rfl) (by kernel_rfl) (by kernel_rfl) (fun _ _ _ h => h) (Or.inl ⟨by rfl, ?_⟩) hS ?_
          rotate_left
          · intro w' hw'
            (try dsimp only at hw')
            go_simp
            (try with_reducible rfl)
          simp only [Act.put, List.getElem_toArray, List.getElem_cons_succ, List.getElem_cons_zero, List.setIfInBounds_toArray, List.set_cons_zero, List.set_cons_succ]
          refine wpAnyH_take (i := 2) (oi := _) (v := ?_) rfl (by kernel_rfl) (by kernel_rfl) (by kernel_rfl) (fun _ _ _ h => h) (Or.inl ⟨by rfl, ?_⟩) hS ?_
          rotate_left
          · intro w' hw'
            (try dsimp only at hw')
            go_simp
            (try with_reducible rfl)
          simp only [Act.put, List.getElem_toArray, List.getElem_cons_succ, List.getElem_cons_zero, List.setIfInBounds_toArray, List.set_cons_zero, List.set_cons_succ]
          refine wpAnyH_take (i := 3) (oi := _) (v := ?_) rfl (by kernel_rfl) (by kernel_rfl) (by kernel_rfl) (fun _ _ _ h => h) (Or.inl ⟨by rfl, ?_⟩) hS ?_
          rotate_left
          · intro w' hw'
            (try dsimp only at hw')
            go_simp
            (try with_reducible rfl)
          simp only [Act.put, List.getElem_toArray, List.getElem_cons_succ, List.getElem_cons_zero, List.setIfInBounds_toArray, List.set_cons_zero, List.set_cons_succ]
          refine wpAnyH_take (i := 4) (oi := _) (v := ?_) rfl (by kernel_rfl) (by kernel_rfl) (by kernel_rfl) (fun _ _ _ h => h) (Or.inl ⟨by rfl, ?_⟩) hS ?_
          rotate_left
          · intro w' hw'
            (try dsimp only at hw')
            go_simp
            (try with_reducible rfl)
          simp only [Act.put, List.getElem_toArray, List.getElem_cons_succ, List.getElem_cons_zero, List.setIfInBounds_toArray, List.set_cons_zero, List.set_cons_succ]
          refine wpAnyH_take (i := 5) (oi := _) (v := undef) rfl (by kernel_rfl) (by kernel_rfl) (by kernel_rfl) (fun _ _ _ h => h) (Or.inr ⟨by rfl, rfl⟩) hS ?_
          simp only [Act.put, List.getElem_toArray, List.getElem_cons_succ, List.getElem_cons_zero, List.setIfInBounds_toArray, List.set_cons_zero, List.set_cons_succ]
          refine wpAnyH_take (i := 6) (oi := _) (v := undef) rfl (by kernel_rfl) (by kernel_rfl) (by kernel_rfl) (fun _ _ _ h => h) (Or.inr ⟨by rfl, rfl⟩) hS ?_
          simp only [Act.put, List.getElem_toArray, List.getElem_cons_succ, List.getElem_cons_zero, List.setIfInBounds_toArray, List.set_cons_zero, List.set_cons_succ]
          refine wpAnyH_take (i := 7) (oi := _) (v := undef) rfl (by kernel_rfl) (by kernel_rfl) (by kernel_rfl) (fun _ _ _ h => h) (Or.inr ⟨by rfl, rfl⟩) hS ?_
          simp only [Act.put, List.getElem_toArray, List.getElem_cons_succ, List.getElem_cons_zero, List.setIfInBounds_toArray, List.set_cons_zero, List.set_cons_succ]
          refine wpAnyH_take (i := 8) (oi := _) (v := undef) rfl (by kernel_rfl) (by kernel_rfl) (by kernel_rfl) (fun _ _ _ h => h) (Or.inr ⟨by rfl, rfl⟩) hS ?_
          simp only [Act.put, List.getElem_toArray, List.getElem_cons_succ, List.getElem_cons_zero, List.setIfInBounds_toArray, List.set_cons_zero, List.set_cons_succ]
          refine wpAnyH_take (i := 9) (oi := _) (v := undef) rfl (by kernel_rfl) (by kernel_rfl) (by kernel_rfl) (fun _ _ _ h => h) (Or.inr ⟨by rfl, rfl⟩) hS ?_
          simp only [Act.put, List.getElem_toArray, List.getElem_cons_succ, List.getElem_cons_zero, List.setIfInBounds_toArray, List.set_cons_zero, List.set_cons_succ]
          refine wpAnyH_take (i := 10) (oi := _) (v := undef) rfl (by kernel_rfl) (by kernel_rfl) (by kernel_rfl) (fun _ _ _ h => h) (Or.inr ⟨by rfl, rfl⟩) hS ?_
          simp only [Act.put, List.getElem_toArray, List.getElem_cons_succ, List.getElem_cons_zero, List.setIfInBounds_toArray, List.set_cons_zero, List.set_cons_succ]
          refine wpAnyH_take (i := 11) (oi := _) (v := undef) rfl (by kernel_rfl) (by kernel_rfl) (by kernel_rfl) (fun _ _ _ h => h) (Or.inr ⟨by rfl, rfl⟩) hS ?_
          simp only [Act.put, List.getElem_toArray, List.getElem_cons_succ, List.getElem_cons_zero, List.setIfInBounds_toArray, List.set_cons_zero, List.set_cons_succ]
          refine wpAnyH_take (i := 12) (oi := _) (v := undef) rfl (by kernel_rfl) (by kernel_rfl) (by kernel_rfl) (fun _ _ _ h => h) (Or.inr ⟨by rfl, rfl⟩) hS ?_
          simp only [Act.put, List.getElem_toArray, List.getElem_cons_succ, List.getElem_cons_zero, List.setIfInBounds_toArray, List.set_cons_zero, List.set_cons_succ]
          refine wpAnyH_take (i := 13) (oi := _) (v := undef) rfl (by kernel_rfl) (by kernel_rfl) (by kernel_rfl) (fun _ _ _ h => h) (Or.inr ⟨by rfl, rfl⟩) hS ?_
          simp only [Act.put, List.getElem_toArray, List.getElem_cons_succ, List.getElem_cons_zero, List.setIfInBounds_toArray, List.set_cons_zero, List.set_cons_succ]
          refine wpAnyH_take (i := 14) (oi := _) (v := undef) rfl (by kernel_rfl) (by kernel_rfl) (by kernel_rfl) (fun _ _ _ h => h) (Or.inr ⟨by rfl, rfl⟩) hS ?_
          simp only [Act.put, List.getElem_toArray, List.getElem_cons_succ, List.getElem_cons_zero, List.setIfInBounds_toArray, List.set_cons_zero, List.set_cons_succ]
          refine wpAnyH_take (i := 15) (oi := _) (v := ?_) rfl (by kernel_rfl) (by kernel_rfl) (by kernel_rfl) (fun _ _ _ h => h) (Or.inl ⟨by rfl, ?_⟩) hS ?_
          rotate_left
          · intro w' hw'
            (try dsimp only at hw')
            go_simp
            (try with_reducible rfl)
          simp only [Act.put, List.getElem_toArray, List.getElem_cons_succ, List.getElem_cons_zero, List.setIfInBounds_toArray, List.set_cons_zero, List.set_cons_succ]
          refine wpAnyH_done (by kernel_rfl) ?_ _
          (try dsimp only)
          have HBV := hid (HBI.out.trans (hS.mono HBI.out.size))
          clear hS
          obtain ⟨wv, hwv⟩ : ∃ w1 : World, w1 = wi.drew.drew := ⟨_, rfl⟩
          rw [← hwv] at HBV ⊢
          clear hwv
          have HC9 := hid (show ∀ W, Below wv.heap.size wv W → W.cell? ⟨b, o + k * 18 + 1, none⟩ = some (.string (ofL nb)) from fun W h => HNM.out W (HBV.out.trans (h.mono HBV.out.size)))
          have HSV := hid (show B ≤ wv.heap.size by have h1 := HBR.out.size; have h2 := HBV.out.size; have h3 := HB.out; omega)
          have HCL := hid (show ∀ W, Below wv.heap.size wv W → Cl strK W p3 zs.length zs from fun W h => keptCl (HKE.out.ext (by have h1 := HBR.out.size; have h3 := HB.out; omega) (HBV.out.trans (h.mono HBV.out.size))))
          have hjc : (zs.length : Int) ≤ (c3 : Int) := by omega
          have hjc2 : (zs.length : Int) ≤ (zs.length : Int) := by omega
          have hjc3 : (zs.length : Int) ≤ (c3 : Int) := by omega
          have hJ0 : (0 : Int) ≤ (zs.length : Int) := by omega
          skip
          go_upto_region 9 with (fail)
          refine wp_region_held_drew (S := (fun W => Below wv.heap.size wv W)) (by kernel_rfl) ((Below.refl _ _).drew) (fun hS => ?_)
          refine wpAnyH_take (i := 1) (oi := _) (v := ?_) rfl (by kernel_rfl) (by kernel_rfl) (by kernel_rfl) (fun _ _ _ h => h) (Or.inl ⟨by rfl, ?_⟩) hS ?_
          rotate_left
          · intro w' hw'
            have hcells := HC9.out w' hw'
            go_simp
            (try with_reducible rfl)
          simp only [Act.put, List.getElem_toArray, List.getElem_cons_succ, List.getElem_cons_zero, List.setIfInBounds_toArray, List.set_cons_zero, List.set_cons_succ]
          refine wpAnyH_take (i := 2) (oi := _) (v := ?_) rfl (by kernel_rfl) (by kernel_rfl) (by kernel_rfl) (fun _ _ _ h => h) (Or.inl ⟨by rfl, ?_⟩) hS ?_
          rotate_left
          · intro w' hw'
            have hcells := HC9.out w' hw'
            go_simp
            (try with_reducible rfl)
          simp only [Act.put, List.getElem_toArray, List.getElem_cons_succ, List.getElem_cons_zero, List.setIfInBounds_toArray, List.set_cons_zero, List.set_cons_succ]
          refine wpAnyH_take (i := 3) (oi := _) (v := ?_) rfl (by kernel_rfl) (by kernel_rfl) (by kernel_rfl) (fun _ _ _ h => h) (Or.inl ⟨by rfl, ?_⟩) hS ?_
          rotate_left
          · intro w' hw'
            have hcells := HC9.out w' hw'
            go_simp
            (try with_reducible rfl)
          simp only [Act.put, List.getElem_toArray, List.getElem_cons_succ, List.getElem_cons_zero, List.setIfInBounds_toArray, List.set_cons_zero, List.set_cons_succ]
          refine wpAnyH_take (i := 5) (oi := _) (v := ?_) rfl (by kernel_rfl) (by kernel_rfl) (by kernel_rfl) (fun _ _ _ h => h) (Or.inl ⟨by rfl, ?_⟩) hS ?_
          rotate_left
          · intro w' hw'
            have hcells := HC9.out w' hw'
            go_simp
            (try with_reducible rfl)
          simp only [Act.put, List.getElem_toArray, List.getElem_cons_succ, List.getElem_cons_zero, List.setIfInBounds_toArray, List.set_cons_zero, List.set_cons_succ]
          refine wpAnyH_take (i := 6) (oi := _) (v := ?_) rfl (by kernel_rfl) (by kernel_rfl) (by kernel_rfl) (fun _ _ _ h => h) (Or.inl ⟨by rfl, ?_⟩) hS ?_
          rotate_left
          · intro w' hw'
            have hcells := HC9.out w' hw'
            go_simp
            (try with_reducible rfl)
          simp only [Act.put, List.getElem_toArray, List.getElem_cons_succ, List.getElem_cons_zero, List.setIfInBounds_toArray, List.set_cons_zero, List.set_cons_succ]
          refine wpAnyH_take (i := 7) (oi := _) (v := ?_) rfl (by kernel_rfl) (by kernel_rfl) (by kernel_rfl) (fun _ _ _ h => h) (Or.inl ⟨by rfl, ?_⟩) hS ?_
          rotate_left
          · intro w' hw'
            have hcells := HC9.out w' hw'
            go_simp
            (try with_reducible rfl)
          simp only [Act.put, List.getElem_toArray, List.getElem_cons_succ, List.getElem_cons_zero, List.setIfInBounds_toArray, List.set_cons_zero, List.set_cons_succ]
          refine wpAnyH_take (i := 8) (oi := _) (v := ?_) rfl (by kernel_rfl) (by kernel_rfl) (by kernel_rfl) (fun _ _ _ h => h) (Or.inl ⟨by rfl, ?_⟩) hS ?_
          rotate_left
          · intro w' hw'
            have hcells := HC9.out w' hw'
            go_simp
            (try with_reducible rfl)
          simp only [Act.put, List.getElem_toArray, List.getElem_cons_succ, List.getElem_cons_zero, List.setIfInBounds_toArray, List.set_cons_zero, List.set_cons_succ]
          refine wpAnyH_take (i := 9) (oi := _) (v := ?_) rfl (by kernel_rfl) (by kernel_rfl) (by kernel_rfl) (fun _ _ _ h => h) (Or.inl ⟨by rfl, ?_⟩) hS ?_
          rotate_left
          · intro w' hw'
            have hcells := HC9.out w' hw'
            go_simp
            (try with_reducible rfl)
          simp only [Act.put, List.getElem_toArray, List.getElem_cons_succ, List.getElem_cons_zero, List.setIfInBounds_toArray, List.set_cons_zero, List.set_cons_succ]
          refine wpAnyH_take (i := 12) (oi := _) (v := ?_) rfl (by kernel_rfl) (by kernel_rfl) (by kernel_rfl) (fun _ _ _ h => h) (Or.inl ⟨by rfl, ?_⟩) hS ?_
          rotate_left
          · intro w' hw'
            have hcells := HC9.out w' hw'
            go_simp
            (try with_reducible rfl)
          simp only [Act.put, List.getElem_toArray, List.getElem_cons_succ, List.getElem_cons_zero, List.setIfInBounds_toArray, List.set_cons_zero, List.set_cons_succ]
          refine wpAnyH_take (i := 13) (oi := _) (v := ?_) rfl (by kernel_rfl) (by kernel_rfl) (by kernel_rfl) (fun _ _ _ h => h) (Or.inl ⟨by rfl, ?_⟩) hS ?_
          rotate_left
          · intro w' hw'
            have hcells := HC9.out w' hw'
            go_simp
            (try with_reducible rfl)
          simp only [Act.put, List.getElem_toArray, List.getElem_cons_succ, List.getElem_cons_zero, List.setIfInBounds_toArray, List.set_cons_zero, List.set_cons_succ]
          refine wpAnyH_take (i := 14) (oi := _) (v := ?_) rfl (by kernel_rfl) (by kernel_rfl) (by kernel_rfl) (fun _ _ _ h => h) (Or.inl ⟨by rfl, ?_⟩) hS ?_
          rotate_left
          · intro w' hw'
            have hcells := HC9.out w' hw'
            go_simp
            (try with_reducible rfl)
          simp only [Act.put, List.getElem_toArray, List.getElem_cons_succ, List.getElem_cons_zero, List.setIfInBounds_toArray, List.set_cons_zero, List.set_cons_succ]
          refine wpAnyH_ready (rs := [0, 10]) (by kernel_rfl) (by simp) ?_
          refine AllReadyH.cons (o := _) rfl (fun K hK => ?_) ?_
          · go_simp
            obtain ⟨w0, hw0⟩ : ∃ u, u = (wv.alloc (.cells #[] 9)).drew := ⟨_, rfl⟩
            rw [← hw0]
            have HB0 := hid (show Below wv.heap.size wv w0 by rw [hw0]; exact ((Below.refl _ _).alloc (Nat.le_refl _) _).drew)
            have HS0 := hid (show w0.heap.size = wv.heap.size + 1 by rw [hw0]; simp)
            have HK0 := hid (show Kept strK 9 B w0 (.slice (some ⟨wv.heap.size, 0, none⟩) 0 0) 0 [] by rw [hw0]; exact (Kept.made (w := wv) #[] 0 HSV.out (Nat.zero_le _) rfl).ext (by simp; have := HSV.out; omega) ((Below.refl _ _).drew))
            clear hw0
            refine hK.out _ _ (HB0.out) (fun hS => ?_)
            clear hK K
            (try simp only [Act.put, List.getElem_toArray, List.getElem_cons_succ, List.getElem_cons_zero, List.setIfInBounds_toArray, List.set_cons_zero, List.set_cons_succ])
            refine wpAnyH_ready (rs := [4, 10]) (by kernel_rfl) (by simp) ?_
            refine AllReadyH.cons (o := _) rfl (fun K hK => ?_) ?_
            · obtain ⟨a4, cap4, w4, hr4, hk4, hg4, hat4⟩ := run_append_kept (K := strK) (P := Tryz.prog) (w := w0) (ty := 37) Tryz.underlying37 hi hz0 (by rw [hz1]) (by rw [hz2]; omega) rfl one_st HK0.out c3 (clT (HCL.out w0 HB0.out) zs.length (by omega)) (l2 := zs.take zs.length) (by rw [List.length_take]; omega) (fun _ _ _ => rfl) (Nat.le_trans HSV.out (HB0.out).size) (by omega)
              rw [Nat.zero_add] at hr4 hk4 hat4
              rw [List.nil_append] at hk4
              refine step_append_run (by rfl) _ _ _ (by rfl) _ _ _ _ (by rfl) (by rfl) hr4 ?_
              have hown4 := HK0.out.own
              have HK4 := hid hk4
              have hn4 : ∀ r, (Value.slice (some ⟨wv.heap.size, 0, none⟩) 0 0).ownBlock = some r → wv.heap.size ≤ r := fun r e => by cases e; exact Nat.le_refl _
              have HAT4 := hid (show ∀ r, (Value.slice a4 zs.length cap4).ownBlock = some r → wv.heap.size ≤ r from fun r hr => (hat4 r hr).elim (fun e => hn4 r e) (fun e => by rw [e]; exact HB0.out.size))
              have HB4 := hid (HB0.out.trans (grown_below hg4 hn4 HB0.out.size))
              clear hr4 hk4 hg4 hat4 hown4 hn4
              refine hK.out _ _ (HB4.out) (fun hS => ?_)
              clear hK K
              (try simp only [Act.put, List.getElem_toArray, List.getElem_cons_succ, List.getElem_cons_zero, List.setIfInBounds_toArray, List.set_cons_zero, List.set_cons_succ])
              refine wpAnyH_ready (rs := [10]) (by kernel_rfl) (by simp) ?_
              refine AllReadyH.cons (o := _) rfl (fun K hK => ?_) AllReadyH.nil
              go_simp
              obtain ⟨wX, hwX⟩ : ∃ u, u = w4.alloc (.cells #[.string (ofL nb)] 9) := ⟨_, rfl⟩
              rw [← hwX]
              have hbx : Below w4.heap.size w4 wX := by rw [hwX]; exact (Below.refl _ _).alloc (Nat.le_refl _) _
              have HXB := hid (HB4.out.trans (hbx.mono HB4.out.size))
              have HCX := hid (show wX.heap[w4.heap.size]? = some (.cells #[.string (ofL nb)] 9) by rw [hwX]; exact heap_alloc_new w4 _)
              have HKX := hid (HK4.out.ext (Nat.le_trans HSV.out HB4.out.size) hbx)
              clear hwX hbx
              refine hK.out _ _ (HXB.out) (fun hS => ?_)
              clear hK K
              (try simp only [Act.put, List.getElem_toArray, List.getElem_cons_succ, List.getElem_cons_zero, List.setIfInBounds_toArray, List.set_cons_zero, List.set_cons_succ])
              refine wpAnyH_ready (rs := [11]) (by kernel_rfl) (by simp) ?_
              refine AllReadyH.cons (o := _) rfl (fun K hK => ?_) AllReadyH.nil
              have hcx : Cl strK wX (some ⟨w4.heap.size, 0, none⟩) 1 [nb] := ⟨rfl, .inr ⟨_, rfl, fun t u hu => (by rw [flatS] at hu; exact World.news_of_block HCX.out t u hu)⟩⟩
              obtain ⟨a5, cap5, w5, hr5, hk5, hg5, hat5⟩ := run_append_kept (K := strK) (P := Tryz.prog) (w := wX) (ty := 37) Tryz.underlying37 hi hz0 (by rw [hz1]) (by rw [hz2]; omega) rfl one_st HKX.out 1 hcx (l2 := [nb]) rfl (one_els rfl) (Nat.le_trans HSV.out (HXB.out).size) (by omega)
              refine step_append_run (by rfl) _ _ _ (by rfl) _ _ _ _ (by rfl) (by rfl) hr5 ?_
              have HK5 := hid hk5
              have HAT5 := hid (show ∀ r, (Value.slice a5 (zs.length + 1) cap5).ownBlock = some r → wv.heap.size ≤ r from fun r hr => (hat5 r hr).elim (fun e => HAT4.out r e) (fun e => by rw [e]; exact HXB.out.size))
              have HB5 := hid (HXB.out.trans (grown_below hg5 HAT4.out HXB.out.size))
              clear hr5 hk5 hg5 hat5 hcx
              refine hK.out _ _ (HB5.out) (fun hS => ?_)
              clear hK K
              (try simp only [Act.put, List.getElem_toArray, List.getElem_cons_succ, List.getElem_cons_zero, List.setIfInBounds_toArray, List.set_cons_zero, List.set_cons_succ])
              refine wpAnyH_ready (rs := [15]) (by kernel_rfl) (by simp) ?_
              refine AllReadyH.cons (o := _) rfl (fun K hK => ?_) AllReadyH.nil
              obtain ⟨a6, cap6, w6, hr6, hk6, hg6, hat6⟩ := run_append_kept (K := strK) (P := Tryz.prog) (w := w5) (ty := 37) Tryz.underlying37 hi hz0 (by rw [hz1]) (by rw [hz2]; omega) rfl one_st HK5.out (a := (if c3 = zs.length then p3 else Option.map (fun x => x.add zs.length) p3)) (m := 0) (c3 - zs.length) (cs2 := []) ⟨rfl, .inl rfl⟩ (l2 := []) rfl (fun _ _ _ => rfl) (Nat.le_trans HSV.out HB5.out.size) (by omega)
              refine step_append_run (by rfl) _ _ _ (by rfl) _ _ _ _ (by rfl) (by rfl) hr6 ?_
              have HK6 := hid hk6
              have HB6 := hid (HB5.out.trans (grown_below hg6 HAT5.out HB5.out.size))
              clear hr6 hk6 hg6 hat6
              refine hK.out _ _ (HB6.out) (fun hS => ?_)
              clear hK K
              (try simp only [Act.put, List.getElem_toArray, List.getElem_cons_succ, List.getElem_cons_zero, List.setIfInBounds_toArray, List.set_cons_zero, List.set_cons_succ])
              refine wpAnyH_take (i := 16) (oi := _) (v := ?_) rfl (by kernel_rfl) (by kernel_rfl) (by kernel_rfl) (fun _ _ _ h => h) (Or.inl ⟨by rfl, ?_⟩) hS ?_
              rotate_left
              · intro w' hw'
                have hcells := HC9.out w' hw'
                go_simp
                (try with_reducible rfl)
              simp only [Act.put, List.getElem_toArray, List.getElem_cons_succ, List.getElem_cons_zero, List.setIfInBounds_toArray, List.set_cons_zero, List.set_cons_succ]
              refine wpAnyH_done (by kernel_rfl) ?_ _
              (try dsimp only)
              clear hS
              go_wp2
              go_roundw
              case rel =>
                have hs0 := HBR.out.size
                have hs1 := HB.out
                have hs2 := HBV.out.size
                have hII := ins_inc (nb := nb) (j := zs.length) HIN.out.1 (by omega) HLOW.out HSTOP.out
                rw [List.drop_length] at hII
                have hle : (zs.take zs.length ++ [nb] ++ ([] : List TB)).length = zs.length + 1 + 0 := by simp; try omega
                refine ⟨k + 1, zs.take zs.length ++ [nb] ++ ([] : List TB), by omega, by go_num, ?_, by rw [hle]; omega, fun e => by simp at e, ⟨hII.1, fun x => ?_⟩, HBR.out.trans ((HBV.out.trans (HB6.out.mono HBV.out.size)).mono (by omega))⟩
                · rw [hle]; exact HK6.out
                · rw [hII.2, HIN.out.2, HTK.out]
              case measure => simp [intOf]; omega
            refine AllReadyH.cons (o := _) rfl (fun K hK => ?_) AllReadyH.nil
            go_simp
            obtain ⟨wX, hwX⟩ : ∃ u, u = w0.alloc (.cells #[.string (ofL nb)] 9) := ⟨_, rfl⟩
            rw [← hwX]
            have hbx : Below w0.heap.size w0 wX := by rw [hwX]; exact (Below.refl _ _).alloc (Nat.le_refl _) _
            have HXB := hid (HB0.out.trans (hbx.mono HB0.out.size))
            have HCX := hid (show wX.heap[w0.heap.size]? = some (.cells #[.string (ofL nb)] 9) by rw [hwX]; exact heap_alloc_new w0 _)
            have HKX := hid (HK0.out.ext (Nat.le_trans HSV.out HB0.out.size) hbx)
            clear hwX hbx
            refine hK.out _ _ (HXB.out) (fun hS => ?_)
            clear hK K
            (try simp only [Act.put, List.getElem_toArray, List.getElem_cons_succ, List.getElem_cons_zero, List.setIfInBounds_toArray, List.set_cons_zero, List.set_cons_succ])
            refine wpAnyH_ready (rs := [4]) (by kernel_rfl) (by simp) ?_
            refine AllReadyH.cons (o := _) rfl (fun K hK => ?_) AllReadyH.nil
            obtain ⟨a4, cap4, w4, hr4, hk4, hg4, hat4⟩ := run_append_kept (K := strK) (P := Tryz.prog) (w := wX) (ty := 37) Tryz.underlying37 hi hz0 (by rw [hz1]) (by rw [hz2]; omega) rfl one_st HKX.out c3 (clT (HCL.out wX HXB.out) zs.length (by omega)) (l2 := zs.take zs.length) (by rw [List.length_take]; omega) (fun _ _ _ => rfl) (Nat.le_trans HSV.out (HXB.out).size) (by omega)
            rw [Nat.zero_add] at hr4 hk4 hat4
            rw [List.nil_append] at hk4
            refine step_append_run (by rfl) _ _ _ (by rfl) _ _ _ _ (by rfl) (by rfl) hr4 ?_
            have hown4 := HKX.out.own
            have HK4 := hid hk4
            have hn4 : ∀ r, (Value.slice (some ⟨wv.heap.size, 0, none⟩) 0 0).ownBlock = some r → wv.heap.size ≤ r := fun r e => by cases e; exact Nat.le_refl _
            have HAT4 := hid (show ∀ r, (Value.slice a4 zs.length cap4).ownBlock = some r → wv.heap.size ≤ r from fun r hr => (hat4 r hr).elim (fun e => hn4 r e) (fun e => by rw [e]; exact HXB.out.size))
            have HB4 := hid (HXB.out.trans (grown_below hg4 hn4 HXB.out.size))
            have HCX4 := hid ((hg4.block _ (ltOf HCX.out) (fun e => by have e2 : w0.heap.size = wv.heap.size := Option.some.inj e; have := HS0.out; omega)).trans HCX.out)
            clear hr4 hk4 hg4 hat4 hown4 hn4
            refine hK.out _ _ (HB4.out) (fun hS => ?_)
            clear hK K
            (try simp only [Act.put, List.getElem_toArray, List.getElem_cons_succ, List.getElem_cons_zero, List.setIfInBounds_toArray, List.set_cons_zero, List.set_cons_succ])
            refine wpAnyH_ready (rs := [11]) (by kernel_rfl) (by simp) ?_
            refine AllReadyH.cons (o := _) rfl (fun K hK => ?_) AllReadyH.nil
            have hcx : Cl strK w4 (some ⟨w0.heap.size, 0, none⟩) 1 [nb] := ⟨rfl, .inr ⟨_, rfl, fun t u hu => (by rw [flatS] at hu; exact World.news_of_block HCX4.out t u hu)⟩⟩
            obtain ⟨a5, cap5, w5, hr5, hk5, hg5, hat5⟩ := run_append_kept (K := strK) (P := Tryz.prog) (w := w4) (ty := 37) Tryz.underlying37 hi hz0 (by rw [hz1]) (by rw [hz2]; omega) rfl one_st HK4.out 1 hcx (l2 := [nb]) rfl (one_els rfl) (Nat.le_trans HSV.out (HB4.out).size) (by omega)
            refine step_append_run (by rfl) _ _ _ (by rfl) _ _ _ _ (by rfl) (by rfl) hr5 ?_
            have HK5 := hid hk5
            have HAT5 := hid (show ∀ r, (Value.slice a5 (zs.length + 1) cap5).ownBlock = some r → wv.heap.size ≤ r from fun r hr => (hat5 r hr).elim (fun e => HAT4.out r e) (fun e => by rw [e]; exact HB4.out.size))
            have HB5 := hid (HB4.out.trans (grown_below hg5 HAT4.out HB4.out.size))
            clear hr5 hk5 hg5 hat5 hcx
            refine hK.out _ _ (HB5.out) (fun hS => ?_)
            clear hK K
            (try simp only [Act.put, List.getElem_toArray, List.getElem_cons_succ, List.getElem_cons_zero, List.setIfInBounds_toArray, List.set_cons_zero, List.set_cons_succ])
            refine wpAnyH_ready (rs := [15]) (by kernel_rfl) (by simp) ?_
            refine AllReadyH.cons (o := _) rfl (fun K hK => ?_) AllReadyH.nil
            obtain ⟨a6, cap6, w6, hr6, hk6, hg6, hat6⟩ := run_append_kept (K := strK) (P := Tryz.prog) (w := w5) (ty := 37) Tryz.underlying37 hi hz0 (by rw [hz1]) (by rw [hz2]; omega) rfl one_st HK5.out (a := (if c3 = zs.length then p3 else Option.map (fun x => x.add zs.length) p3)) (m := 0) (c3 - zs.length) (cs2 := []) ⟨rfl, .inl rfl⟩ (l2 := []) rfl (fun _ _ _ => rfl) (Nat.le_trans HSV.out HB5.out.size) (by omega)
            refine step_append_run (by rfl) _ _ _ (by rfl) _ _ _ _ (by rfl) (by rfl) hr6 ?_
            have HK6 := hid hk6
            have HB6 := hid (HB5.out.trans (grown_below hg6 HAT5.out HB5.out.size))
            clear hr6 hk6 hg6 hat6
            refine hK.out _ _ (HB6.out) (fun hS => ?_)
            clear hK K
            (try simp only [Act.put, List.getElem_toArray, List.getElem_cons_succ, List.getElem_cons_zero, List.setIfInBounds_toArray, List.set_cons_zero, List.set_cons_succ])
            refine wpAnyH_take (i := 16) (oi := _) (v := ?_) rfl (by kernel_rfl) (by kernel_rfl) (by kernel_rfl) (fun _ _ _ h => h) (Or.inl ⟨by rfl, ?_⟩) hS ?_
            rotate_left
            · intro w' hw'
              have hcells := HC9.out w' hw'
              go_simp
              (try with_reducible rfl)
            simp only [Act.put, List.getElem_toArray, List.getElem_cons_succ, List.getElem_cons_zero, List.setIfInBounds_toArray, List.set_cons_zero, List.set_cons_succ]
            refine wpAnyH_done (by kernel_rfl) ?_ _
            (try dsimp only)
            clear hS
            go_wp2
            go_roundw
            case rel =>
              have hs0 := HBR.out.size
              have hs1 := HB.out
              have hs2 := HBV.out.size
              have hII := ins_inc (nb := nb) (j := zs.length) HIN.out.1 (by omega) HLOW.out HSTOP.out
              rw [List.drop_length] at hII
              have hle : (zs.take zs.length ++ [nb] ++ ([] : List TB)).length = zs.length + 1 + 0 := by simp; try omega
              refine ⟨k + 1, zs.take zs.length ++ [nb] ++ ([] : List TB), by omega, by go_num, ?_, by rw [hle]; omega, fun e => by simp at e, ⟨hII.1, fun x => ?_⟩, HBR.out.trans ((HBV.out.trans (HB6.out.mono HBV.out.size)).mono (by omega))⟩
              · rw [hle]; exact HK6.out
              · rw [hII.2, HIN.out.2, HTK.out]
            case measure => simp [intOf]; omega
          refine AllReadyH.cons (o := _) rfl (fun K hK => ?_) AllReadyH.nil
          go_simp
          obtain ⟨wX, hwX⟩ : ∃ u, u = (wv.alloc (.cells #[.string (ofL nb)] 9)).drew := ⟨_, rfl⟩
          rw [← hwX]
          have HXB := hid (show Below wv.heap.size wv wX by rw [hwX]; exact ((Below.refl _ _).alloc (Nat.le_refl _) _).drew)
          have HCX := hid (show wX.heap[wv.heap.size]? = some (.cells #[.string (ofL nb)] 9) by rw [hwX]; exact heap_alloc_new wv _)
          have HSX := hid (show wX.heap.size = wv.heap.size + 1 by rw [hwX]; simp)
          clear hwX
          refine hK.out _ _ (HXB.out) (fun hS => ?_)
          clear hK K
          (try simp only [Act.put, List.getElem_toArray, List.getElem_cons_succ, List.getElem_cons_zero, List.setIfInBounds_toArray, List.set_cons_zero, List.set_cons_succ])
          refine wpAnyH_ready (rs := [0]) (by kernel_rfl) (by simp) ?_
          refine AllReadyH.cons (o := _) rfl (fun K hK => ?_) AllReadyH.nil
          go_simp
          obtain ⟨w0, hw0⟩ : ∃ u, u = wX.alloc (.cells #[] 9) := ⟨_, rfl⟩
          rw [← hw0]
          have hb0 : Below wX.heap.size wX w0 := by rw [hw0]; exact (Below.refl _ _).alloc (Nat.le_refl _) _
          have HB0 := hid (HXB.out.trans (hb0.mono HXB.out.size))
          have HK0 := hid (show Kept strK 9 B w0 (.slice (some ⟨wX.heap.size, 0, none⟩) 0 0) 0 [] by rw [hw0]; exact Kept.made #[] 0 (Nat.le_trans HSV.out HXB.out.size) (Nat.zero_le _) rfl)
          have HCX0 := hid (heapExt hb0 HCX.out)
          clear hw0 hb0
          refine hK.out _ _ (HB0.out) (fun hS => ?_)
          clear hK K
          (try simp only [Act.put, List.getElem_toArray, List.getElem_cons_succ, List.getElem_cons_zero, List.setIfInBounds_toArray, List.set_cons_zero, List.set_cons_succ])
          refine wpAnyH_ready (rs := [4]) (by kernel_rfl) (by simp) ?_
          refine AllReadyH.cons (o := _) rfl (fun K hK => ?_) AllReadyH.nil
          obtain ⟨a4, cap4, w4, hr4, hk4, hg4, hat4⟩ := run_append_kept (K := strK) (P := Tryz.prog) (w := w0) (ty := 37) Tryz.underlying37 hi hz0 (by rw [hz1]) (by rw [hz2]; omega) rfl one_st HK0.out c3 (clT (HCL.out w0 HB0.out) zs.length (by omega)) (l2 := zs.take zs.length) (by rw [List.length_take]; omega) (fun _ _ _ => rfl) (Nat.le_trans HSV.out (HB0.out).size) (by omega)
          rw [Nat.zero_add] at hr4 hk4 hat4
          rw [List.nil_append] at hk4
          refine step_append_run (by rfl) _ _ _ (by rfl) _ _ _ _ (by rfl) (by rfl) hr4 ?_
          have hown4 := HK0.out.own
          have HK4 := hid hk4
          have hn4 : ∀ r, (Value.slice (some ⟨wX.heap.size, 0, none⟩) 0 0).ownBlock = some r → wv.heap.size ≤ r := fun r e => by cases e; exact HXB.out.size
          have HAT4 := hid (show ∀ r, (Value.slice a4 zs.length cap4).ownBlock = some r → wv.heap.size ≤ r from fun r hr => (hat4 r hr).elim (fun e => hn4 r e) (fun e => by rw [e]; exact HB0.out.size))
          have HB4 := hid (HB0.out.trans (grown_below hg4 hn4 HB0.out.size))
          have HCX4 := hid ((hg4.block _ (ltOf HCX0.out) (fun e => by have e2 : wv.heap.size = wX.heap.size := Option.some.inj e; have := HSX.out; omega)).trans HCX0.out)
          clear hr4 hk4 hg4 hat4 hown4 hn4
          refine hK.out _ _ (HB4.out) (fun hS => ?_)
          clear hK K
          (try simp only [Act.put, List.getElem_toArray, List.getElem_cons_succ, List.getElem_cons_zero, List.setIfInBounds_toArray, List.set_cons_zero, List.set_cons_succ])
          refine wpAnyH_ready (rs := [11]) (by kernel_rfl) (by simp) ?_
          refine AllReadyH.cons (o := _) rfl (fun K hK => ?_) AllReadyH.nil
          have hcx : Cl strK w4 (some ⟨wv.heap.size, 0, none⟩) 1 [nb] := ⟨rfl, .inr ⟨_, rfl, fun t u hu => (by rw [flatS] at hu; exact World.news_of_block HCX4.out t u hu)⟩⟩
          obtain ⟨a5, cap5, w5, hr5, hk5, hg5, hat5⟩ := run_append_kept (K := strK) (P := Tryz.prog) (w := w4) (ty := 37) Tryz.underlying37 hi hz0 (by rw [hz1]) (by rw [hz2]; omega) rfl one_st HK4.out 1 hcx (l2 := [nb]) rfl (one_els rfl) (Nat.le_trans HSV.out (HB4.out).size) (by omega)
          refine step_append_run (by rfl) _ _ _ (by rfl) _ _ _ _ (by rfl) (by rfl) hr5 ?_
          have HK5 := hid hk5
          have HAT5 := hid (show ∀ r, (Value.slice a5 (zs.length + 1) cap5).ownBlock = some r → wv.heap.size ≤ r from fun r hr => (hat5 r hr).elim (fun e => HAT4.out r e) (fun e => by rw [e]; exact HB4.out.size))
          have HB5 := hid (HB4.out.trans (grown_below hg5 HAT4.out HB4.out.size))
          clear hr5 hk5 hg5 hat5 hcx
          refine hK.out _ _ (HB5.out) (fun hS => ?_)
          clear hK K
          (try simp only [Act.put, List.getElem_toArray, List.getElem_cons_succ, List.getElem_cons_zero, List.setIfInBounds_toArray, List.set_cons_zero, List.set_cons_succ])
          refine wpAnyH_ready (rs := [15]) (by kernel_rfl) (by simp) ?_
          refine AllReadyH.cons (o := _) rfl (fun K hK => ?_) AllReadyH.nil
          obtain ⟨a6, cap6, w6, hr6, hk6, hg6, hat6⟩ := run_append_kept (K := strK) (P := Tryz.prog) (w := w5) (ty := 37) Tryz.underlying37 hi hz0 (by rw [hz1]) (by rw [hz2]; omega) rfl one_st HK5.out (a := (if c3 = zs.length then p3 else Option.map (fun x => x.add zs.length) p3)) (m := 0) (c3 - zs.length) (cs2 := []) ⟨rfl, .inl rfl⟩ (l2 := []) rfl (fun _ _ _ => rfl) (Nat.le_trans HSV.out HB5.out.size) (by omega)
          refine step_append_run (by rfl) _ _ _ (by rfl) _ _ _ _ (by rfl) (by rfl) hr6 ?_
          have HK6 := hid hk6
          have HB6 := hid (HB5.out.trans (grown_below hg6 HAT5.out HB5.out.size))
          clear hr6 hk6 hg6 hat6
          refine hK.out _ _ (HB6.out) (fun hS => ?_)
          clear hK K
          (try simp only [Act.put, List.getElem_toArray, List.getElem_cons_succ, List.getElem_cons_zero, List.setIfInBounds_toArray, List.set_cons_zero, List.set_cons_succ])
          refine wpAnyH_take (i := 16) (oi := _) (v := ?_) rfl (by kernel_rfl) (by kernel_rfl) (by kernel_rfl) (fun _ _ _ h => h) (Or.inl ⟨by rfl, ?_⟩) hS ?_
          rotate_left
          · intro w' hw'
            have hcells := HC9.out w' hw'
            go_simp
            (try with_reducible rfl)
          simp only [Act.put, List.getElem_toArray, List.getElem_cons_succ, List.getElem_cons_zero, List.setIfInBounds_toArray, List.set_cons_zero, List.set_cons_succ]
          refine wpAnyH_done (by kernel_rfl) ?_ _
          (try dsimp only)
          clear hS
          go_wp2
          go_roundw
          case rel =>
            have hs0 := HBR.out.size
            have hs1 := HB.out
            have hs2 := HBV.out.size
            have hII := ins_inc (nb := nb) (j := zs.length) HIN.out.1 (by omega) HLOW.out HSTOP.out
            rw [List.drop_length] at hII
            have hle : (zs.take zs.length ++ [nb] ++ ([] : List TB)).length = zs.length + 1 + 0 := by simp; try omega
            refine ⟨k + 1, zs.take zs.length ++ [nb] ++ ([] : List TB), by omega, by go_num, ?_, by rw [hle]; omega, fun e => by simp at e, ⟨hII.1, fun x => ?_⟩, HBR.out.trans ((HBV.out.trans (HB6.out.mono HBV.out.size)).mono (by omega))⟩
            · rw [hle]; exact HK6.out
            · rw [hII.2, HIN.out.2, HTK.out]
          case measure => simp [intOf]; omega
    · obtain rfl : k = n := by omega
      have hnq : ¬ (k : Int) < (k : Int) := by omega
      go_wp2
      go_ret
      have h := HIN.out
      rw [List.take_of_length_le (by have := HL.out.1; omega)] at h
      exact ⟨_, rfl, zs, (keptS HKE.out).1, h, HBR.out⟩
end Go.Proofs.YtkljbfaemahchaaGreatDoor
