/-
  Plain: in a list of slots whose keys increase, the binary search finds the place of a key. No program in sight.
-/
import Derived.Test.YthjlgpmajeafpaaGreatDoorSlotFMrg
import Derived.Test.YthjlgpmajeafpaaGreatDoorFateAMrg
import Derived.Test.YthjlgpmajeafpaaGreatDoorSlEqMrg
import Derived.Test.YthjlgpmajeafpaaGreatDoorReflMrg
namespace Go.Proofs.YthjlgpmajeafpaaGreatDoor
open Go Go.RowKit
set_option linter.unusedVariables false
set_option linter.unusedSimpArgs false

/-- The keys increase strictly. -/
def Srt (l : List Slot) : Prop := ∀ j (h : j + 1 < l.length), cmpV (l[j]'(by omega)).k l[j + 1].k < 0
theorem Srt.lt {l : List Slot} (hs : Srt l) : ∀ (m i : Nat) (h : i + m + 1 < l.length), cmpV (l[i]'(by omega)).k l[i + m + 1].k < 0
  | 0, i, h => hs i h
  | m + 1, i, h => by
    have h1 := Srt.lt hs m i (by omega)
    have h2 := hs (i + m + 1) (by omega)
    obtain ⟨t1, t2, t3, t4, t5, t6⟩ := cmpV_tri (l[i]'(by omega)).k (l[i + m + 1]'(by omega)).k l[i + (m + 1) + 1].k
    have e : l[i + m + 1 + 1] = l[i + (m + 1) + 1] := rfl
    rw [e] at h2
    have sg := cmpV_sg (l[i]'(by omega)).k l[i + (m + 1) + 1].k
    rcases sg with h3 | h3 | h3
    · omega
    · have := t2 (by omega); have := t4 (by omega) (by omega); omega
    · have := t1 (by omega) (by omega); omega
theorem Srt.of {l : List Slot} (hs : Srt l) (i j : Nat) (hij : i < j) (hj : j < l.length) : cmpV (l[i]'(by omega)).k l[j].k < 0 := by
  have h := hs.lt (j - i - 1) i (by omega)
  have e : i + (j - i - 1) + 1 = j := by omega
  have : l[i + (j - i - 1) + 1]'(by omega) = l[j] := by congr 1
  rw [this] at h
  exact h
/-- The first place whose key is not less. -/
def placeI : List Slot → Val → Nat
  | [], _ => 0
  | x :: r, k => if 0 ≤ cmpV x.k k then 0 else placeI r k + 1
def placeB (l : List Slot) (k : Val) : Bool := match l[placeI l k]? with
  | some x => cmpV x.k k == 0
  | none => false
theorem placeI_le : ∀ (l : List Slot) (k : Val), placeI l k ≤ l.length
  | [], _ => Nat.le_refl _
  | x :: r, k => by
    rw [placeI]
    split
    · simp
    · have := placeI_le r k; simp; omega
theorem placeI_lt : ∀ (l : List Slot) (k : Val) (j : Nat) (h : j < l.length), j < placeI l k → cmpV l[j].k k < 0
  | [], _, _, h, _ => absurd h (by simp)
  | x :: r, k, 0, h, hj => by
    rw [placeI] at hj
    split at hj
    · omega
    · rename_i h1; simp; omega
  | x :: r, k, j + 1, h, hj => by
    rw [placeI] at hj
    split at hj
    · omega
    · simpa using placeI_lt r k j (by simpa using h) (by omega)
theorem placeI_at : ∀ (l : List Slot) (k : Val) (h : placeI l k < l.length), 0 ≤ cmpV l[placeI l k].k k
  | [], _, h => absurd h (by simp)
  | x :: r, k, h => by
    by_cases h1 : 0 ≤ cmpV x.k k
    · have e : placeI (x :: r) k = 0 := by rw [placeI, if_pos h1]
      have : (x :: r)[placeI (x :: r) k] = x := by simp [e]
      rw [this]; exact h1
    · have e : placeI (x :: r) k = placeI r k + 1 := by rw [placeI, if_neg h1]
      have h2 : placeI r k < r.length := by rw [e] at h; simpa using h
      have : (x :: r)[placeI (x :: r) k] = r[placeI r k] := by simp [e]
      rw [this]; exact placeI_at r k h2
/-- Whoever stands between those that are less and those that are not is the place. -/
theorem placeI_of {l : List Slot} {k : Val} {p : Nat} (hp : p ≤ l.length) (h1 : ∀ j (h : j < l.length), j < p → cmpV l[j].k k < 0) (h2 : ∀ (h : p < l.length), 0 ≤ cmpV l[p].k k) : placeI l k = p := by
  rcases Nat.lt_trichotomy (placeI l k) p with h | h | h
  · have h3 := h1 _ (by omega) h
    have h4 := placeI_at l k (by omega)
    omega
  · exact h
  · have h5 := placeI_le l k
    have h3 := placeI_lt l k p (by omega) h
    have h4 := h2 (by omega)
    omega
theorem bsearch_at (c : Nat → Int) (p n : Nat) (h1 : ∀ j, j < p → c j < 0) (h2 : ∀ j, p ≤ j → j < n → 0 ≤ c j) : ∀ (f i j : Nat), i ≤ p → p ≤ j → j ≤ n → j < i + f → bsearch c f i j = p
  | 0, i, j, _, _, _, h => by omega
  | f + 1, i, j, hi, hj, hn, hf => by
    rw [bsearch]
    by_cases hij : i < j
    · rw [if_pos hij]
      generalize hm : (i + j) / 2 = m
      have hm1 : i ≤ m := by omega
      have hm2 : m < j := by omega
      by_cases hc : c m < 0
      · rw [if_pos hc]
        have : m < p := by
          rcases Nat.lt_or_ge m p with h | h
          · exact h
          · have := h2 m h (by omega); omega
        exact bsearch_at c p n h1 h2 f (m + 1) j (by omega) hj hn (by omega)
      · rw [if_neg hc]
        have : p ≤ m := by
          rcases Nat.lt_or_ge m p with h | h
          · have := h1 m h; omega
          · exact h
        exact bsearch_at c p n h1 h2 f i m hi this (by omega) (by omega)
    · rw [if_neg hij]; omega
theorem findI_place {l : List Slot} (hs : Srt l) (k : Val) : findI l k = placeI l k := by
  refine bsearch_at _ _ l.length (fun j hj => ?_) (fun j hj hn => ?_) _ _ _ (Nat.zero_le _) (placeI_le l k) (Nat.le_refl _) (by omega)
  · have := placeI_le l k
    rw [keyC_get l k j (by omega)]
    exact placeI_lt l k j (by omega) hj
  · rw [keyC_get l k j hn]
    have h1 := placeI_at l k (by omega)
    rcases Nat.eq_or_lt_of_le hj with h | h
    · have : l[placeI l k]'(by omega) = l[j] := by congr 1
      rw [← this]; exact h1
    · have h3 := hs.of _ _ h hn
      obtain ⟨_, _, _, _, t5, _⟩ := cmpV_tri (l[placeI l k]'(by omega)).k l[j].k k
      exact t5 h1 (by omega)
theorem findB_place {l : List Slot} (hs : Srt l) (k : Val) : findB l k = placeB l k := by
  rw [findB, findI_place hs, placeB]
  by_cases h : placeI l k < l.length
  · rw [List.getElem?_eq_getElem h, keyC_get l k _ h]
    simp [h]
  · rw [List.getElem?_eq_none (by omega)]
    simp [h]
theorem placeB_lt {l : List Slot} {k : Val} (h : placeB l k = true) : placeI l k < l.length := by
  rcases Nat.lt_or_ge (placeI l k) l.length with h1 | h1
  · exact h1
  · rw [placeB, List.getElem?_eq_none h1] at h; cases h
theorem slEqB_refl (d : Slot) : slEqB d d = true := by
  simp only [slEqB, cmpV_refl, eqL_refl msgEqB_refl, eqL_refl (f := valEqB) (fun d => by simp [valEqB, cmpV_refl]), decide_true, Bool.and_true, beq_self_eq_true]
theorem staEqB_refl (d : Sta) : staEqB d d = true := by simp [staEqB, eqL_refl slEqB_refl]
end Go.Proofs.YthjlgpmajeafpaaGreatDoor

/-
  manifoldlaw30.sorted and manifoldlaw30.place. Condition: the state (and the key) can be read as data.
-/
namespace Go.Proofs.YthjlgpmajeafpaaGreatDoor
open Go Go.RowKit Go.Shelf
set_option linter.unusedVariables false
set_option linter.unusedSimpArgs false

def SrtPost (w : World) (l : List Slot) (e : Ending) (w' : World) : Prop := (∃ b : Bool, e = .returned (.bool b) ∧ (b = true → Srt l) ∧ (Srt l → b = true)) ∧ Below w.heap.size w w'
set_option maxRecDepth 100000 in
set_option maxHeartbeats 8000000 in
theorem sorted_call (c : StC) (d : Sta) (w : World) (hd : IsSta (· < w.heap.size) w c d) : Calls Tryz.prog 34 #[c.v] w (SrtPost w d.l) := by
  obtain ⟨sn, st, a, sl, sc⟩ := c
  have hbig := hd.l.big
  have HL := hid hd.l.len
  have HD := hid hd.l
  dsimp only at hbig HL HD
  have HB0 := hid (show Below w.heap.size w (w.alloc (.cells #[.int .i64 sn, .int .i64 st, .slice a sl sc] 55)) from (Below.refl _ w).alloc (Nat.le_refl _) _)
  have HG := hid (heap_alloc_new w (.cells #[.int .i64 sn, .int .i64 st, .slice a sl sc] 55))
  clear hd
  dsimp only [StC.v]
  go_enter Tryz.func34, Tryz.ntmps34
  go_wp2
  obtain ⟨wb, hwb⟩ : ∃ wb, wb = w.alloc (.cells #[.int .i64 sn, .int .i64 st, .slice a sl sc] 55) := ⟨_, rfl⟩
  rw [← hwb] at HB0 HG ⊢
  clear hwb
  go_loopw [3] (fun i wr => ∃ q : Nat, 1 ≤ q ∧ (q = 1 ∨ q ≤ sl) ∧ i = .int .i64 q ∧ (∀ j (h : j + 1 < d.l.length), j + 1 < q → cmpV (d.l[j]'(by omega)).k d.l[j + 1].k < 0) ∧ Below wb.heap.size wb wr) (fun i _ => sl + 1 - (intOf i).toNat)
  case atStart => exact ⟨1, Nat.le_refl _, .inl rfl, rfl, fun j _ h => absurd h (by omega), Below.refl _ _⟩
  case round =>
    obtain ⟨q, hk1N, hk, rfl, hall, hbr⟩ := hrel
    obtain ⟨wp, rfl⟩ : ∃ w1 : World, w1 = wr := ⟨_, rfl⟩
    have HA := hid hall
    have HBR := hid hbr
    have HK := hid hk
    have hg := heapExt hbr HG.out
    have c2 := cellOf hg 2
    (try dsimp only at c2)
    clear hall hk
    by_cases hlt : q < sl
    · obtain ⟨k1, hk1⟩ : ∃ k1, q = k1 + 1 := ⟨q - 1, by omega⟩
      have hkl : k1 + 1 < d.l.length := by have := HL.out; omega
      obtain ⟨b, o, rfl, hb, hx⟩ := HD.out.slot (show 0 < sl by omega)
      obtain ⟨x, hxa, hxi⟩ := hx k1 (by omega)
      obtain ⟨y, hya, hyi⟩ := hx (k1 + 1) hkl
      have hwr : IntKind.i64.wrap ((q : Int) - 1) = (q : Int) - 1 := IntWalk.i64_in _ (by omega)
      have hk1' : (0 : Int) ≤ (q : Int) - 1 := by omega
      have hk1'' : (1 : Int) ≤ (q : Int) := by omega
      have hk2' : (q : Int) - 1 < (sl : Int) := by omega
      have hlt' : (q : Int) < (sl : Int) := by omega
      have hq0 : (0 : Int) ≤ (q : Int) := by omega
      have hw := HB0.out.trans (hbr.mono HB0.out.size)
      obtain ⟨cc, hcc⟩ : ∃ cc, cc = cmpV (d.l[k1]'(by omega)).k d.l[k1 + 1].k := ⟨_, rfl⟩
      have HC6 : Hid (∀ w', Below wp.heap.size wp w' → (w'.cell? ⟨w.heap.size, 2, none⟩ = some (.slice (some ⟨b, o, none⟩) sl sc)) ∧ (w'.cell? ⟨b, o + (q - 1) * 10, none⟩ = some (.int .i64 x.k.k) ∧ w'.cell? ⟨b, o + (q - 1) * 10 + 1, none⟩ = some (.int .i64 x.k.i) ∧ w'.cell? ⟨b, o + (q - 1) * 10 + 2, none⟩ = some (.int .i64 x.k.s) ∧ w'.cell? ⟨b, o + (q - 1) * 10 + 3, none⟩ = some (.string x.k.t) ∧ w'.cell? ⟨b, o + (q - 1) * 10 + 4, none⟩ = some (.slice x.k.la x.k.ll x.k.lc) ∧ w'.cell? ⟨b, o + (q - 1) * 10 + 5, none⟩ = some (.slice x.k.fa x.k.fl x.k.fc)) ∧ (w'.cell? ⟨b, o + q * 10, none⟩ = some (.int .i64 y.k.k) ∧ w'.cell? ⟨b, o + q * 10 + 1, none⟩ = some (.int .i64 y.k.i) ∧ w'.cell? ⟨b, o + q * 10 + 2, none⟩ = some (.int .i64 y.k.s) ∧ w'.cell? ⟨b, o + q * 10 + 3, none⟩ = some (.string y.k.t) ∧ w'.cell? ⟨b, o + q * 10 + 4, none⟩ = some (.slice y.k.la y.k.ll y.k.lc) ∧ w'.cell? ⟨b, o + q * 10 + 5, none⟩ = some (.slice y.k.fa y.k.fl y.k.fc))) := hid fun w' h => by
        have hb' := hw.trans (h.mono hw.size)
        have h2 := cellOf (heapExt h hg) 2
        rw [show q - 1 = k1 by omega]
        rw [← hk1] at hya
        obtain ⟨x0, x1, x2, x3, x4, x5, _⟩ := (hxa.same (hb'.block b hb)).slot
        obtain ⟨y0, y1, y2, y3, y4, y5, _⟩ := (hya.same (hb'.block b hb)).slot
        exact ⟨h2, ⟨x0, x1, x2, x3, x4, x5⟩, ⟨y0, y1, y2, y3, y4, y5⟩⟩
      have HSS : Hid (∀ w', Below wp.heap.size wp w' → Calls Tryz.prog 77 #[.agg #[.int .i64 x.k.k, .int .i64 x.k.i, .int .i64 x.k.s, .string x.k.t, .slice x.k.la x.k.ll x.k.lc, .slice x.k.fa x.k.fl x.k.fc], .agg #[.int .i64 y.k.k, .int .i64 y.k.i, .int .i64 y.k.s, .string y.k.t, .slice y.k.la y.k.ll y.k.lc, .slice y.k.fa y.k.fl y.k.fc]] w' fun e w2 => e = .returned (.int .i64 cc) ∧ Below w'.heap.size w' w2) := hid fun w' h => by
        rw [hcc]
        have hb' := hw.trans (h.mono hw.size)
        have hs := hb'.size
        exact compare_call x.k y.k _ _ w' (hxi.k.same fun b q => ⟨by omega, hb'.block b q⟩) (hyi.k.same fun b q => ⟨by omega, hb'.block b q⟩)
      have HCC : Hid (∀ (h : k1 + 1 < d.l.length), cmpV (d.l[k1]'(Nat.lt_of_succ_lt h)).k (d.l[k1 + 1]'h).k = cc) := hid fun h => hcc.symm
      have HK1 := hid hk1
      clear hx hcc hxa hya hxi hyi hbr hb hg hw hk1 hkl
      by_cases hn : cc < 0
      · have hn' : ¬ 0 ≤ cc := by omega
        go_upto_region 4 with (fail)
        clear c2
        refine wp_region_split 15 (fun w' => Below wp.heap.size wp w') (by kernel_rfl) (by kernel_rfl) (by kernel_rfl) (by decide) ((Below.refl _ _).drew) (fun hS => ?_)
        simp only [List.take_succ_cons, List.take_zero, List.drop_succ_cons, List.drop_zero]
        refine wpAnyH_take (i := 0) (oi := _) (v := ?_) rfl (by kernel_rfl) (by kernel_rfl) (by kernel_rfl) (fun _ _ _ h => h) (Or.inl ⟨by rfl, ?_⟩) hS ?_
        rotate_left
        · intro w' hw'
          have hcells := HC6.out w' hw'
          go_simp
          (try with_reducible rfl)
        simp only [Act.put, List.getElem_toArray, List.getElem_cons_succ, List.getElem_cons_zero, List.setIfInBounds_toArray, List.set_cons_zero, List.set_cons_succ]
        refine wpAnyH_take (i := 1) (oi := _) (v := ?_) rfl (by kernel_rfl) (by kernel_rfl) (by kernel_rfl) (fun _ _ _ h => h) (Or.inl ⟨by rfl, ?_⟩) hS ?_
        rotate_left
        · intro w' hw'
          have hcells := HC6.out w' hw'
          go_simp
          (try with_reducible rfl)
        simp only [Act.put, List.getElem_toArray, List.getElem_cons_succ, List.getElem_cons_zero, List.setIfInBounds_toArray, List.set_cons_zero, List.set_cons_succ]
        refine wpAnyH_take (i := 2) (oi := _) (v := ?_) rfl (by kernel_rfl) (by kernel_rfl) (by kernel_rfl) (fun _ _ _ h => h) (Or.inl ⟨by rfl, ?_⟩) hS ?_
        rotate_left
        · intro w' hw'
          have hcells := HC6.out w' hw'
          go_simp
          (try with_reducible rfl)
        simp only [Act.put, List.getElem_toArray, List.getElem_cons_succ, List.getElem_cons_zero, List.setIfInBounds_toArray, List.set_cons_zero, List.set_cons_succ]
        refine wpAnyH_take (i := 3) (oi := _) (v := ?_) rfl (by kernel_rfl) (by kernel_rfl) (by kernel_rfl) (fun _ _ _ h => h) (Or.inl ⟨by rfl, ?_⟩) hS ?_
        rotate_left
        · intro w' hw'
          have hcells := HC6.out w' hw'
          go_simp
          (try with_reducible rfl)
        simp only [Act.put, List.getElem_toArray, List.getElem_cons_succ, List.getElem_cons_zero, List.setIfInBounds_toArray, List.set_cons_zero, List.set_cons_succ]
        refine wpAnyH_take (i := 4) (oi := _) (v := ?_) rfl (by kernel_rfl) (by kernel_rfl) (by kernel_rfl) (fun _ _ _ h => h) (Or.inl ⟨by rfl, ?_⟩) hS ?_
        rotate_left
        · intro w' hw'
          have hcells := HC6.out w' hw'
          go_simp
          (try with_reducible rfl)
        simp only [Act.put, List.getElem_toArray, List.getElem_cons_succ, List.getElem_cons_zero, List.setIfInBounds_toArray, List.set_cons_zero, List.set_cons_succ]
        refine wpAnyH_take (i := 5) (oi := _) (v := ?_) rfl (by kernel_rfl) (by kernel_rfl) (by kernel_rfl) (fun _ _ _ h => h) (Or.inl ⟨by rfl, ?_⟩) hS ?_
        rotate_left
        · intro w' hw'
          have hcells := HC6.out w' hw'
          go_simp
          (try with_reducible rfl)
        simp only [Act.put, List.getElem_toArray, List.getElem_cons_succ, List.getElem_cons_zero, List.setIfInBounds_toArray, List.set_cons_zero, List.set_cons_succ]
        refine wpAnyH_take (i := 6) (oi := _) (v := ?_) rfl (by kernel_rfl) (by kernel_rfl) (by kernel_rfl) (fun _ _ _ h => h) (Or.inl ⟨by rfl, ?_⟩) hS ?_
        rotate_left
        · intro w' hw'
          have hcells := HC6.out w' hw'
          go_simp
          (try with_reducible rfl)
        simp only [Act.put, List.getElem_toArray, List.getElem_cons_succ, List.getElem_cons_zero, List.setIfInBounds_toArray, List.set_cons_zero, List.set_cons_succ]
        refine wpAnyH_take (i := 7) (oi := _) (v := ?_) rfl (by kernel_rfl) (by kernel_rfl) (by kernel_rfl) (fun _ _ _ h => h) (Or.inl ⟨by rfl, ?_⟩) hS ?_
        rotate_left
        · intro w' hw'
          have hcells := HC6.out w' hw'
          go_simp
          (try with_reducible rfl)
        simp only [Act.put, List.getElem_toArray, List.getElem_cons_succ, List.getElem_cons_zero, List.setIfInBounds_toArray, List.set_cons_zero, List.set_cons_succ]
        refine wpAnyH_take (i := 8) (oi := _) (v := ?_) rfl (by kernel_rfl) (by kernel_rfl) (by kernel_rfl) (fun _ _ _ h => h) (Or.inl ⟨by rfl, ?_⟩) hS ?_
        rotate_left
        · intro w' hw'
          have hcells := HC6.out w' hw'
          go_simp
          (try with_reducible rfl)
        simp only [Act.put, List.getElem_toArray, List.getElem_cons_succ, List.getElem_cons_zero, List.setIfInBounds_toArray, List.set_cons_zero, List.set_cons_succ]
        refine wpAnyH_take (i := 9) (oi := _) (v := ?_) rfl (by kernel_rfl) (by kernel_rfl) (by kernel_rfl) (fun _ _ _ h => h) (Or.inl ⟨by rfl, ?_⟩) hS ?_
        rotate_left
        · intro w' hw'
          have hcells := HC6.out w' hw'
          go_simp
          (try with_reducible rfl)
        simp only [Act.put, List.getElem_toArray, List.getElem_cons_succ, List.getElem_cons_zero, List.setIfInBounds_toArray, List.set_cons_zero, List.set_cons_succ]
        refine wpAnyH_take (i := 10) (oi := _) (v := ?_) rfl (by kernel_rfl) (by kernel_rfl) (by kernel_rfl) (fun _ _ _ h => h) (Or.inl ⟨by rfl, ?_⟩) hS ?_
        rotate_left
        · intro w' hw'
          have hcells := HC6.out w' hw'
          go_simp
          (try with_reducible rfl)
        simp only [Act.put, List.getElem_toArray, List.getElem_cons_succ, List.getElem_cons_zero, List.setIfInBounds_toArray, List.set_cons_zero, List.set_cons_succ]
        refine wpAnyH_take (i := 11) (oi := _) (v := ?_) rfl (by kernel_rfl) (by kernel_rfl) (by kernel_rfl) (fun _ _ _ h => h) (Or.inl ⟨by rfl, ?_⟩) hS ?_
        rotate_left
        · intro w' hw'
          have hcells := HC6.out w' hw'
          go_simp
          (try with_reducible rfl)
        simp only [Act.put, List.getElem_toArray, List.getElem_cons_succ, List.getElem_cons_zero, List.setIfInBounds_toArray, List.set_cons_zero, List.set_cons_succ]
        refine wpAnyH_take (i := 12) (oi := _) (v := ?_) rfl (by kernel_rfl) (by kernel_rfl) (by kernel_rfl) (fun _ _ _ h => h) (Or.inl ⟨by rfl, ?_⟩) hS ?_
        rotate_left
        · intro w' hw'
          have hcells := HC6.out w' hw'
          go_simp
          (try with_reducible rfl)
        simp only [Act.put, List.getElem_toArray, List.getElem_cons_succ, List.getElem_cons_zero, List.setIfInBounds_toArray, List.set_cons_zero, List.set_cons_succ]
        refine wpAnyH_ready (rs := [13]) (by kernel_rfl) (by simp) ?_
        refine AllReadyH.cons (o := _) rfl (fun K hK => ?_) AllReadyH.nil
        go_simp; go_at_call 77; refine (HSS.out _ hS).mono ?_
        rintro e w4 ⟨rfl, hb4⟩
        refine hK.out _ _ (hS.trans (hb4.mono hS.size)) (fun hS => ?_)
        clear hK K
        (try simp only [Act.put, List.getElem_toArray, List.getElem_cons_succ, List.getElem_cons_zero, List.setIfInBounds_toArray, List.set_cons_zero, List.set_cons_succ])
        refine wpAnyH_take (i := 14) (oi := _) (v := ?_) rfl (by kernel_rfl) (by kernel_rfl) (by kernel_rfl) (fun _ _ _ h => h) (Or.inl ⟨by rfl, ?_⟩) hS ?_
        rotate_left
        · intro w' hw'
          have hcells := HC6.out w' hw'
          go_simp
          (try with_reducible rfl)
        simp only [Act.put, List.getElem_toArray, List.getElem_cons_succ, List.getElem_cons_zero, List.setIfInBounds_toArray, List.set_cons_zero, List.set_cons_succ]
        refine wpAnyH_done (by kernel_rfl) ?_ _
        (try dsimp only)
        have HBZ := hid hS
        clear hS
        go_wp2
        go_roundw
        case rel => exact ⟨q + 1, by omega, .inr (by omega), by go_num, fun j h hj => by
          by_cases hjk : j + 1 < q
          · exact HA.out j h hjk
          · obtain rfl : j = k1 := by have := HK1.out; omega
            rw [HCC.out h]; omega, HBR.out.trans (HBZ.out.mono HBR.out.size)⟩
        case measure => simp [intOf]; omega
      · have hn' : 0 ≤ cc := by omega
        go_upto_region 4 with (fail)
        clear c2
        refine wp_region_split 15 (fun w' => Below wp.heap.size wp w') (by kernel_rfl) (by kernel_rfl) (by kernel_rfl) (by decide) ((Below.refl _ _).drew) (fun hS => ?_)
        simp only [List.take_succ_cons, List.take_zero, List.drop_succ_cons, List.drop_zero]
        refine wpAnyH_take (i := 0) (oi := _) (v := ?_) rfl (by kernel_rfl) (by kernel_rfl) (by kernel_rfl) (fun _ _ _ h => h) (Or.inl ⟨by rfl, ?_⟩) hS ?_
        rotate_left
        · intro w' hw'
          have hcells := HC6.out w' hw'
          go_simp
          (try with_reducible rfl)
        simp only [Act.put, List.getElem_toArray, List.getElem_cons_succ, List.getElem_cons_zero, List.setIfInBounds_toArray, List.set_cons_zero, List.set_cons_succ]
        refine wpAnyH_take (i := 1) (oi := _) (v := ?_) rfl (by kernel_rfl) (by kernel_rfl) (by kernel_rfl) (fun _ _ _ h => h) (Or.inl ⟨by rfl, ?_⟩) hS ?_
        rotate_left
        · intro w' hw'
          have hcells := HC6.out w' hw'
          go_simp
          (try with_reducible rfl)
        simp only [Act.put, List.getElem_toArray, List.getElem_cons_succ, List.getElem_cons_zero, List.setIfInBounds_toArray, List.set_cons_zero, List.set_cons_succ]
        refine wpAnyH_take (i := 2) (oi := _) (v := ?_) rfl (by kernel_rfl) (by kernel_rfl) (by kernel_rfl) (fun _ _ _ h => h) (Or.inl ⟨by rfl, ?_⟩) hS ?_
        rotate_left
        · intro w' hw'
          have hcells := HC6.out w' hw'
          go_simp
          (try with_reducible rfl)
        simp only [Act.put, List.getElem_toArray, List.getElem_cons_succ, List.getElem_cons_zero, List.setIfInBounds_toArray, List.set_cons_zero, List.set_cons_succ]
        refine wpAnyH_take (i := 3) (oi := _) (v := ?_) rfl (by kernel_rfl) (by kernel_rfl) (by kernel_rfl) (fun _ _ _ h => h) (Or.inl ⟨by rfl, ?_⟩) hS ?_
        rotate_left
        · intro w' hw'
          have hcells := HC6.out w' hw'
          go_simp
          (try with_reducible rfl)
        simp only [Act.put, List.getElem_toArray, List.getElem_cons_succ, List.getElem_cons_zero, List.setIfInBounds_toArray, List.set_cons_zero, List.set_cons_succ]
        refine wpAnyH_take (i := 4) (oi := _) (v := ?_) rfl (by kernel_rfl) (by kernel_rfl) (by kernel_rfl) (fun _ _ _ h => h) (Or.inl ⟨by rfl, ?_⟩) hS ?_
        rotate_left
        · intro w' hw'
          have hcells := HC6.out w' hw'
          go_simp
          (try with_reducible rfl)
        simp only [Act.put, List.getElem_toArray, List.getElem_cons_succ, List.getElem_cons_zero, List.setIfInBounds_toArray, List.set_cons_zero, List.set_cons_succ]
        refine wpAnyH_take (i := 5) (oi := _) (v := ?_) rfl (by kernel_rfl) (by kernel_rfl) (by kernel_rfl) (fun _ _ _ h => h) (Or.inl ⟨by rfl, ?_⟩) hS ?_
        rotate_left
        · intro w' hw'
          have hcells := HC6.out w' hw'
          go_simp
          (try with_reducible rfl)
        simp only [Act.put, List.getElem_toArray, List.getElem_cons_succ, List.getElem_cons_zero, List.setIfInBounds_toArray, List.set_cons_zero, List.set_cons_succ]
        refine wpAnyH_take (i := 6) (oi := _) (v := ?_) rfl (by kernel_rfl) (by kernel_rfl) (by kernel_rfl) (fun _ _ _ h => h) (Or.inl ⟨by rfl, ?_⟩) hS ?_
        rotate_left
        · intro w' hw'
          have hcells := HC6.out w' hw'
          go_simp
          (try with_reducible rfl)
        simp only [Act.put, List.getElem_toArray, List.getElem_cons_succ, List.getElem_cons_zero, List.setIfInBounds_toArray, List.set_cons_zero, List.set_cons_succ]
        refine wpAnyH_take (i := 7) (oi := _) (v := ?_) rfl (by kernel_rfl) (by kernel_rfl) (by kernel_rfl) (fun _ _ _ h => h) (Or.inl ⟨by rfl, ?_⟩) hS ?_
        rotate_left
        · intro w' hw'
          have hcells := HC6.out w' hw'
          go_simp
          (try with_reducible rfl)
        simp only [Act.put, List.getElem_toArray, List.getElem_cons_succ, List.getElem_cons_zero, List.setIfInBounds_toArray, List.set_cons_zero, List.set_cons_succ]
        refine wpAnyH_take (i := 8) (oi := _) (v := ?_) rfl (by kernel_rfl) (by kernel_rfl) (by kernel_rfl) (fun _ _ _ h => h) (Or.inl ⟨by rfl, ?_⟩) hS ?_
        rotate_left
        · intro w' hw'
          have hcells := HC6.out w' hw'
          go_simp
          (try with_reducible rfl)
        simp only [Act.put, List.getElem_toArray, List.getElem_cons_succ, List.getElem_cons_zero, List.setIfInBounds_toArray, List.set_cons_zero, List.set_cons_succ]
        refine wpAnyH_take (i := 9) (oi := _) (v := ?_) rfl (by kernel_rfl) (by kernel_rfl) (by kernel_rfl) (fun _ _ _ h => h) (Or.inl ⟨by rfl, ?_⟩) hS ?_
        rotate_left
        · intro w' hw'
          have hcells := HC6.out w' hw'
          go_simp
          (try with_reducible rfl)
        simp only [Act.put, List.getElem_toArray, List.getElem_cons_succ, List.getElem_cons_zero, List.setIfInBounds_toArray, List.set_cons_zero, List.set_cons_succ]
        refine wpAnyH_take (i := 10) (oi := _) (v := ?_) rfl (by kernel_rfl) (by kernel_rfl) (by kernel_rfl) (fun _ _ _ h => h) (Or.inl ⟨by rfl, ?_⟩) hS ?_
        rotate_left
        · intro w' hw'
          have hcells := HC6.out w' hw'
          go_simp
          (try with_reducible rfl)
        simp only [Act.put, List.getElem_toArray, List.getElem_cons_succ, List.getElem_cons_zero, List.setIfInBounds_toArray, List.set_cons_zero, List.set_cons_succ]
        refine wpAnyH_take (i := 11) (oi := _) (v := ?_) rfl (by kernel_rfl) (by kernel_rfl) (by kernel_rfl) (fun _ _ _ h => h) (Or.inl ⟨by rfl, ?_⟩) hS ?_
        rotate_left
        · intro w' hw'
          have hcells := HC6.out w' hw'
          go_simp
          (try with_reducible rfl)
        simp only [Act.put, List.getElem_toArray, List.getElem_cons_succ, List.getElem_cons_zero, List.setIfInBounds_toArray, List.set_cons_zero, List.set_cons_succ]
        refine wpAnyH_take (i := 12) (oi := _) (v := ?_) rfl (by kernel_rfl) (by kernel_rfl) (by kernel_rfl) (fun _ _ _ h => h) (Or.inl ⟨by rfl, ?_⟩) hS ?_
        rotate_left
        · intro w' hw'
          have hcells := HC6.out w' hw'
          go_simp
          (try with_reducible rfl)
        simp only [Act.put, List.getElem_toArray, List.getElem_cons_succ, List.getElem_cons_zero, List.setIfInBounds_toArray, List.set_cons_zero, List.set_cons_succ]
        refine wpAnyH_ready (rs := [13]) (by kernel_rfl) (by simp) ?_
        refine AllReadyH.cons (o := _) rfl (fun K hK => ?_) AllReadyH.nil
        go_simp; go_at_call 77; refine (HSS.out _ hS).mono ?_
        rintro e w4 ⟨rfl, hb4⟩
        refine hK.out _ _ (hS.trans (hb4.mono hS.size)) (fun hS => ?_)
        clear hK K
        (try simp only [Act.put, List.getElem_toArray, List.getElem_cons_succ, List.getElem_cons_zero, List.setIfInBounds_toArray, List.set_cons_zero, List.set_cons_succ])
        refine wpAnyH_take (i := 14) (oi := _) (v := ?_) rfl (by kernel_rfl) (by kernel_rfl) (by kernel_rfl) (fun _ _ _ h => h) (Or.inl ⟨by rfl, ?_⟩) hS ?_
        rotate_left
        · intro w' hw'
          have hcells := HC6.out w' hw'
          go_simp
          (try with_reducible rfl)
        simp only [Act.put, List.getElem_toArray, List.getElem_cons_succ, List.getElem_cons_zero, List.setIfInBounds_toArray, List.set_cons_zero, List.set_cons_succ]
        refine wpAnyH_done (by kernel_rfl) ?_ _
        (try dsimp only)
        have hbz := hS
        clear hS
        go_wp2
        go_ret
        exact ⟨⟨false, rfl, fun h => (by cases h), fun h => absurd (h k1 (by have := HK1.out; have := HL.out; omega)) (by rw [HCC.out (by have := HK1.out; have := HL.out; omega)]; omega)⟩, HB0.out.trans ((HBR.out.trans (hbz.mono HBR.out.size)).mono HB0.out.size)⟩
    · have hlt' : ¬ (q : Int) < (sl : Int) := by omega
      have r := hid (show Srt d.l from fun j h => HA.out j h (by have := HL.out; have := HK.out; omega))
      have hw := hid (HB0.out.trans (hbr.mono HB0.out.size))
      clear hg hbr
      go_wp2
      go_ret
      exact ⟨⟨true, rfl, fun _ => r.out, fun _ => rfl⟩, hw.out⟩

def PlacePost (w : World) (l : List Slot) (k : Val) (e : Ending) (w' : World) : Prop := e = .returned (.tuple #[.int .i64 (placeI l k : Nat), .bool (placeB l k)]) ∧ Below w.heap.size w w'
set_option maxRecDepth 100000 in
set_option maxHeartbeats 8000000 in
theorem place_call (c : StC) (d : Sta) (k : VC) (kd : Val) (w : World) (hd : IsSta (· < w.heap.size) w c d) (hk : IsVal (· < w.heap.size) w k kd) : Calls Tryz.prog 37 #[c.v, k.v] w (PlacePost w d.l kd) := by
  obtain ⟨sn, st, a, sl, sc⟩ := c
  have hbig := hd.l.big
  have HL := hid hd.l.len
  have HD := hid hd.l
  have HKI := hid hk
  dsimp only at hbig HL HD
  have HB0 := hid (show Below w.heap.size w ((w.alloc (.cells #[.int .i64 sn, .int .i64 st, .slice a sl sc] 55)).alloc (.cells #[.int .i64 k.k, .int .i64 k.i, .int .i64 k.s, .string k.t, .slice k.la k.ll k.lc, .slice k.fa k.fl k.fc] 28)) from ((Below.refl _ w).alloc (Nat.le_refl _) _).alloc (by simp) _)
  have HG := hid (show ((w.alloc (.cells #[.int .i64 sn, .int .i64 st, .slice a sl sc] 55)).alloc (.cells #[.int .i64 k.k, .int .i64 k.i, .int .i64 k.s, .string k.t, .slice k.la k.ll k.lc, .slice k.fa k.fl k.fc] 28)).heap[w.heap.size]? = some (.cells #[.int .i64 sn, .int .i64 st, .slice a sl sc] 55) from heapAlloc _ (heap_alloc_new w _))
  have HG2 := hid (show ((w.alloc (.cells #[.int .i64 sn, .int .i64 st, .slice a sl sc] 55)).alloc (.cells #[.int .i64 k.k, .int .i64 k.i, .int .i64 k.s, .string k.t, .slice k.la k.ll k.lc, .slice k.fa k.fl k.fc] 28)).heap[w.heap.size + 1]? = some (.cells #[.int .i64 k.k, .int .i64 k.i, .int .i64 k.s, .string k.t, .slice k.la k.ll k.lc, .slice k.fa k.fl k.fc] 28) from heapNewAt _ _ _ (by simp))
  clear hd hk
  dsimp only [StC.v, VC.v]
  go_enter Tryz.func37, Tryz.ntmps37
  go_wp2
  obtain ⟨wb, hwb⟩ : ∃ wb, wb = (w.alloc (.cells #[.int .i64 sn, .int .i64 st, .slice a sl sc] 55)).alloc (.cells #[.int .i64 k.k, .int .i64 k.i, .int .i64 k.s, .string k.t, .slice k.la k.ll k.lc, .slice k.fa k.fl k.fc] 28) := ⟨_, rfl⟩
  rw [← hwb] at HB0 HG HG2 ⊢
  clear hwb
  go_loopw [6] (fun i wr => ∃ q : Nat, q ≤ sl ∧ i = .int .i64 q ∧ (∀ j (h : j < d.l.length), j < q → cmpV d.l[j].k kd < 0) ∧ Below wb.heap.size wb wr) (fun i _ => sl - (intOf i).toNat)
  case atStart => exact ⟨0, Nat.zero_le _, rfl, fun j _ h => absurd h (Nat.not_lt_zero j), Below.refl _ _⟩
  case round =>
    obtain ⟨q, hq, rfl, hall, hbr⟩ := hrel
    obtain ⟨wp, rfl⟩ : ∃ w1 : World, w1 = wr := ⟨_, rfl⟩
    have HA := hid hall
    have HBR := hid hbr
    have hg := heapExt hbr HG.out
    have hg2 := heapExt hbr HG2.out
    have c2 := cellOf hg 2
    (try dsimp only at c2)
    clear hall
    by_cases hlt : q < sl
    · have hkl : q < d.l.length := by have := HL.out; omega
      obtain ⟨b, o, rfl, hb, hx⟩ := HD.out.slot (show 0 < sl by omega)
      obtain ⟨x, hxa, hxi⟩ := hx q hkl
      have hlt' : (q : Int) < (sl : Int) := by omega
      have hq0 : (0 : Int) ≤ (q : Int) := by omega
      have hw := HB0.out.trans (hbr.mono HB0.out.size)
      obtain ⟨cc, hcc⟩ : ∃ cc, cc = cmpV d.l[q].k kd := ⟨_, rfl⟩
      have HC6 : Hid (∀ w', Below wp.heap.size wp w' → (w'.cell? ⟨w.heap.size, 2, none⟩ = some (.slice (some ⟨b, o, none⟩) sl sc)) ∧ (w'.cell? ⟨b, o + q * 10, none⟩ = some (.int .i64 x.k.k) ∧ w'.cell? ⟨b, o + q * 10 + 1, none⟩ = some (.int .i64 x.k.i) ∧ w'.cell? ⟨b, o + q * 10 + 2, none⟩ = some (.int .i64 x.k.s) ∧ w'.cell? ⟨b, o + q * 10 + 3, none⟩ = some (.string x.k.t) ∧ w'.cell? ⟨b, o + q * 10 + 4, none⟩ = some (.slice x.k.la x.k.ll x.k.lc) ∧ w'.cell? ⟨b, o + q * 10 + 5, none⟩ = some (.slice x.k.fa x.k.fl x.k.fc)) ∧ (w'.cell? ⟨w.heap.size + 1, 0, none⟩ = some (.int .i64 k.k) ∧ w'.cell? ⟨w.heap.size + 1, 1, none⟩ = some (.int .i64 k.i) ∧ w'.cell? ⟨w.heap.size + 1, 2, none⟩ = some (.int .i64 k.s) ∧ w'.cell? ⟨w.heap.size + 1, 3, none⟩ = some (.string k.t) ∧ w'.cell? ⟨w.heap.size + 1, 4, none⟩ = some (.slice k.la k.ll k.lc) ∧ w'.cell? ⟨w.heap.size + 1, 5, none⟩ = some (.slice k.fa k.fl k.fc))) := hid fun w' h => by
        have hb' := hw.trans (h.mono hw.size)
        have h2 := cellOf (heapExt h hg) 2
        have h3 := heapExt h hg2
        obtain ⟨x0, x1, x2, x3, x4, x5, _⟩ := (hxa.same (hb'.block b hb)).slot
        exact ⟨h2, ⟨x0, x1, x2, x3, x4, x5⟩, cellOf h3 0, cellOf h3 1, cellOf h3 2, cellOf h3 3, cellOf h3 4, cellOf h3 5⟩
      have HSS : Hid (∀ w', Below wp.heap.size wp w' → Calls Tryz.prog 77 #[.agg #[.int .i64 x.k.k, .int .i64 x.k.i, .int .i64 x.k.s, .string x.k.t, .slice x.k.la x.k.ll x.k.lc, .slice x.k.fa x.k.fl x.k.fc], .agg #[.int .i64 k.k, .int .i64 k.i, .int .i64 k.s, .string k.t, .slice k.la k.ll k.lc, .slice k.fa k.fl k.fc]] w' fun e w2 => e = .returned (.int .i64 cc) ∧ Below w'.heap.size w' w2) := hid fun w' h => by
        rw [hcc]
        have hb' := hw.trans (h.mono hw.size)
        have hs := hb'.size
        exact compare_call x.k k _ _ w' (hxi.k.same fun b q => ⟨by omega, hb'.block b q⟩) (HKI.out.same fun b q => ⟨by omega, hb'.block b q⟩)
      have HCC := hid hcc.symm
      clear hx hcc hxa hxi hbr hb hg hg2 hw
      by_cases hn : cc < 0
      · have hn' : ¬ 0 ≤ cc := by omega
        go_upto_region 4 with (fail)
        clear c2
        refine wp_region_split 8 (fun w' => Below wp.heap.size wp w') (by kernel_rfl) (by kernel_rfl) (by kernel_rfl) (by decide) ((Below.refl _ _).drew) (fun hS => ?_)
        simp only [List.take_succ_cons, List.take_zero, List.drop_succ_cons, List.drop_zero]
        refine wpAnyH_take (i := 0) (oi := _) (v := ?_) rfl (by kernel_rfl) (by kernel_rfl) (by kernel_rfl) (fun _ _ _ h => h) (Or.inl ⟨by rfl, ?_⟩) hS ?_
        rotate_left
        · intro w' hw'
          have hcells := HC6.out w' hw'
          go_simp
          (try with_reducible rfl)
        simp only [Act.put, List.getElem_toArray, List.getElem_cons_succ, List.getElem_cons_zero, List.setIfInBounds_toArray, List.set_cons_zero, List.set_cons_succ]
        refine wpAnyH_take (i := 1) (oi := _) (v := ?_) rfl (by kernel_rfl) (by kernel_rfl) (by kernel_rfl) (fun _ _ _ h => h) (Or.inl ⟨by rfl, ?_⟩) hS ?_
        rotate_left
        · intro w' hw'
          have hcells := HC6.out w' hw'
          go_simp
          (try with_reducible rfl)
        simp only [Act.put, List.getElem_toArray, List.getElem_cons_succ, List.getElem_cons_zero, List.setIfInBounds_toArray, List.set_cons_zero, List.set_cons_succ]
        refine wpAnyH_take (i := 2) (oi := _) (v := ?_) rfl (by kernel_rfl) (by kernel_rfl) (by kernel_rfl) (fun _ _ _ h => h) (Or.inl ⟨by rfl, ?_⟩) hS ?_
        rotate_left
        · intro w' hw'
          have hcells := HC6.out w' hw'
          go_simp
          (try with_reducible rfl)
        simp only [Act.put, List.getElem_toArray, List.getElem_cons_succ, List.getElem_cons_zero, List.setIfInBounds_toArray, List.set_cons_zero, List.set_cons_succ]
        refine wpAnyH_take (i := 3) (oi := _) (v := ?_) rfl (by kernel_rfl) (by kernel_rfl) (by kernel_rfl) (fun _ _ _ h => h) (Or.inl ⟨by rfl, ?_⟩) hS ?_
        rotate_left
        · intro w' hw'
          have hcells := HC6.out w' hw'
          go_simp
          (try with_reducible rfl)
        simp only [Act.put, List.getElem_toArray, List.getElem_cons_succ, List.getElem_cons_zero, List.setIfInBounds_toArray, List.set_cons_zero, List.set_cons_succ]
        refine wpAnyH_take (i := 4) (oi := _) (v := ?_) rfl (by kernel_rfl) (by kernel_rfl) (by kernel_rfl) (fun _ _ _ h => h) (Or.inl ⟨by rfl, ?_⟩) hS ?_
        rotate_left
        · intro w' hw'
          have hcells := HC6.out w' hw'
          go_simp
          (try with_reducible rfl)
        simp only [Act.put, List.getElem_toArray, List.getElem_cons_succ, List.getElem_cons_zero, List.setIfInBounds_toArray, List.set_cons_zero, List.set_cons_succ]
        refine wpAnyH_take (i := 5) (oi := _) (v := ?_) rfl (by kernel_rfl) (by kernel_rfl) (by kernel_rfl) (fun _ _ _ h => h) (Or.inl ⟨by rfl, ?_⟩) hS ?_
        rotate_left
        · intro w' hw'
          have hcells := HC6.out w' hw'
          go_simp
          (try with_reducible rfl)
        simp only [Act.put, List.getElem_toArray, List.getElem_cons_succ, List.getElem_cons_zero, List.setIfInBounds_toArray, List.set_cons_zero, List.set_cons_succ]
        refine wpAnyH_take (i := 6) (oi := _) (v := ?_) rfl (by kernel_rfl) (by kernel_rfl) (by kernel_rfl) (fun _ _ _ h => h) (Or.inl ⟨by rfl, ?_⟩) hS ?_
        rotate_left
        · intro w' hw'
          have hcells := HC6.out w' hw'
          go_simp
          (try with_reducible rfl)
        simp only [Act.put, List.getElem_toArray, List.getElem_cons_succ, List.getElem_cons_zero, List.setIfInBounds_toArray, List.set_cons_zero, List.set_cons_succ]
        refine wpAnyH_ready (rs := [7]) (by kernel_rfl) (by simp) ?_
        refine AllReadyH.cons (o := _) rfl (fun K hK => ?_) AllReadyH.nil
        go_simp; go_at_call 77; refine (HSS.out _ hS).mono ?_
        rintro e w4 ⟨rfl, hb4⟩
        refine hK.out _ _ (hS.trans (hb4.mono hS.size)) (fun hS => ?_)
        clear hK K
        (try simp only [Act.put, List.getElem_toArray, List.getElem_cons_succ, List.getElem_cons_zero, List.setIfInBounds_toArray, List.set_cons_zero, List.set_cons_succ])
        refine wpAnyH_done (by kernel_rfl) ?_ _
        (try dsimp only)
        have HBZ := hid hS
        clear hS
        go_wp2
        go_roundw
        case rel => exact ⟨q + 1, by omega, by go_num, fun j h hj => by
          by_cases hjk : j < q
          · exact HA.out j h hjk
          · obtain rfl : j = q := by omega
            rw [HCC.out]; omega, HBR.out.trans (HBZ.out.mono HBR.out.size)⟩
        case measure => simp [intOf]; omega
      · have hn' : 0 ≤ cc := by omega
        have HPI := hid (show placeI d.l kd = q from placeI_of (by omega) HA.out (fun h => by rw [HCC.out]; omega))
        have HPB := hid (show placeB d.l kd = (cc == 0) by rw [placeB, HPI.out, List.getElem?_eq_getElem hkl]; dsimp only; rw [HCC.out])
        go_upto_region 4 with (fail)
        clear c2
        refine wp_region_split 8 (fun w' => Below wp.heap.size wp w') (by kernel_rfl) (by kernel_rfl) (by kernel_rfl) (by decide) ((Below.refl _ _).drew) (fun hS => ?_)
        simp only [List.take_succ_cons, List.take_zero, List.drop_succ_cons, List.drop_zero]
        refine wpAnyH_take (i := 0) (oi := _) (v := ?_) rfl (by kernel_rfl) (by kernel_rfl) (by kernel_rfl) (fun _ _ _ h => h) (Or.inl ⟨by rfl, ?_⟩) hS ?_
        rotate_left
        · intro w' hw'
          have hcells := HC6.out w' hw'
          go_simp
          (try with_reducible rfl)
        simp only [Act.put, List.getElem_toArray, List.getElem_cons_succ, List.getElem_cons_zero, List.setIfInBounds_toArray, List.set_cons_zero, List.set_cons_succ]
        refine wpAnyH_take (i := 1) (oi := _) (v := ?_) rfl (by kernel_rfl) (by kernel_rfl) (by kernel_rfl) (fun _ _ _ h => h) (Or.inl ⟨by rfl, ?_⟩) hS ?_
        rotate_left
        · intro w' hw'
          have hcells := HC6.out w' hw'
          go_simp
          (try with_reducible rfl)
        simp only [Act.put, List.getElem_toArray, List.getElem_cons_succ, List.getElem_cons_zero, List.setIfInBounds_toArray, List.set_cons_zero, List.set_cons_succ]
        refine wpAnyH_take (i := 2) (oi := _) (v := ?_) rfl (by kernel_rfl) (by kernel_rfl) (by kernel_rfl) (fun _ _ _ h => h) (Or.inl ⟨by rfl, ?_⟩) hS ?_
        rotate_left
        · intro w' hw'
          have hcells := HC6.out w' hw'
          go_simp
          (try with_reducible rfl)
        simp only [Act.put, List.getElem_toArray, List.getElem_cons_succ, List.getElem_cons_zero, List.setIfInBounds_toArray, List.set_cons_zero, List.set_cons_succ]
        refine wpAnyH_take (i := 3) (oi := _) (v := ?_) rfl (by kernel_rfl) (by kernel_rfl) (by kernel_rfl) (fun _ _ _ h => h) (Or.inl ⟨by rfl, ?_⟩) hS ?_
        rotate_left
        · intro w' hw'
          have hcells := HC6.out w' hw'
          go_simp
          (try with_reducible rfl)
        simp only [Act.put, List.getElem_toArray, List.getElem_cons_succ, List.getElem_cons_zero, List.setIfInBounds_toArray, List.set_cons_zero, List.set_cons_succ]
        refine wpAnyH_take (i := 4) (oi := _) (v := ?_) rfl (by kernel_rfl) (by kernel_rfl) (by kernel_rfl) (fun _ _ _ h => h) (Or.inl ⟨by rfl, ?_⟩) hS ?_
        rotate_left
        · intro w' hw'
          have hcells := HC6.out w' hw'
          go_simp
          (try with_reducible rfl)
        simp only [Act.put, List.getElem_toArray, List.getElem_cons_succ, List.getElem_cons_zero, List.setIfInBounds_toArray, List.set_cons_zero, List.set_cons_succ]
        refine wpAnyH_take (i := 5) (oi := _) (v := ?_) rfl (by kernel_rfl) (by kernel_rfl) (by kernel_rfl) (fun _ _ _ h => h) (Or.inl ⟨by rfl, ?_⟩) hS ?_
        rotate_left
        · intro w' hw'
          have hcells := HC6.out w' hw'
          go_simp
          (try with_reducible rfl)
        simp only [Act.put, List.getElem_toArray, List.getElem_cons_succ, List.getElem_cons_zero, List.setIfInBounds_toArray, List.set_cons_zero, List.set_cons_succ]
        refine wpAnyH_take (i := 6) (oi := _) (v := ?_) rfl (by kernel_rfl) (by kernel_rfl) (by kernel_rfl) (fun _ _ _ h => h) (Or.inl ⟨by rfl, ?_⟩) hS ?_
        rotate_left
        · intro w' hw'
          have hcells := HC6.out w' hw'
          go_simp
          (try with_reducible rfl)
        simp only [Act.put, List.getElem_toArray, List.getElem_cons_succ, List.getElem_cons_zero, List.setIfInBounds_toArray, List.set_cons_zero, List.set_cons_succ]
        refine wpAnyH_ready (rs := [7]) (by kernel_rfl) (by simp) ?_
        refine AllReadyH.cons (o := _) rfl (fun K hK => ?_) AllReadyH.nil
        go_simp; go_at_call 77; refine (HSS.out _ hS).mono ?_
        rintro e w4 ⟨rfl, hb4⟩
        refine hK.out _ _ (hS.trans (hb4.mono hS.size)) (fun hS => ?_)
        clear hK K
        (try simp only [Act.put, List.getElem_toArray, List.getElem_cons_succ, List.getElem_cons_zero, List.setIfInBounds_toArray, List.set_cons_zero, List.set_cons_succ])
        refine wpAnyH_done (by kernel_rfl) ?_ _
        (try dsimp only)
        have hbz := hS
        clear hS
        go_wp2
        go_ret2
        exact ⟨by rw [HPI.out, HPB.out]; rfl, HB0.out.trans ((HBR.out.trans (hbz.mono HBR.out.size)).mono HB0.out.size)⟩
    · have hlt' : ¬ (q : Int) < (sl : Int) := by omega
      have HPI := hid (show placeI d.l kd = sl from (placeI_of (by have := HL.out; omega) (fun j h _ => HA.out j h (by have := HL.out; omega)) (fun h => absurd h (by have := HL.out; omega))))
      have HPB := hid (show placeB d.l kd = false by rw [placeB, HPI.out, List.getElem?_eq_none (by have := HL.out; omega)])
      have hw := hid (HB0.out.trans (hbr.mono HB0.out.size))
      clear hg hg2 hbr
      go_wp2
      go_ret2
      exact ⟨by rw [HPI.out, HPB.out]; rfl, hw.out⟩
end Go.Proofs.YthjlgpmajeafpaaGreatDoor
