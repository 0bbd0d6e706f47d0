/-
  manifoldlaw29.small; stamp.Compare, stamp.Equal, slices.Equal over ints, message.Equal say what the data say. Condition: the arguments can be read as data.
-/
import Derived.Test.YthjlgpmajeafpaaGreatDoorSame2
import Derived.Test.YthjlgpmajeafpaaGreatDoorRefl
import Derived.Test.YthjlgpmajeafpaaGreatDoorSize
import Derived.Sort.CutIn
namespace Go.Proofs.YthjlgpmajeafpaaGreatDoor
open Go Go.RowKit Go.Shelf
set_option linter.unusedVariables false
set_option linter.unusedSimpArgs false

def SmallPost (w : World) (c : MC) (e : Ending) (w' : World) : Prop := (∃ b : Bool, e = .returned (.bool b) ∧ (b = true → c.st.n ≤ 40 ∧ c.n ≤ 300)) ∧ Below w.heap.size w w'
set_option maxRecDepth 100000 in
set_option maxHeartbeats 4000000 in
theorem small_call (c : MC) (d : Msg) (w : World) (hd : IsMsg (· < w.heap.size) w c d) : Calls Tryz.prog 16 #[c.v] w (SmallPost w c) := by
  have hb0 : Below w.heap.size w (w.alloc (mObj c)) := (Below.refl _ w).alloc (Nat.le_refl _) _
  have later : ∀ w2, Below (w.alloc (mObj c)).heap.size (w.alloc (mObj c)) w2 → Ten w2 w.heap.size c ∧ Below w.heap.size w w2 ∧ IsVal (· < w2.heap.size) w2 c.b d.b := fun w2 h => by
    have hb := hb0.trans (h.mono hb0.size)
    exact ⟨tenOf (heapExt h (heap_alloc_new w _)), hb, hd.b.same fun b q => ⟨Nat.lt_of_lt_of_le q hb.size, hb.block b q⟩⟩
  have HL := hid later
  have HD : Hid (∀ w2, Below (w.alloc (mObj c)).heap.size (w.alloc (mObj c)) w2 → Calls Tryz.prog 60 #[c.b.v] w2 (SomeInt w2)) := hid fun w2 h => depth_call c.b d.b w2 (later w2 h).2.2
  have HS : Hid (∀ w2, Below (w.alloc (mObj c)).heap.size (w.alloc (mObj c)) w2 → Calls Tryz.prog 61 #[c.b.v] w2 (SomeInt w2)) := hid fun w2 h => size_call' c.b d.b w2 (later w2 h).2.2
  have h00 := (later _ (Below.refl _ _)).1
  have HB0 := hid hb0
  clear later hd hb0
  obtain ⟨⟨ce, sa, sn, sc⟩, m, a, n, cap, ⟨k, i', s, t, la, ll, lc, fa, fl, fc⟩⟩ := c
  dsimp only [mObj, VC.v, MC.v, Ten] at HL HD HS HB0 h00 ⊢
  obtain ⟨e0, e1, e2, e3, e4, e5, e6, e7, e8, e9⟩ := h00
  go_enter Tryz.func16, Tryz.ntmps16
  by_cases q1 : sn ≤ 40
  · have q1' : (sn : Int) ≤ 40 := by omega
    by_cases q2 : n ≤ 300
    · have q2' : (n : Int) ≤ 300 := by omega
      go_wp2_with (first
        | (go_at_call 60; refine (HD.out _ (Below.refl _ _)).mono ?_; rintro e w3 ⟨⟨n1, rfl⟩, hb3⟩; clear e0 e1 e2 e3 e4 e5 e6 e7 e8 e9; have t0 := (HL.out _ hb3).1; obtain ⟨k0, k1, k2, k3, k4, k5, k6, k7, k8, k9⟩ := t0; have hbz := (HL.out _ hb3).2.1; rcases Int.lt_or_le 12 n1 with hn1 | hn1)
        | (go_at_call 61; refine (HS.out _ hb3).mono ?_; rintro e w4 ⟨⟨n2, rfl⟩, hb4⟩; have hbz4 := hbz.trans (hb4.mono hbz.size)))
      · go_ret
        exact ⟨⟨_, rfl, fun _ => ⟨q1, q2⟩⟩, hbz⟩
      · go_ret
        exact ⟨⟨_, rfl, fun _ => ⟨q1, q2⟩⟩, hbz4⟩
    · have q2' : ¬ (n : Int) ≤ 300 := by omega
      go_wp2
      go_ret
      exact ⟨⟨false, rfl, fun h => by cases h⟩, HB0.out⟩
  · have q1' : ¬ (sn : Int) ≤ 40 := by omega
    go_wp2
    go_ret
    exact ⟨⟨false, rfl, fun h => by cases h⟩, HB0.out⟩

def cmpSt (d d2 : St) : Int := orL [Lib.compareInt d.e d2.e, cmpI d.ps d2.ps]
theorem cmpSt_zero (d d2 : St) : (cmpSt d d2 == 0) = stEqB d d2 := by
  rw [Bool.eq_iff_iff]
  simp only [beq_iff_eq, cmpSt, orL, stEqB, decide_eq_true_eq]
  constructor
  · intro h
    by_cases h1 : Lib.compareInt d.e d2.e = 0
    · rw [if_neg (by simpa using h1)] at h
      by_cases h2 : cmpI d.ps d2.ps = 0
      · exact ⟨cmpInt_zero h1, cmpI_zero.1 h2⟩
      · rw [if_pos h2] at h; exact absurd h h2
    · rw [if_pos h1] at h; exact absurd h h1
  · rintro ⟨h1, h2⟩
    rw [h1, h2, cmpInt_refl, cmpI_zero.2 rfl]
    rfl
set_option maxRecDepth 100000 in
set_option maxHeartbeats 4000000 in
theorem stCompare_call (c c2 : SC) (d d2 : St) (w : World) (hd : IsSt (· < w.heap.size) w c d) (hd2 : IsSt (· < w.heap.size) w c2 d2) : Calls Tryz.prog 49 #[c.v, c2.v] w fun e w' => e = .returned (.int .i64 (cmpSt d d2)) ∧ Below w.heap.size w w' := by
  have HWB : Hid (Below w.heap.size w ((w.alloc (.cells #[.int .i64 c.e, .slice c.a c.n c.c] 24)).alloc (.cells #[.int .i64 c2.e, .slice c2.a c2.n c2.c] 24))) := hid (((Below.refl _ w).alloc (Nat.le_refl _) _).alloc (by simp) _)
  have HCI : Hid (∀ w', Below ((w.alloc (.cells #[.int .i64 c.e, .slice c.a c.n c.c] 24)).alloc (.cells #[.int .i64 c2.e, .slice c2.a c2.n c2.c] 24)).heap.size ((w.alloc (.cells #[.int .i64 c.e, .slice c.a c.n c.c] 24)).alloc (.cells #[.int .i64 c2.e, .slice c2.a c2.n c2.c] 24)) w' → Calls Tryz.prog 97 #[.slice c.a c.n c.c, .slice c2.a c2.n c2.c, .func (.func 98) #[] #[]] w' fun e w2 => e = .returned (.int .i64 (cmpI d.ps d2.ps)) ∧ Below w'.heap.size w' w2) := hid fun w' h => by
    have hb := HWB.out.trans (h.mono HWB.out.size)
    exact (cmpInts_call _ _ _ _ _ _ _ _ _ _ w' (hd.ps.same (S' := fun b => b < w'.heap.size) fun b q => ⟨Nat.lt_of_lt_of_le q hb.size, hb.block b q⟩) (hd2.ps.same (S' := fun b => b < w'.heap.size) fun b q => ⟨Nat.lt_of_lt_of_le q hb.size, hb.block b q⟩)).mono fun e w2 ⟨he, hw⟩ => ⟨he, by rw [hw]; exact Below.refl _ _⟩
  have HC : Hid (∀ w', Below ((w.alloc (.cells #[.int .i64 c.e, .slice c.a c.n c.c] 24)).alloc (.cells #[.int .i64 c2.e, .slice c2.a c2.n c2.c] 24)).heap.size ((w.alloc (.cells #[.int .i64 c.e, .slice c.a c.n c.c] 24)).alloc (.cells #[.int .i64 c2.e, .slice c2.a c2.n c2.c] 24)) w' → w'.cell? ⟨w.heap.size, 0, none⟩ = some (.int .i64 c.e) ∧ w'.cell? ⟨w.heap.size, 1, none⟩ = some (.slice c.a c.n c.c) ∧ w'.cell? ⟨w.heap.size + 1, 0, none⟩ = some (.int .i64 c2.e) ∧ w'.cell? ⟨w.heap.size + 1, 1, none⟩ = some (.slice c2.a c2.n c2.c)) := hid fun w' h => by
    have h0 := heapExt h (heapAlloc (.cells #[.int .i64 c2.e, .slice c2.a c2.n c2.c] 24) (heap_alloc_new w (.cells #[.int .i64 c.e, .slice c.a c.n c.c] 24)))
    have h1 := heapExt h (heapNewAt (w.alloc (.cells #[.int .i64 c.e, .slice c.a c.n c.c] 24)) (.cells #[.int .i64 c2.e, .slice c2.a c2.n c2.c] 24) (w.heap.size + 1) (by simp))
    exact ⟨cellOf h0 0, cellOf h0 1, cellOf h1 0, cellOf h1 1⟩
  have R : Hid (cmpSt d d2 = orL [Lib.compareInt c.e c2.e, cmpI d.ps d2.ps]) := hid (by rw [hd.e, hd2.e]; rfl)
  clear hd hd2
  go_enter Tryz.func49, Tryz.ntmps49
  go_upto_region 1 with (fail)
  refine wp_region_split 12 (fun w' => Below ((w.alloc (.cells #[.int .i64 c.e, .slice c.a c.n c.c] 24)).alloc (.cells #[.int .i64 c2.e, .slice c2.a c2.n c2.c] 24)).heap.size ((w.alloc (.cells #[.int .i64 c.e, .slice c.a c.n c.c] 24)).alloc (.cells #[.int .i64 c2.e, .slice c2.a c2.n c2.c] 24)) w') (by kernel_rfl) (by kernel_rfl) (by kernel_rfl) (by decide) ((Below.refl _ _).drew) (fun hS => ?_)
  simp only [List.take_succ_cons, List.take_zero, List.drop_succ_cons, List.drop_zero]
  refine wpAnyH_take (i := 0) (oi := _) (v := ?_) rfl (by kernel_rfl) (by kernel_rfl) (by kernel_rfl) (fun _ _ _ h => h) (Or.inl ⟨by rfl, ?_⟩) hS ?_
  rotate_left
  · intro w' hw'
    have hcells := HC.out w' hw'
    go_simp
    (try with_reducible rfl)
  simp only [Act.put, List.setIfInBounds_toArray, List.set_cons_zero, List.set_cons_succ]
  refine wpAnyH_take (i := 1) (oi := _) (v := ?_) rfl (by kernel_rfl) (by kernel_rfl) (by kernel_rfl) (fun _ _ _ h => h) (Or.inl ⟨by rfl, ?_⟩) hS ?_
  rotate_left
  · intro w' hw'
    have hcells := HC.out w' hw'
    go_simp
    (try with_reducible rfl)
  simp only [Act.put, List.setIfInBounds_toArray, List.set_cons_zero, List.set_cons_succ]
  refine wpAnyH_take (i := 2) (oi := _) (v := ?_) rfl (by kernel_rfl) (by kernel_rfl) (by kernel_rfl) (fun _ _ _ h => h) (Or.inl ⟨by rfl, ?_⟩) hS ?_
  rotate_left
  · intro w' hw'
    have hcells := HC.out w' hw'
    go_simp
    (try with_reducible rfl)
  simp only [Act.put, List.setIfInBounds_toArray, List.set_cons_zero, List.set_cons_succ]
  refine wpAnyH_take (i := 3) (oi := _) (v := ?_) rfl (by kernel_rfl) (by kernel_rfl) (by kernel_rfl) (fun _ _ _ h => h) (Or.inl ⟨by rfl, ?_⟩) hS ?_
  rotate_left
  · intro w' hw'
    have hcells := HC.out w' hw'
    go_simp
    (try with_reducible rfl)
  simp only [Act.put, List.setIfInBounds_toArray, List.set_cons_zero, List.set_cons_succ]
  refine wpAnyH_take (i := 5) (oi := _) (v := ?_) rfl (by kernel_rfl) (by kernel_rfl) (by kernel_rfl) (fun _ _ _ h => h) (Or.inl ⟨by rfl, ?_⟩) hS ?_
  rotate_left
  · intro w' hw'
    have hcells := HC.out w' hw'
    go_simp
    (try with_reducible rfl)
  simp only [Act.put, List.setIfInBounds_toArray, List.set_cons_zero, List.set_cons_succ]
  refine wpAnyH_take (i := 6) (oi := _) (v := ?_) rfl (by kernel_rfl) (by kernel_rfl) (by kernel_rfl) (fun _ _ _ h => h) (Or.inl ⟨by rfl, ?_⟩) hS ?_
  rotate_left
  · intro w' hw'
    have hcells := HC.out w' hw'
    go_simp
    (try with_reducible rfl)
  simp only [Act.put, List.setIfInBounds_toArray, List.set_cons_zero, List.set_cons_succ]
  refine wpAnyH_take (i := 7) (oi := _) (v := ?_) rfl (by kernel_rfl) (by kernel_rfl) (by kernel_rfl) (fun _ _ _ h => h) (Or.inl ⟨by rfl, ?_⟩) hS ?_
  rotate_left
  · intro w' hw'
    have hcells := HC.out w' hw'
    go_simp
    (try with_reducible rfl)
  simp only [Act.put, List.setIfInBounds_toArray, List.set_cons_zero, List.set_cons_succ]
  refine wpAnyH_take (i := 8) (oi := _) (v := ?_) rfl (by kernel_rfl) (by kernel_rfl) (by kernel_rfl) (fun _ _ _ h => h) (Or.inl ⟨by rfl, ?_⟩) hS ?_
  rotate_left
  · intro w' hw'
    have hcells := HC.out w' hw'
    go_simp
    (try with_reducible rfl)
  simp only [Act.put, List.setIfInBounds_toArray, List.set_cons_zero, List.set_cons_succ]
  refine wpAnyH_ready (rs := [4]) (by kernel_rfl) (by simp) ?_
  refine AllReadyH.cons (o := _) rfl (fun K hK => ?_) AllReadyH.nil
  go_simp; go_at_call 96; refine (Tryz.cmp_Compare_int _ _ _).mono ?_
  rintro e w1 ⟨rfl, rfl⟩
  refine hK.out _ _ (hS) (fun hS => ?_)
  clear hK K
  (try simp only [Act.put, List.setIfInBounds_toArray, List.set_cons_zero, List.set_cons_succ])
  refine wpAnyH_ready (rs := [9]) (by kernel_rfl) (by simp) ?_
  refine AllReadyH.cons (o := _) rfl (fun K hK => ?_) AllReadyH.nil
  go_simp; go_at_call 97; refine (HCI.out _ hS).mono ?_
  rintro e w2 ⟨rfl, hb1⟩
  refine hK.out _ _ (hS.trans (hb1.mono hS.size)) (fun hS => ?_)
  clear hK K
  (try simp only [Act.put, List.setIfInBounds_toArray, List.set_cons_zero, List.set_cons_succ])
  refine wpAnyH_ready (rs := [10]) (by kernel_rfl) (by simp) ?_
  refine AllReadyH.cons (o := _) rfl (fun K hK => ?_) AllReadyH.nil
  go_simp
  refine hK.out _ _ (hS.trans (((Below.refl _ _).alloc (Nat.le_refl _) _).mono hS.size)) (fun hS => ?_)
  clear hK K
  (try simp only [Act.put, List.setIfInBounds_toArray, List.set_cons_zero, List.set_cons_succ])
  refine wpAnyH_ready (rs := [11]) (by kernel_rfl) (by simp) ?_
  refine AllReadyH.cons (o := _) rfl (fun K hK => ?_) AllReadyH.nil
  go_simp; go_at_call 95; refine (or_new [Lib.compareInt c.e c2.e, cmpI d.ps d2.ps] w2 _ (by simp)).mono ?_
  rintro e w3 ⟨rfl, rfl⟩
  refine hK.out _ _ (hS) (fun hS => ?_)
  clear hK K
  (try simp only [Act.put, List.setIfInBounds_toArray, List.set_cons_zero, List.set_cons_succ])
  refine wpAnyH_done (by kernel_rfl) ?_ _
  (try dsimp only)
  go_wp2
  go_ret
  exact ⟨by rw [R.out]; rfl, HWB.out.trans (hS.mono HWB.out.size)⟩
theorem stEqual_call (c c2 : SC) (d d2 : St) (w : World) (hd : IsSt (· < w.heap.size) w c d) (hd2 : IsSt (· < w.heap.size) w c2 d2) : Calls Tryz.prog 70 #[c.v, c2.v] w fun e w' => e = .returned (.bool (stEqB d d2)) ∧ Below w.heap.size w w' := by
  have hb : Below w.heap.size w ((w.alloc (.cells #[.int .i64 c.e, .slice c.a c.n c.c] 24)).alloc (.cells #[.int .i64 c2.e, .slice c2.a c2.n c2.c] 24)) := (((Below.refl _ w).alloc (Nat.le_refl _) _).alloc (by simp) _)
  obtain ⟨u, hu⟩ : ∃ u, u = cmpSt d d2 := ⟨_, rfl⟩
  have hc := stCompare_call c c2 d d2 ((w.alloc (.cells #[.int .i64 c.e, .slice c.a c.n c.c] 24)).alloc (.cells #[.int .i64 c2.e, .slice c2.a c2.n c2.c] 24)) (hd.same fun b q => ⟨Nat.lt_of_lt_of_le q hb.size, hb.block b q⟩) (hd2.same fun b q => ⟨Nat.lt_of_lt_of_le q hb.size, hb.block b q⟩)
  rw [← hu] at hc
  have HCC := hid hc
  have HB := hid hb
  have R := hid (show stEqB d d2 = (u == 0) by rw [hu, cmpSt_zero])
  have h0 := (heapAlloc (.cells #[.int .i64 c2.e, .slice c2.a c2.n c2.c] 24) (heap_alloc_new w (.cells #[.int .i64 c.e, .slice c.a c.n c.c] 24)))
  have e0 := cellOf h0 0
  have e1 := cellOf h0 1
  clear hc hb hd hd2 hu h0
  go_enter Tryz.func70, Tryz.ntmps70
  go_wp2_with (go_at_call 49; refine HCC.out.mono ?_; rintro e w2 ⟨rfl, hb2⟩)
  go_ret
  exact ⟨retB R.out.symm, HB.out.trans (hb2.mono HB.out.size)⟩
theorem eqInts_call (S S' : Nat → Prop) (a a' : Option Addr) (n c n' c' : Nat) (xs ys : List Int) (w : World) (hx : IsInts S w a n c xs) (hy : IsInts S' w a' n' c' ys) : Calls Tryz.prog 92 #[.slice a n c, .slice a' n' c'] w fun e w' => e = .returned (.bool (decide (xs = ys))) ∧ Below w.heap.size w w' := by
  have hl := hx.len
  have hl' := hy.len
  have hbg := hx.big
  have hbg' := hy.big
  rcases Nat.eq_zero_or_pos n with h0 | h0
  · subst h0
    have hxe : xs = [] := List.eq_nil_of_length_eq_zero hl.symm
    refine (Tryz.slices_Equal_int_empty a a' c n' c' w (by omega)).mono fun e w' ⟨he, hw⟩ => ⟨?_, by rw [hw]; exact Below.refl _ _⟩
    rw [he]
    refine retB ?_
    rw [decide_eq_decide, hxe, hl']
    constructor
    · intro h; exact (List.eq_nil_of_length_eq_zero h).symm
    · intro h; rw [← h]; rfl
  · by_cases hnn : n = n'
    · obtain ⟨b, o, rfl, _, hc⟩ := hx.slot h0
      obtain ⟨b', o', rfl, _, hc'⟩ := hy.slot (by omega)
      refine (Tryz.slices_Equal_int b o n c b' o' n' c' xs ys w (by omega) (by omega) (by omega) (by omega) (fun j hj => by rw [hc j hj]; simp [List.getD_eq_getElem?_getD, hj]) (fun j hj => by rw [hc' j hj]; simp [List.getD_eq_getElem?_getD, hj])).mono fun e w' ⟨he, q, hw⟩ => ⟨?_, ?_⟩
      · rw [he, List.take_of_length_le (by omega), List.take_of_length_le (by omega)]
        refine retB ?_
        rw [Bool.eq_iff_iff]; simp
      · rw [hw]; exact ⟨rfl, rfl, rfl, Nat.le_refl _, fun _ _ => rfl⟩
    · refine (Tryz.slices_Equal_int_lens a a' n c n' c' w hnn).mono fun e w' ⟨he, hw⟩ => ⟨?_, by rw [hw]; exact Below.refl _ _⟩
      rw [he]
      refine retB ?_
      symm
      rw [decide_eq_false_iff_not]
      intro h
      rw [h] at hl
      omega

set_option maxRecDepth 100000 in
set_option maxHeartbeats 8000000 in
theorem msgEqual_call (c c2 : MC) (d d2 : Msg) (w : World) (hd : IsMsg (· < w.heap.size) w c d) (hd2 : IsMsg (· < w.heap.size) w c2 d2) :
    Calls Tryz.prog 47 #[c.v, c2.v] w fun e w' => e = .returned (.bool (msgEqB d d2)) ∧ Below w.heap.size w w' := by
  have hq := hid (show msgEqB d d2 = (stEqB d.st d2.st && (decide (c.m = c2.m) && (decide (d.es = d2.es) && (cmpV d.b d2.b == 0)))) by rw [msgEqB, hd.m, hd2.m])
  obtain ⟨u, hu⟩ : ∃ u, u = stEqB d.st d2.st := ⟨_, rfl⟩
  obtain ⟨v, hv⟩ : ∃ v, v = (cmpV d.b d2.b == 0) := ⟨_, rfl⟩
  obtain ⟨x, hx⟩ : ∃ x, x = decide (d.es = d2.es) := ⟨_, rfl⟩
  rw [← hu, ← hv, ← hx] at hq
  have hm := fun w1 hb => twoAt c c2 d d2 w hd hd2 w1 hb
  have hst : ∀ w1, Below ((w.alloc (mObj c)).alloc (mObj c2)).heap.size ((w.alloc (mObj c)).alloc (mObj c2)) w1 → Calls Tryz.prog 70 #[c.st.v, c2.st.v] w1 fun e w' => e = .returned (.bool u) ∧ Below w1.heap.size w1 w' := fun w1 h => by
    have hbw := (hm w1 h).bel
    rw [hu]; exact stEqual_call _ _ _ _ w1 (hd.st.same fun b q => ⟨Nat.lt_of_lt_of_le q hbw.size, hbw.block b q⟩) (hd2.st.same fun b q => ⟨Nat.lt_of_lt_of_le q hbw.size, hbw.block b q⟩)
  have hes : ∀ w1, Below ((w.alloc (mObj c)).alloc (mObj c2)).heap.size ((w.alloc (mObj c)).alloc (mObj c2)) w1 → Calls Tryz.prog 92 #[.slice c.a c.n c.c, .slice c2.a c2.n c2.c] w1 fun e w' => e = .returned (.bool x) ∧ Below w1.heap.size w1 w' := fun w1 h => by
    rw [hx]; exact eqInts_call _ _ _ _ _ _ _ _ _ _ w1 (hm w1 h).es (hm w1 h).es2
  have hvl : ∀ w1, Below ((w.alloc (mObj c)).alloc (mObj c2)).heap.size ((w.alloc (mObj c)).alloc (mObj c2)) w1 → Calls Tryz.prog 52 #[c.b.v, c2.b.v] w1 fun e w' => e = .returned (.bool v) ∧ Below w1.heap.size w1 w' := fun w1 h => by rw [hv]; exact (hm w1 h).val
  have HM := hid hm
  have HST := hid (hst _ (Below.refl _ _))
  have HES := hid hes
  have HVL := hid hvl
  have h0a := (hm _ (Below.refl _ _)).t1
  have h0b := (hm _ (Below.refl _ _)).t2
  clear hm hst hvl hes hu hv hx hd hd2
  obtain ⟨⟨ce, sa, sn, sc⟩, m, a, n, cap, ⟨k, i', s, t, la, ll, lc, fa, fl, fc⟩⟩ := c
  obtain ⟨⟨ce2, sa2, sn2, sc2⟩, m2, a2, n2, cap2, ⟨k2, i2, s2, t2, la2, ll2, lc2, fa2, fl2, fc2⟩⟩ := c2
  dsimp only [Ten, mObj, SC.v, VC.v, MC.v] at hq HM HST HES HVL h0a h0b ⊢
  obtain ⟨e0, e1, e2, e3, e4, e5, e6, e7, e8, e9⟩ := h0a
  obtain ⟨f0, f1, f2, f3, f4, f5, f6, f7, f8, f9⟩ := h0b
  go_enter Tryz.func47, Tryz.ntmps47
  cases u with
  | false =>
    go_wp2_with (go_at_call 70; refine HST.out.mono ?_; rintro e w1 ⟨rfl, hb1⟩; have hbw := (HM.out w1 hb1).bel)
    go_ret
    exact ⟨by rw [hq.out]; rfl, hbw⟩
  | true =>
  by_cases q1 : m = m2
  · subst q1
    cases x with
    | false =>
      have r := hid (show msgEqB d d2 = false by rw [hq.out]; simp)
      go_wp2_with (first
        | (go_at_call 70; refine HST.out.mono ?_; rintro e w1 ⟨rfl, hb1⟩; have hbw := (HM.out w1 hb1).bel; have t1 := (HM.out w1 hb1).t1; have t2 := (HM.out w1 hb1).t2; dsimp only [Ten] at t1 t2; clear e0 e1 e2 e3 e4 e5 e6 e7 e8 e9 f0 f1 f2 f3 f4 f5 f6 f7 f8 f9; obtain ⟨j0, j1, j2, j3, j4, j5, j6, j7, j8, j9⟩ := t1; obtain ⟨l0, l1, l2, l3, l4, l5, l6, l7, l8, l9⟩ := t2)
        | (go_at_call 92; refine (HES.out _ hb1).mono ?_; rintro e w2 ⟨rfl, hb2⟩))
      go_ret
      exact ⟨by rw [r.out]; rfl, hbw.trans (hb2.mono hbw.size)⟩
    | true =>
      have r := hid (show msgEqB d d2 = v by rw [hq.out]; simp)
      go_wp2_with (first
        | (go_at_call 70; refine HST.out.mono ?_; rintro e w1 ⟨rfl, hb1⟩; have hbw := (HM.out w1 hb1).bel; have t1 := (HM.out w1 hb1).t1; have t2 := (HM.out w1 hb1).t2; dsimp only [Ten] at t1 t2; clear e0 e1 e2 e3 e4 e5 e6 e7 e8 e9 f0 f1 f2 f3 f4 f5 f6 f7 f8 f9; obtain ⟨j0, j1, j2, j3, j4, j5, j6, j7, j8, j9⟩ := t1; obtain ⟨l0, l1, l2, l3, l4, l5, l6, l7, l8, l9⟩ := t2)
        | (go_at_call 92; refine (HES.out _ hb1).mono ?_; rintro e w2 ⟨rfl, hb2⟩; have hb2' := hb1.trans (hb2.mono hb1.size); have t1 := (HM.out w2 hb2').t1; have t2 := (HM.out w2 hb2').t2; dsimp only [Ten] at t1 t2; clear j0 j1 j2 j3 j4 j5 j6 j7 j8 j9 l0 l1 l2 l3 l4 l5 l6 l7 l8 l9; obtain ⟨p0, p1, p2, p3, p4, p5, p6, p7, p8, p9⟩ := t1; obtain ⟨r0, r1, r2, r3, r4, r5, r6, r7, r8, r9⟩ := t2)
        | (go_at_call 52; refine (HVL.out _ hb2').mono ?_; rintro e w3 ⟨rfl, hb3⟩))
      go_ret
      exact ⟨by rw [r.out]; rfl, (hbw.trans (hb2.mono hbw.size)).trans (hb3.mono (Nat.le_trans hbw.size hb2.size))⟩
  · have r := hid (show msgEqB d d2 = false by rw [hq.out]; simp [q1])
    go_wp2_with (go_at_call 70; refine HST.out.mono ?_; rintro e w1 ⟨rfl, hb1⟩; have hbw := (HM.out w1 hb1).bel; have t1 := (HM.out w1 hb1).t1; have t2 := (HM.out w1 hb1).t2; dsimp only [Ten] at t1 t2; clear e0 e1 e2 e3 e4 e5 e6 e7 e8 e9 f0 f1 f2 f3 f4 f5 f6 f7 f8 f9; obtain ⟨j0, j1, j2, j3, j4, j5, j6, j7, j8, j9⟩ := t1; obtain ⟨l0, l1, l2, l3, l4, l5, l6, l7, l8, l9⟩ := t2)
    go_ret
    exact ⟨by rw [r.out]; rfl, hbw⟩
end Go.Proofs.YthjlgpmajeafpaaGreatDoor
