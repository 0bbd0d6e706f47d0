/-
  MessageReasons returns true. Conditions: the arguments can be read as data; Tabs.
-/
import Derived.Test.YtcejackabdmpkaaGreatDoorKnownMrg
import Derived.Test.YtcejackabdmpkaaGreatDoorRecMrg
import Derived.Test.YtcejackabdmpkaaGreatDoorG2Mrg
import Derived.Test.YtcejackabdmpkaaGreatDoorG9Mrg
namespace Go.Proofs.YtcejackabdmpkaaGreatDoor
open Go Go.RowKit Go.Shelf
set_option linter.unusedVariables false
set_option linter.unusedSimpArgs false

def reasonB (k : Int) : ByteArray := if k = 18 then ⟨#[116, 121, 112, 101]⟩ else ⟨#[101, 114, 114, 111, 114, 32]⟩ ++ itoaB k
set_option maxRecDepth 100000 in
set_option maxHeartbeats 2000000 in
theorem reason_call (k : Int) (h0 : 0 ≤ k) (h1 : k ≤ 99) (w : World) (hT : Tabs w) : Calls Tryz.prog 16 #[.int .i64 k] w fun e w' => e = .returned (.string (reasonB k)) ∧ Below w.heap.size w w' := by
  have HIT := hid (fun w' h => itoa_call k ⟨by omega, by omega⟩ w' (hT.below (w' := w') h))
  by_cases h : k = 18
  · subst h
    have R := hid (show reasonB 18 = ⟨#[116, 121, 112, 101]⟩ from if_pos rfl)
    go_enter Tryz.func16, Tryz.ntmps16
    go_wp2
    go_ret
    exact ⟨by rw [R.out]; rfl, Below.refl _ w⟩
  · have R := hid (show reasonB k = ⟨#[101, 114, 114, 111, 114, 32]⟩ ++ itoaB k from if_neg h)
    have hs : (itoaB k).size ≤ 21 := Lib.itoa_length_le k (by omega) (by omega)
    obtain ⟨s, hs'⟩ : ∃ s, s = itoaB k := ⟨_, rfl⟩
    rw [← hs'] at hs R HIT
    have hsz : (⟨#[101, 114, 114, 111, 114, 32]⟩ : ByteArray).size + s.size ≤ 9223372036854775807 := by
      have : (⟨#[101, 114, 114, 111, 114, 32]⟩ : ByteArray).size = 6 := rfl
      omega
    clear hs' hs
    go_enter Tryz.func16, Tryz.ntmps16
    go_wp2_with (go_at_call 44; refine (HIT.out w (Below.refl _ _)).mono ?_; rintro e w2 ⟨rfl, hb2⟩)
    go_ret
    exact ⟨by rw [R.out]; rfl, hb2⟩

set_option maxRecDepth 100000 in
set_option maxHeartbeats 8000000 in
theorem reasons_call (c : VC) (d : Val) (n : Int) (w : World) (hd : IsVal (· < w.heap.size) w c d) (hn0 : 0 ≤ n) (hn1 : n ≤ 255) (hT : Tabs w) : Calls Tryz.prog 3 #[c.v, .int .u8 n] w fun e w' => e = .returned (.bool true) ∧ Below w.heap.size w w' := by
  obtain ⟨w1, hw1⟩ : ∃ w1, w1 = w.alloc (vObj c) := ⟨_, rfl⟩
  have hb1 : Below w.heap.size w w1 := by rw [hw1]; exact (Below.refl _ w).alloc (Nat.le_refl _) _
  have hbox : w1.heap[w.heap.size]? = some (vObj c) := by rw [hw1]; exact heap_alloc_new w _
  have later : ∀ w2, Below w1.heap.size w1 w2 → Below w.heap.size w w2 ∧ IsVal (· < w2.heap.size) w2 c d ∧ Tabs w2 := fun w2 h => by
    have hb := hb1.trans (h.mono hb1.size)
    exact ⟨hb, hd.same fun b q => ⟨Nat.lt_of_lt_of_le q hb.size, hb.block b q⟩, hT.below hb⟩
  have HK : Hid (∀ w2, Below w1.heap.size w1 w2 → Calls Tryz.prog 9 #[] w2 fun e w' => e = .returned (.bool true) ∧ Below w2.heap.size w2 w') := hid fun w2 h => known_call w2 (later w2 h).2.2
  have HD : Hid (∀ w2, Below w1.heap.size w1 w2 → Calls Tryz.prog 10 #[c.v] w2 (SomeInt w2)) := hid fun w2 h => depth_call c d w2 (later w2 h).2.1
  have HS : Hid (∀ w2, Below w1.heap.size w1 w2 → Calls Tryz.prog 11 #[c.v] w2 (SomeInt w2)) := hid fun w2 h => size_call' c d w2 (later w2 h).2.1
  have HENV : Hid (∀ w2, Below w1.heap.size w1 w2 → Calls Tryz.prog 15 #[c.v] w2 (ClonePost w2 (envV ⟨#[98, 111, 100, 121]⟩ d))) := hid fun w2 h => env_call c d w2 (later w2 h).2.1
  have HISN : Hid (∀ w2 : World, Calls Tryz.prog 12 #[c.v] w2 fun e w' => e = .returned (.bool (isNullV d)) ∧ Below w2.heap.size w2 w') := hid fun w2 => by
    rw [isNullV_of hd]; exact isNull_call c.k c.i c.s c.t c.la c.ll c.lc c.fa c.fl c.fc w2
  have HV : Hid (∀ w2, Below w1.heap.size w1 w2 → IsVal (· < w2.heap.size) w2 c d) := hid fun w2 h => (later w2 h).2.1
  obtain ⟨m, hm⟩ : ∃ m : Nat, n.tmod 100 = (m : Int) := ⟨(n.tmod 100).toNat, by rw [Int.tmod_eq_emod_of_nonneg hn0]; omega⟩
  have hm1 : m ≤ 99 := by rw [Int.tmod_eq_emod_of_nonneg hn0] at hm; omega
  have HREA : Hid (∀ w2, Below w1.heap.size w1 w2 → Calls Tryz.prog 16 #[.int .i64 m] w2 fun e w' => e = .returned (.string (reasonB m)) ∧ Below w2.heap.size w2 w') := hid fun w2 h => reason_call m (by omega) (by omega) w2 (later w2 h).2.2
  have HDEC : Hid (∀ w2, Calls Tryz.prog 13 #[.int .i64 m] w2 fun e w' => e = .returned (.string (decB m)) ∧ Below w2.heap.size w2 w') := hid fun w2 => dec_call m (by omega) w2
  have HRB := hid (show reasonB m = if (m : Int) = 18 then ⟨#[116, 121, 112, 101]⟩ else ⟨#[101, 114, 114, 111, 114, 32]⟩ ++ decB m by rw [reasonB, decB_itoa])
  have hsz0 := dec_size m (by omega)
  obtain ⟨sd, hsd⟩ : ∃ sd, sd = decB m := ⟨_, rfl⟩
  obtain ⟨sr, hsr⟩ : ∃ sr, sr = reasonB m := ⟨_, rfl⟩
  rw [← hsd] at hsz0 HDEC HRB
  rw [← hsr] at HREA HRB
  have hsz : (⟨#[101, 114, 114, 111, 114, 32]⟩ : ByteArray).size + sd.size ≤ 9223372036854775807 := by
    have : (⟨#[101, 114, 114, 111, 114, 32]⟩ : ByteArray).size = 6 := rfl
    omega
  have SIX : Hid (∀ w2, Below w1.heap.size w1 w2 → Six w2 w.heap.size c) := hid fun w2 h => sixOf (heapExt h hbox)
  have HB1 := hid hb1
  obtain ⟨q, hq⟩ : ∃ q : Int, q = (m : Int) := ⟨_, rfl⟩
  rw [← hq] at hm HREA HDEC HRB
  clear hq hm1
  clear later hd hT hb1 hbox hsd hsr hsz0
  have HEN : Hid (envV ⟨#[98, 111, 100, 121]⟩ d = if isNullV d = true then .mk 9 0 0 ⟨#[]⟩ [] [] [] else .mk 9 0 0 ⟨#[]⟩ [] [⟨#[98, 111, 100, 121]⟩] [d]) := hid rfl
  obtain ⟨de, hde⟩ : ∃ de, de = envV ⟨#[98, 111, 100, 121]⟩ d := ⟨_, rfl⟩
  rw [← hde] at HENV HEN
  obtain ⟨isn, hisn⟩ : ∃ b, b = isNullV d := ⟨_, rfl⟩
  rw [← hisn] at HISN HEN
  clear hde hisn
  obtain ⟨k, i, s, t, la, ll, lc, fa, fl, fc⟩ := c
  dsimp only [VC.v, vObj, Six] at hw1 HK HD HS HENV HISN SIX ⊢
  subst hw1
  go_enter Tryz.func3, Tryz.ntmps3
  go_upto_region 4 with (first
    | (go_at_call 9; refine (HK.out _ hb4).mono ?_; rintro e w9 ⟨rfl, hb9⟩; have hbz := HB1.out.trans ((hb4.trans (hb9.mono hb4.size)).mono HB1.out.size))
    | (go_at_call 9; refine (HK.out _ hb3).mono ?_; rintro e w9 ⟨rfl, hb9⟩; have hbz := HB1.out.trans ((hb3.trans (hb9.mono hb3.size)).mono HB1.out.size))
    | (go_at_call 9; refine (HK.out _ (Below.refl _ _)).mono ?_; rintro e w2 ⟨rfl, hb2⟩; obtain ⟨j0, j1, j2, j3, j4, j5⟩ := SIX.out _ hb2)
    | (go_at_call 10; refine (HD.out _ hb2).mono ?_; rintro e w3 ⟨⟨n1, rfl⟩, hb3'⟩; have hb3 := hb2.trans (hb3'.mono hb2.size); clear j0 j1 j2 j3 j4 j5; obtain ⟨k0, k1, k2, k3, k4, k5⟩ := SIX.out _ hb3; rcases Int.lt_or_le 12 n1 with hn1 | hn1)
    | (go_at_call 11; refine (HS.out _ hb3).mono ?_; rintro e w4 ⟨⟨n2, rfl⟩, hb4'⟩; have hb4 := hb3.trans (hb4'.mono hb3.size); clear k0 k1 k2 k3 k4 k5; obtain ⟨l0, l1, l2, l3, l4, l5⟩ := SIX.out _ hb4; rcases Int.lt_or_le 300 n2 with hn2 | hn2))
  · go_wp2
    go_ret
    exact ⟨rfl, hbz⟩
  · go_wp2
    go_ret
    exact ⟨rfl, hbz⟩
  cases isn with
  | true =>
    by_cases h18 : q = 18
    · have HSR := hid (HRB.out.trans (if_pos h18)); subst h18
      clear l0 l1 l2 l3 l4 l5
      obtain ⟨p0, p1, p2, p3, p4, p5⟩ := SIX.out _ (hb4.alloc hb4.size (.cells #[.int .i64 9, .int .i64 0, .int .i64 0, .string ⟨#[]⟩, .slice none 0 0, .slice none 0 0] 25))
      go_upto_region 10 with (first
        | (go_at_call 12; refine (HISN.out _).mono ?_; rintro e w5 ⟨rfl, hb5⟩; have hb5' := hb4.trans ((((Below.refl _ w4).alloc (Nat.le_refl _) (.cells #[.int .i64 9, .int .i64 0, .int .i64 0, .string ⟨#[]⟩, .slice none 0 0, .slice none 0 0] 25)).trans (hb5.mono (by simp))).mono hb4.size); have g5 := heapExt hb5 (heap_alloc_new w4 _); have G5 := hid g5; clear g5)
        | (go_at_call 13; refine (HDEC.out _).mono ?_; rintro e w6 ⟨rfl, hb6⟩))
      rw [HSR.out] at HREA
      have hbz : Below (w.alloc (.cells #[.int .i64 k, .int .i64 i, .int .i64 s, .string t, .slice la ll lc, .slice fa fl fc] 25)).heap.size (w.alloc (.cells #[.int .i64 k, .int .i64 i, .int .i64 s, .string t, .slice la ll lc, .slice fa fl fc] 25)) w6 := hb5'.trans (hb6.mono hb5'.size)
      have HE := hid (heapExt hb6 G5.out)
      have HC : Hid (∀ w', Below w6.heap.size w6 w' → Six w' w.heap.size ⟨k, i, s, t, la, ll, lc, fa, fl, fc⟩ ∧ Six w' w4.heap.size ⟨9, 0, 0, ⟨#[]⟩, none, 0, 0, none, 0, 0⟩) := hid fun w' h => ⟨SIX.out _ (hbz.trans (h.mono hbz.size)), sixOf (heapExt h HE.out)⟩
      have HEQ : Hid (∀ w' c' (P : Nat → Prop), Below w6.heap.size w6 w' → IsVal P w' c' de → (∀ b, P b → b < w'.heap.size) → Calls Tryz.prog 14 #[c'.v, .agg #[.int .i64 9, .int .i64 0, .int .i64 0, .string ⟨#[]⟩, .slice none 0 0, .slice none 0 0]] w' fun e w2 => e = .returned (.bool true) ∧ Below w'.heap.size w' w2) := hid fun w' c' P h hi hp => by
        skip
        have hq := valEqual_call c' ⟨9, 0, 0, ⟨#[]⟩, none, 0, 0, none, 0, 0⟩ de de w' (hi.same fun b q => ⟨hp b q, rfl⟩) (by
          rw [HEN.out]
          exact ⟨⟨rfl, rfl, rfl, rfl, okR _ _ _ (by omega) (by omega), rfl, rfl, rfl⟩, .inl rfl, .inl rfl⟩)
        rw [cmpV_refl] at hq
        exact hq
      dsimp only [Six] at HC
      clear HK HD HS HISN HDEC SIX HV  p0 p1 p2 p3 p4 p5
      refine wp_region_split 10 (fun w' => Below w6.heap.size w6 w') (by kernel_rfl) (by kernel_rfl) (by kernel_rfl) (by decide) ((Below.refl _ _).drew) (fun hS => ?_)
      simp only [List.take_succ_cons, List.take_zero, List.drop_succ_cons, List.drop_zero]
      refine wpAnyH_take (i := 0) (oi := _) (v := ?_) rfl (by kernel_rfl) (by kernel_rfl) (by kernel_rfl) (fun _ _ _ h => h) (Or.inl ⟨by rfl, ?_⟩) hS ?_
      rotate_left
      · intro w' hw'
        have hcells := HC.out w' hw'
        (try dsimp only [Six] at hcells); obtain ⟨⟨u0, u1, u2, u3, u4, u5⟩, v0, v1, v2, v3, v4, v5⟩ := hcells; go_simp
        (try with_reducible rfl)
      simp only [Act.put, List.getElem_toArray, List.getElem_cons_succ, List.getElem_cons_zero, List.setIfInBounds_toArray, List.set_cons_zero, List.set_cons_succ]
      refine wpAnyH_take (i := 2) (oi := _) (v := ?_) rfl (by kernel_rfl) (by kernel_rfl) (by kernel_rfl) (fun _ _ _ h => h) (Or.inl ⟨by rfl, ?_⟩) hS ?_
      rotate_left
      · intro w' hw'
        have hcells := HC.out w' hw'
        (try dsimp only [Six] at hcells); obtain ⟨⟨u0, u1, u2, u3, u4, u5⟩, v0, v1, v2, v3, v4, v5⟩ := hcells; go_simp
        (try with_reducible rfl)
      simp only [Act.put, List.getElem_toArray, List.getElem_cons_succ, List.getElem_cons_zero, List.setIfInBounds_toArray, List.set_cons_zero, List.set_cons_succ]
      refine wpAnyH_ready (rs := [1]) (by kernel_rfl) (by simp) ?_
      refine AllReadyH.cons (o := _) rfl (fun K hK => ?_) AllReadyH.nil
      go_simp; go_at_call 15; refine (HENV.out _ (hbz.trans (hS.mono hbz.size))).mono ?_
      rintro e w7 ⟨⟨k6, i6, s6, t6, la6, ll6, lc6, fa6, fl6, fc6⟩, rfl, hb7, hi7⟩
      (try dsimp only [VC.v])
      refine hK.out _ _ (hS.trans (hb7.mono hS.size)) (fun hS => ?_)
      clear hK K
      (try simp only [Act.put, List.getElem_toArray, List.getElem_cons_succ, List.getElem_cons_zero, List.setIfInBounds_toArray, List.set_cons_zero, List.set_cons_succ])
      refine wpAnyH_ready (rs := [3]) (by kernel_rfl) (by simp) ?_
      refine AllReadyH.cons (o := _) rfl (fun K hK => ?_) AllReadyH.nil
      go_simp; go_at_call 14; refine (HEQ.out _ _ _ hS hi7 (fun b q => q.2)).mono ?_
      rintro e w8 ⟨rfl, hb8⟩
      refine hK.out _ _ (hS.trans (hb8.mono hS.size)) (fun hS => ?_)
      clear hK K
      (try simp only [Act.put, List.getElem_toArray, List.getElem_cons_succ, List.getElem_cons_zero, List.setIfInBounds_toArray, List.set_cons_zero, List.set_cons_succ])
      refine wpAnyH_take (i := 4) (oi := _) (v := ?_) rfl (by kernel_rfl) (by kernel_rfl) (by kernel_rfl) (fun _ _ _ h => h) (Or.inl ⟨by rfl, ?_⟩) hS ?_
      rotate_left
      · intro w' hw'
        have hcells := HC.out w' hw'
        (try dsimp only [Six] at hcells); obtain ⟨⟨u0, u1, u2, u3, u4, u5⟩, v0, v1, v2, v3, v4, v5⟩ := hcells; go_simp
        (try with_reducible rfl)
      simp only [Act.put, List.getElem_toArray, List.getElem_cons_succ, List.getElem_cons_zero, List.setIfInBounds_toArray, List.set_cons_zero, List.set_cons_succ]
      refine wpAnyH_take (i := 5) (oi := _) (v := ?_) rfl (by kernel_rfl) (by kernel_rfl) (by kernel_rfl) (fun _ _ _ h => h) (Or.inl ⟨by rfl, ?_⟩) hS ?_
      rotate_left
      · intro w' hw'
        have hcells := HC.out w' hw'
        (try dsimp only [Six] at hcells); obtain ⟨⟨u0, u1, u2, u3, u4, u5⟩, v0, v1, v2, v3, v4, v5⟩ := hcells; go_simp
        (try with_reducible rfl)
      simp only [Act.put, List.getElem_toArray, List.getElem_cons_succ, List.getElem_cons_zero, List.setIfInBounds_toArray, List.set_cons_zero, List.set_cons_succ]
      refine wpAnyH_take (i := 7) (oi := _) (v := ?_) rfl (by kernel_rfl) (by kernel_rfl) (by kernel_rfl) (fun _ _ _ h => h) (Or.inl ⟨by rfl, ?_⟩) hS ?_
      rotate_left
      · intro w' hw'
        have hcells := HC.out w' hw'
        (try dsimp only [Six] at hcells); obtain ⟨⟨u0, u1, u2, u3, u4, u5⟩, v0, v1, v2, v3, v4, v5⟩ := hcells; go_simp
        (try with_reducible rfl)
      simp only [Act.put, List.getElem_toArray, List.getElem_cons_succ, List.getElem_cons_zero, List.setIfInBounds_toArray, List.set_cons_zero, List.set_cons_succ]
      refine wpAnyH_ready (rs := [6]) (by kernel_rfl) (by simp) ?_
      refine AllReadyH.cons (o := _) rfl (fun K hK => ?_) AllReadyH.nil
      go_simp; go_at_call 16; refine (HREA.out _ (hbz.trans (hS.mono hbz.size))).mono ?_
      rintro e w9 ⟨rfl, hb9⟩
      refine hK.out _ _ (hS.trans (hb9.mono hS.size)) (fun hS => ?_)
      clear hK K
      (try simp only [Act.put, List.getElem_toArray, List.getElem_cons_succ, List.getElem_cons_zero, List.setIfInBounds_toArray, List.set_cons_zero, List.set_cons_succ])
      refine wpAnyH_take (i := 8) (oi := _) (v := ?_) rfl (by kernel_rfl) (by kernel_rfl) (by kernel_rfl) (fun _ _ _ h => h) (Or.inl ⟨by rfl, ?_⟩) hS ?_
      rotate_left
      · intro w' hw'
        have hcells := HC.out w' hw'
        (try dsimp only [Six] at hcells); obtain ⟨⟨u0, u1, u2, u3, u4, u5⟩, v0, v1, v2, v3, v4, v5⟩ := hcells; go_simp
        (try with_reducible rfl)
      simp only [Act.put, List.getElem_toArray, List.getElem_cons_succ, List.getElem_cons_zero, List.setIfInBounds_toArray, List.set_cons_zero, List.set_cons_succ]
      refine wpAnyH_take (i := 9) (oi := _) (v := ?_) rfl (by kernel_rfl) (by kernel_rfl) (by kernel_rfl) (fun _ _ _ h => h) (Or.inl ⟨by rfl, ?_⟩) hS ?_
      rotate_left
      · intro w' hw'
        have hcells := HC.out w' hw'
        (try dsimp only [Six] at hcells); obtain ⟨⟨u0, u1, u2, u3, u4, u5⟩, v0, v1, v2, v3, v4, v5⟩ := hcells; go_simp
        (try with_reducible rfl)
      simp only [Act.put, List.getElem_toArray, List.getElem_cons_succ, List.getElem_cons_zero, List.setIfInBounds_toArray, List.set_cons_zero, List.set_cons_succ]
      refine wpAnyH_done (by kernel_rfl) ?_ _
      (try dsimp only)
      go_wp2
      go_ret
      exact ⟨rfl, HB1.out.trans ((hbz.trans (hS.mono hbz.size)).mono HB1.out.size)⟩
    · have HSR := hid (HRB.out.trans (if_neg h18))
      clear l0 l1 l2 l3 l4 l5
      obtain ⟨p0, p1, p2, p3, p4, p5⟩ := SIX.out _ (hb4.alloc hb4.size (.cells #[.int .i64 9, .int .i64 0, .int .i64 0, .string ⟨#[]⟩, .slice none 0 0, .slice none 0 0] 25))
      go_upto_region 10 with (first
        | (go_at_call 12; refine (HISN.out _).mono ?_; rintro e w5 ⟨rfl, hb5⟩; have hb5' := hb4.trans ((((Below.refl _ w4).alloc (Nat.le_refl _) (.cells #[.int .i64 9, .int .i64 0, .int .i64 0, .string ⟨#[]⟩, .slice none 0 0, .slice none 0 0] 25)).trans (hb5.mono (by simp))).mono hb4.size); have g5 := heapExt hb5 (heap_alloc_new w4 _); have G5 := hid g5; clear g5)
        | (go_at_call 13; refine (HDEC.out _).mono ?_; rintro e w6 ⟨rfl, hb6⟩))
      rw [HSR.out] at HREA
      have hbz : Below (w.alloc (.cells #[.int .i64 k, .int .i64 i, .int .i64 s, .string t, .slice la ll lc, .slice fa fl fc] 25)).heap.size (w.alloc (.cells #[.int .i64 k, .int .i64 i, .int .i64 s, .string t, .slice la ll lc, .slice fa fl fc] 25)) w6 := hb5'.trans (hb6.mono hb5'.size)
      have HE := hid (heapExt hb6 G5.out)
      have HC : Hid (∀ w', Below w6.heap.size w6 w' → Six w' w.heap.size ⟨k, i, s, t, la, ll, lc, fa, fl, fc⟩ ∧ Six w' w4.heap.size ⟨9, 0, 0, ⟨#[]⟩, none, 0, 0, none, 0, 0⟩) := hid fun w' h => ⟨SIX.out _ (hbz.trans (h.mono hbz.size)), sixOf (heapExt h HE.out)⟩
      have HEQ : Hid (∀ w' c' (P : Nat → Prop), Below w6.heap.size w6 w' → IsVal P w' c' de → (∀ b, P b → b < w'.heap.size) → Calls Tryz.prog 14 #[c'.v, .agg #[.int .i64 9, .int .i64 0, .int .i64 0, .string ⟨#[]⟩, .slice none 0 0, .slice none 0 0]] w' fun e w2 => e = .returned (.bool true) ∧ Below w'.heap.size w' w2) := hid fun w' c' P h hi hp => by
        skip
        have hq := valEqual_call c' ⟨9, 0, 0, ⟨#[]⟩, none, 0, 0, none, 0, 0⟩ de de w' (hi.same fun b q => ⟨hp b q, rfl⟩) (by
          rw [HEN.out]
          exact ⟨⟨rfl, rfl, rfl, rfl, okR _ _ _ (by omega) (by omega), rfl, rfl, rfl⟩, .inl rfl, .inl rfl⟩)
        rw [cmpV_refl] at hq
        exact hq
      dsimp only [Six] at HC
      clear HK HD HS HISN HDEC SIX HV  p0 p1 p2 p3 p4 p5
      refine wp_region_split 10 (fun w' => Below w6.heap.size w6 w') (by kernel_rfl) (by kernel_rfl) (by kernel_rfl) (by decide) ((Below.refl _ _).drew) (fun hS => ?_)
      simp only [List.take_succ_cons, List.take_zero, List.drop_succ_cons, List.drop_zero]
      refine wpAnyH_take (i := 0) (oi := _) (v := ?_) rfl (by kernel_rfl) (by kernel_rfl) (by kernel_rfl) (fun _ _ _ h => h) (Or.inl ⟨by rfl, ?_⟩) hS ?_
      rotate_left
      · intro w' hw'
        have hcells := HC.out w' hw'
        (try dsimp only [Six] at hcells); obtain ⟨⟨u0, u1, u2, u3, u4, u5⟩, v0, v1, v2, v3, v4, v5⟩ := hcells; go_simp
        (try with_reducible rfl)
      simp only [Act.put, List.getElem_toArray, List.getElem_cons_succ, List.getElem_cons_zero, List.setIfInBounds_toArray, List.set_cons_zero, List.set_cons_succ]
      refine wpAnyH_take (i := 2) (oi := _) (v := ?_) rfl (by kernel_rfl) (by kernel_rfl) (by kernel_rfl) (fun _ _ _ h => h) (Or.inl ⟨by rfl, ?_⟩) hS ?_
      rotate_left
      · intro w' hw'
        have hcells := HC.out w' hw'
        (try dsimp only [Six] at hcells); obtain ⟨⟨u0, u1, u2, u3, u4, u5⟩, v0, v1, v2, v3, v4, v5⟩ := hcells; go_simp
        (try with_reducible rfl)
      simp only [Act.put, List.getElem_toArray, List.getElem_cons_succ, List.getElem_cons_zero, List.setIfInBounds_toArray, List.set_cons_zero, List.set_cons_succ]
      refine wpAnyH_ready (rs := [1]) (by kernel_rfl) (by simp) ?_
      refine AllReadyH.cons (o := _) rfl (fun K hK => ?_) AllReadyH.nil
      go_simp; go_at_call 15; refine (HENV.out _ (hbz.trans (hS.mono hbz.size))).mono ?_
      rintro e w7 ⟨⟨k6, i6, s6, t6, la6, ll6, lc6, fa6, fl6, fc6⟩, rfl, hb7, hi7⟩
      (try dsimp only [VC.v])
      refine hK.out _ _ (hS.trans (hb7.mono hS.size)) (fun hS => ?_)
      clear hK K
      (try simp only [Act.put, List.getElem_toArray, List.getElem_cons_succ, List.getElem_cons_zero, List.setIfInBounds_toArray, List.set_cons_zero, List.set_cons_succ])
      refine wpAnyH_ready (rs := [3]) (by kernel_rfl) (by simp) ?_
      refine AllReadyH.cons (o := _) rfl (fun K hK => ?_) AllReadyH.nil
      go_simp; go_at_call 14; refine (HEQ.out _ _ _ hS hi7 (fun b q => q.2)).mono ?_
      rintro e w8 ⟨rfl, hb8⟩
      refine hK.out _ _ (hS.trans (hb8.mono hS.size)) (fun hS => ?_)
      clear hK K
      (try simp only [Act.put, List.getElem_toArray, List.getElem_cons_succ, List.getElem_cons_zero, List.setIfInBounds_toArray, List.set_cons_zero, List.set_cons_succ])
      refine wpAnyH_take (i := 4) (oi := _) (v := ?_) rfl (by kernel_rfl) (by kernel_rfl) (by kernel_rfl) (fun _ _ _ h => h) (Or.inl ⟨by rfl, ?_⟩) hS ?_
      rotate_left
      · intro w' hw'
        have hcells := HC.out w' hw'
        (try dsimp only [Six] at hcells); obtain ⟨⟨u0, u1, u2, u3, u4, u5⟩, v0, v1, v2, v3, v4, v5⟩ := hcells; go_simp
        (try with_reducible rfl)
      simp only [Act.put, List.getElem_toArray, List.getElem_cons_succ, List.getElem_cons_zero, List.setIfInBounds_toArray, List.set_cons_zero, List.set_cons_succ]
      refine wpAnyH_take (i := 5) (oi := _) (v := ?_) rfl (by kernel_rfl) (by kernel_rfl) (by kernel_rfl) (fun _ _ _ h => h) (Or.inl ⟨by rfl, ?_⟩) hS ?_
      rotate_left
      · intro w' hw'
        have hcells := HC.out w' hw'
        (try dsimp only [Six] at hcells); obtain ⟨⟨u0, u1, u2, u3, u4, u5⟩, v0, v1, v2, v3, v4, v5⟩ := hcells; go_simp
        (try with_reducible rfl)
      simp only [Act.put, List.getElem_toArray, List.getElem_cons_succ, List.getElem_cons_zero, List.setIfInBounds_toArray, List.set_cons_zero, List.set_cons_succ]
      refine wpAnyH_take (i := 7) (oi := _) (v := ?_) rfl (by kernel_rfl) (by kernel_rfl) (by kernel_rfl) (fun _ _ _ h => h) (Or.inl ⟨by rfl, ?_⟩) hS ?_
      rotate_left
      · intro w' hw'
        have hcells := HC.out w' hw'
        (try dsimp only [Six] at hcells); obtain ⟨⟨u0, u1, u2, u3, u4, u5⟩, v0, v1, v2, v3, v4, v5⟩ := hcells; go_simp
        (try with_reducible rfl)
      simp only [Act.put, List.getElem_toArray, List.getElem_cons_succ, List.getElem_cons_zero, List.setIfInBounds_toArray, List.set_cons_zero, List.set_cons_succ]
      refine wpAnyH_ready (rs := [6]) (by kernel_rfl) (by simp) ?_
      refine AllReadyH.cons (o := _) rfl (fun K hK => ?_) AllReadyH.nil
      go_simp; go_at_call 16; refine (HREA.out _ (hbz.trans (hS.mono hbz.size))).mono ?_
      rintro e w9 ⟨rfl, hb9⟩
      refine hK.out _ _ (hS.trans (hb9.mono hS.size)) (fun hS => ?_)
      clear hK K
      (try simp only [Act.put, List.getElem_toArray, List.getElem_cons_succ, List.getElem_cons_zero, List.setIfInBounds_toArray, List.set_cons_zero, List.set_cons_succ])
      refine wpAnyH_take (i := 8) (oi := _) (v := ?_) rfl (by kernel_rfl) (by kernel_rfl) (by kernel_rfl) (fun _ _ _ h => h) (Or.inl ⟨by rfl, ?_⟩) hS ?_
      rotate_left
      · intro w' hw'
        have hcells := HC.out w' hw'
        (try dsimp only [Six] at hcells); obtain ⟨⟨u0, u1, u2, u3, u4, u5⟩, v0, v1, v2, v3, v4, v5⟩ := hcells; go_simp
        (try with_reducible rfl)
      simp only [Act.put, List.getElem_toArray, List.getElem_cons_succ, List.getElem_cons_zero, List.setIfInBounds_toArray, List.set_cons_zero, List.set_cons_succ]
      refine wpAnyH_take (i := 9) (oi := _) (v := ?_) rfl (by kernel_rfl) (by kernel_rfl) (by kernel_rfl) (fun _ _ _ h => h) (Or.inl ⟨by rfl, ?_⟩) hS ?_
      rotate_left
      · intro w' hw'
        have hcells := HC.out w' hw'
        (try dsimp only [Six] at hcells); obtain ⟨⟨u0, u1, u2, u3, u4, u5⟩, v0, v1, v2, v3, v4, v5⟩ := hcells; go_simp
        (try with_reducible rfl)
      simp only [Act.put, List.getElem_toArray, List.getElem_cons_succ, List.getElem_cons_zero, List.setIfInBounds_toArray, List.set_cons_zero, List.set_cons_succ]
      refine wpAnyH_done (by kernel_rfl) ?_ _
      (try dsimp only)
      go_wp2
      go_ret
      exact ⟨rfl, HB1.out.trans ((hbz.trans (hS.mono hbz.size)).mono HB1.out.size)⟩
  | false =>
    by_cases h18 : q = 18
    · have HSR := hid (HRB.out.trans (if_pos h18)); subst h18
      clear l0 l1 l2 l3 l4 l5
      obtain ⟨p0, p1, p2, p3, p4, p5⟩ := SIX.out _ (hb4.alloc hb4.size (.cells #[.int .i64 9, .int .i64 0, .int .i64 0, .string ⟨#[]⟩, .slice none 0 0, .slice none 0 0] 25))
      go_upto_region 10 with (first
        | (go_at_call 12; refine (HISN.out _).mono ?_; rintro e w5 ⟨rfl, hb5⟩; have hb5' := hb4.trans ((((Below.refl _ w4).alloc (Nat.le_refl _) (.cells #[.int .i64 9, .int .i64 0, .int .i64 0, .string ⟨#[]⟩, .slice none 0 0, .slice none 0 0] 25)).trans (hb5.mono (by simp))).mono hb4.size); have g5 := heapExt hb5 (heap_alloc_new w4 _); have g6 := heapAlloc (.cells #[.string ⟨#[98, 111, 100, 121]⟩, .int .i64 k, .int .i64 i, .int .i64 s, .string t, .slice la ll lc, .slice fa fl fc] 30) g5; have z5 := cellOf g6 5; have zf5 := freeOf g6 5; (try dsimp only at z5); have G6 := hid g6; clear g5 g6 p0 p1 p2 p3 p4 p5; obtain ⟨m0, m1, m2, m3, m4, m5⟩ := SIX.out _ hb5')
        | (go_at_call 13; refine (HDEC.out _).mono ?_; rintro e w6 ⟨rfl, hb6⟩))
      rw [HSR.out] at HREA
      have hbs : Below (w.alloc (.cells #[.int .i64 k, .int .i64 i, .int .i64 s, .string t, .slice la ll lc, .slice fa fl fc] 25)).heap.size (w.alloc (.cells #[.int .i64 k, .int .i64 i, .int .i64 s, .string t, .slice la ll lc, .slice fa fl fc] 25)) ((w5.alloc (.cells #[.string ⟨#[98, 111, 100, 121]⟩, .int .i64 k, .int .i64 i, .int .i64 s, .string t, .slice la ll lc, .slice fa fl fc] 30)).setCell ⟨w4.heap.size, 5, none⟩ (.slice (some ⟨w5.heap.size, 0, none⟩) 1 1)) := (hb5'.alloc hb5'.size (.cells #[.string ⟨#[98, 111, 100, 121]⟩, .int .i64 k, .int .i64 i, .int .i64 s, .string t, .slice la ll lc, .slice fa fl fc] 30)).setCell (p := ⟨w4.heap.size, 5, none⟩) hb4.size _
      have hbz : Below (w.alloc (.cells #[.int .i64 k, .int .i64 i, .int .i64 s, .string t, .slice la ll lc, .slice fa fl fc] 25)).heap.size (w.alloc (.cells #[.int .i64 k, .int .i64 i, .int .i64 s, .string t, .slice la ll lc, .slice fa fl fc] 25)) w6 := hbs.trans (hb6.mono hbs.size)
      have hg6 := heapSet (o := 5) (.slice (some ⟨w5.heap.size, 0, none⟩) 1 1) G6.out
      simp only [List.setIfInBounds_toArray, List.set_cons_zero, List.set_cons_succ] at hg6
      have HE := hid (heapExt hb6 hg6)
      have hlt := ltOf G6.out
      have hb5s := hb5.size
      have hgf : ((w5.alloc (.cells #[.string ⟨#[98, 111, 100, 121]⟩, .int .i64 k, .int .i64 i, .int .i64 s, .string t, .slice la ll lc, .slice fa fl fc] 30)).setCell ⟨w4.heap.size, 5, none⟩ (.slice (some ⟨w5.heap.size, 0, none⟩) 1 1)).heap[w5.heap.size]? = some (.cells #[.string ⟨#[98, 111, 100, 121]⟩, .int .i64 k, .int .i64 i, .int .i64 s, .string t, .slice la ll lc, .slice fa fl fc] 30) := heapSetOther _ _ (heap_alloc_new w5 _) (by simp only [World.size_alloc] at hb5s; dsimp only; omega)
      have HF := hid (heapExt hb6 hgf)
      have HC : Hid (∀ w', Below w6.heap.size w6 w' → Six w' w.heap.size ⟨k, i, s, t, la, ll, lc, fa, fl, fc⟩ ∧ Six w' w4.heap.size ⟨9, 0, 0, ⟨#[]⟩, none, 0, 0, some ⟨w5.heap.size, 0, none⟩, 1, 1⟩) := hid fun w' h => ⟨SIX.out _ (hbz.trans (h.mono hbz.size)), sixOf (heapExt h HE.out)⟩
      have HEQ : Hid (∀ w' c' (P : Nat → Prop), Below w6.heap.size w6 w' → IsVal P w' c' de → (∀ b, P b → b < w'.heap.size) → Calls Tryz.prog 14 #[c'.v, .agg #[.int .i64 9, .int .i64 0, .int .i64 0, .string ⟨#[]⟩, .slice none 0 0, .slice (some ⟨w5.heap.size, 0, none⟩) 1 1]] w' fun e w2 => e = .returned (.bool true) ∧ Below w'.heap.size w' w2) := hid fun w' c' P h hi hp => by
        have gf := heapExt h HF.out
        have hq := valEqual_call c' ⟨9, 0, 0, ⟨#[]⟩, none, 0, 0, some ⟨w5.heap.size, 0, none⟩, 1, 1⟩ de de w' (hi.same fun b q => ⟨hp b q, rfl⟩) (by
          rw [HEN.out]
          exact ⟨⟨rfl, rfl, rfl, rfl, okR _ _ _ (by omega) (by omega), rfl, rfl, rfl⟩, .inl rfl, .inr ⟨w5.heap.size, 0, rfl, ltOf gf, ⟨⟨cellOf gf 0, by decide⟩, ⟨k, i, s, t, la, ll, lc, fa, fl, fc⟩, ⟨cellOf gf 1, cellOf gf 2, cellOf gf 3, cellOf gf 4, cellOf gf 5, cellOf gf 6⟩, HV.out w' (hbz.trans (h.mono hbz.size))⟩, trivial⟩⟩)
        rw [cmpV_refl] at hq
        exact hq
      dsimp only [Six] at HC
      clear HK HD HS HISN HDEC SIX HV  m0 m1 m2 m3 m4 m5 z5 zf5
      refine wp_region_split 10 (fun w' => Below w6.heap.size w6 w') (by kernel_rfl) (by kernel_rfl) (by kernel_rfl) (by decide) ((Below.refl _ _).drew) (fun hS => ?_)
      simp only [List.take_succ_cons, List.take_zero, List.drop_succ_cons, List.drop_zero]
      refine wpAnyH_take (i := 0) (oi := _) (v := ?_) rfl (by kernel_rfl) (by kernel_rfl) (by kernel_rfl) (fun _ _ _ h => h) (Or.inl ⟨by rfl, ?_⟩) hS ?_
      rotate_left
      · intro w' hw'
        have hcells := HC.out w' hw'
        (try dsimp only [Six] at hcells); obtain ⟨⟨u0, u1, u2, u3, u4, u5⟩, v0, v1, v2, v3, v4, v5⟩ := hcells; go_simp
        (try with_reducible rfl)
      simp only [Act.put, List.getElem_toArray, List.getElem_cons_succ, List.getElem_cons_zero, List.setIfInBounds_toArray, List.set_cons_zero, List.set_cons_succ]
      refine wpAnyH_take (i := 2) (oi := _) (v := ?_) rfl (by kernel_rfl) (by kernel_rfl) (by kernel_rfl) (fun _ _ _ h => h) (Or.inl ⟨by rfl, ?_⟩) hS ?_
      rotate_left
      · intro w' hw'
        have hcells := HC.out w' hw'
        (try dsimp only [Six] at hcells); obtain ⟨⟨u0, u1, u2, u3, u4, u5⟩, v0, v1, v2, v3, v4, v5⟩ := hcells; go_simp
        (try with_reducible rfl)
      simp only [Act.put, List.getElem_toArray, List.getElem_cons_succ, List.getElem_cons_zero, List.setIfInBounds_toArray, List.set_cons_zero, List.set_cons_succ]
      refine wpAnyH_ready (rs := [1]) (by kernel_rfl) (by simp) ?_
      refine AllReadyH.cons (o := _) rfl (fun K hK => ?_) AllReadyH.nil
      go_simp; go_at_call 15; refine (HENV.out _ (hbz.trans (hS.mono hbz.size))).mono ?_
      rintro e w7 ⟨⟨k6, i6, s6, t6, la6, ll6, lc6, fa6, fl6, fc6⟩, rfl, hb7, hi7⟩
      (try dsimp only [VC.v])
      refine hK.out _ _ (hS.trans (hb7.mono hS.size)) (fun hS => ?_)
      clear hK K
      (try simp only [Act.put, List.getElem_toArray, List.getElem_cons_succ, List.getElem_cons_zero, List.setIfInBounds_toArray, List.set_cons_zero, List.set_cons_succ])
      refine wpAnyH_ready (rs := [3]) (by kernel_rfl) (by simp) ?_
      refine AllReadyH.cons (o := _) rfl (fun K hK => ?_) AllReadyH.nil
      go_simp; go_at_call 14; refine (HEQ.out _ _ _ hS hi7 (fun b q => q.2)).mono ?_
      rintro e w8 ⟨rfl, hb8⟩
      refine hK.out _ _ (hS.trans (hb8.mono hS.size)) (fun hS => ?_)
      clear hK K
      (try simp only [Act.put, List.getElem_toArray, List.getElem_cons_succ, List.getElem_cons_zero, List.setIfInBounds_toArray, List.set_cons_zero, List.set_cons_succ])
      refine wpAnyH_take (i := 4) (oi := _) (v := ?_) rfl (by kernel_rfl) (by kernel_rfl) (by kernel_rfl) (fun _ _ _ h => h) (Or.inl ⟨by rfl, ?_⟩) hS ?_
      rotate_left
      · intro w' hw'
        have hcells := HC.out w' hw'
        (try dsimp only [Six] at hcells); obtain ⟨⟨u0, u1, u2, u3, u4, u5⟩, v0, v1, v2, v3, v4, v5⟩ := hcells; go_simp
        (try with_reducible rfl)
      simp only [Act.put, List.getElem_toArray, List.getElem_cons_succ, List.getElem_cons_zero, List.setIfInBounds_toArray, List.set_cons_zero, List.set_cons_succ]
      refine wpAnyH_take (i := 5) (oi := _) (v := ?_) rfl (by kernel_rfl) (by kernel_rfl) (by kernel_rfl) (fun _ _ _ h => h) (Or.inl ⟨by rfl, ?_⟩) hS ?_
      rotate_left
      · intro w' hw'
        have hcells := HC.out w' hw'
        (try dsimp only [Six] at hcells); obtain ⟨⟨u0, u1, u2, u3, u4, u5⟩, v0, v1, v2, v3, v4, v5⟩ := hcells; go_simp
        (try with_reducible rfl)
      simp only [Act.put, List.getElem_toArray, List.getElem_cons_succ, List.getElem_cons_zero, List.setIfInBounds_toArray, List.set_cons_zero, List.set_cons_succ]
      refine wpAnyH_take (i := 7) (oi := _) (v := ?_) rfl (by kernel_rfl) (by kernel_rfl) (by kernel_rfl) (fun _ _ _ h => h) (Or.inl ⟨by rfl, ?_⟩) hS ?_
      rotate_left
      · intro w' hw'
        have hcells := HC.out w' hw'
        (try dsimp only [Six] at hcells); obtain ⟨⟨u0, u1, u2, u3, u4, u5⟩, v0, v1, v2, v3, v4, v5⟩ := hcells; go_simp
        (try with_reducible rfl)
      simp only [Act.put, List.getElem_toArray, List.getElem_cons_succ, List.getElem_cons_zero, List.setIfInBounds_toArray, List.set_cons_zero, List.set_cons_succ]
      refine wpAnyH_ready (rs := [6]) (by kernel_rfl) (by simp) ?_
      refine AllReadyH.cons (o := _) rfl (fun K hK => ?_) AllReadyH.nil
      go_simp; go_at_call 16; refine (HREA.out _ (hbz.trans (hS.mono hbz.size))).mono ?_
      rintro e w9 ⟨rfl, hb9⟩
      refine hK.out _ _ (hS.trans (hb9.mono hS.size)) (fun hS => ?_)
      clear hK K
      (try simp only [Act.put, List.getElem_toArray, List.getElem_cons_succ, List.getElem_cons_zero, List.setIfInBounds_toArray, List.set_cons_zero, List.set_cons_succ])
      refine wpAnyH_take (i := 8) (oi := _) (v := ?_) rfl (by kernel_rfl) (by kernel_rfl) (by kernel_rfl) (fun _ _ _ h => h) (Or.inl ⟨by rfl, ?_⟩) hS ?_
      rotate_left
      · intro w' hw'
        have hcells := HC.out w' hw'
        (try dsimp only [Six] at hcells); obtain ⟨⟨u0, u1, u2, u3, u4, u5⟩, v0, v1, v2, v3, v4, v5⟩ := hcells; go_simp
        (try with_reducible rfl)
      simp only [Act.put, List.getElem_toArray, List.getElem_cons_succ, List.getElem_cons_zero, List.setIfInBounds_toArray, List.set_cons_zero, List.set_cons_succ]
      refine wpAnyH_take (i := 9) (oi := _) (v := ?_) rfl (by kernel_rfl) (by kernel_rfl) (by kernel_rfl) (fun _ _ _ h => h) (Or.inl ⟨by rfl, ?_⟩) hS ?_
      rotate_left
      · intro w' hw'
        have hcells := HC.out w' hw'
        (try dsimp only [Six] at hcells); obtain ⟨⟨u0, u1, u2, u3, u4, u5⟩, v0, v1, v2, v3, v4, v5⟩ := hcells; go_simp
        (try with_reducible rfl)
      simp only [Act.put, List.getElem_toArray, List.getElem_cons_succ, List.getElem_cons_zero, List.setIfInBounds_toArray, List.set_cons_zero, List.set_cons_succ]
      refine wpAnyH_done (by kernel_rfl) ?_ _
      (try dsimp only)
      go_wp2
      go_ret
      exact ⟨rfl, HB1.out.trans ((hbz.trans (hS.mono hbz.size)).mono HB1.out.size)⟩
    · have HSR := hid (HRB.out.trans (if_neg h18))
      clear l0 l1 l2 l3 l4 l5
      obtain ⟨p0, p1, p2, p3, p4, p5⟩ := SIX.out _ (hb4.alloc hb4.size (.cells #[.int .i64 9, .int .i64 0, .int .i64 0, .string ⟨#[]⟩, .slice none 0 0, .slice none 0 0] 25))
      go_upto_region 10 with (first
        | (go_at_call 12; refine (HISN.out _).mono ?_; rintro e w5 ⟨rfl, hb5⟩; have hb5' := hb4.trans ((((Below.refl _ w4).alloc (Nat.le_refl _) (.cells #[.int .i64 9, .int .i64 0, .int .i64 0, .string ⟨#[]⟩, .slice none 0 0, .slice none 0 0] 25)).trans (hb5.mono (by simp))).mono hb4.size); have g5 := heapExt hb5 (heap_alloc_new w4 _); have g6 := heapAlloc (.cells #[.string ⟨#[98, 111, 100, 121]⟩, .int .i64 k, .int .i64 i, .int .i64 s, .string t, .slice la ll lc, .slice fa fl fc] 30) g5; have z5 := cellOf g6 5; have zf5 := freeOf g6 5; (try dsimp only at z5); have G6 := hid g6; clear g5 g6 p0 p1 p2 p3 p4 p5; obtain ⟨m0, m1, m2, m3, m4, m5⟩ := SIX.out _ hb5')
        | (go_at_call 13; refine (HDEC.out _).mono ?_; rintro e w6 ⟨rfl, hb6⟩))
      rw [HSR.out] at HREA
      have hbs : Below (w.alloc (.cells #[.int .i64 k, .int .i64 i, .int .i64 s, .string t, .slice la ll lc, .slice fa fl fc] 25)).heap.size (w.alloc (.cells #[.int .i64 k, .int .i64 i, .int .i64 s, .string t, .slice la ll lc, .slice fa fl fc] 25)) ((w5.alloc (.cells #[.string ⟨#[98, 111, 100, 121]⟩, .int .i64 k, .int .i64 i, .int .i64 s, .string t, .slice la ll lc, .slice fa fl fc] 30)).setCell ⟨w4.heap.size, 5, none⟩ (.slice (some ⟨w5.heap.size, 0, none⟩) 1 1)) := (hb5'.alloc hb5'.size (.cells #[.string ⟨#[98, 111, 100, 121]⟩, .int .i64 k, .int .i64 i, .int .i64 s, .string t, .slice la ll lc, .slice fa fl fc] 30)).setCell (p := ⟨w4.heap.size, 5, none⟩) hb4.size _
      have hbz : Below (w.alloc (.cells #[.int .i64 k, .int .i64 i, .int .i64 s, .string t, .slice la ll lc, .slice fa fl fc] 25)).heap.size (w.alloc (.cells #[.int .i64 k, .int .i64 i, .int .i64 s, .string t, .slice la ll lc, .slice fa fl fc] 25)) w6 := hbs.trans (hb6.mono hbs.size)
      have hg6 := heapSet (o := 5) (.slice (some ⟨w5.heap.size, 0, none⟩) 1 1) G6.out
      simp only [List.setIfInBounds_toArray, List.set_cons_zero, List.set_cons_succ] at hg6
      have HE := hid (heapExt hb6 hg6)
      have hlt := ltOf G6.out
      have hb5s := hb5.size
      have hgf : ((w5.alloc (.cells #[.string ⟨#[98, 111, 100, 121]⟩, .int .i64 k, .int .i64 i, .int .i64 s, .string t, .slice la ll lc, .slice fa fl fc] 30)).setCell ⟨w4.heap.size, 5, none⟩ (.slice (some ⟨w5.heap.size, 0, none⟩) 1 1)).heap[w5.heap.size]? = some (.cells #[.string ⟨#[98, 111, 100, 121]⟩, .int .i64 k, .int .i64 i, .int .i64 s, .string t, .slice la ll lc, .slice fa fl fc] 30) := heapSetOther _ _ (heap_alloc_new w5 _) (by simp only [World.size_alloc] at hb5s; dsimp only; omega)
      have HF := hid (heapExt hb6 hgf)
      have HC : Hid (∀ w', Below w6.heap.size w6 w' → Six w' w.heap.size ⟨k, i, s, t, la, ll, lc, fa, fl, fc⟩ ∧ Six w' w4.heap.size ⟨9, 0, 0, ⟨#[]⟩, none, 0, 0, some ⟨w5.heap.size, 0, none⟩, 1, 1⟩) := hid fun w' h => ⟨SIX.out _ (hbz.trans (h.mono hbz.size)), sixOf (heapExt h HE.out)⟩
      have HEQ : Hid (∀ w' c' (P : Nat → Prop), Below w6.heap.size w6 w' → IsVal P w' c' de → (∀ b, P b → b < w'.heap.size) → Calls Tryz.prog 14 #[c'.v, .agg #[.int .i64 9, .int .i64 0, .int .i64 0, .string ⟨#[]⟩, .slice none 0 0, .slice (some ⟨w5.heap.size, 0, none⟩) 1 1]] w' fun e w2 => e = .returned (.bool true) ∧ Below w'.heap.size w' w2) := hid fun w' c' P h hi hp => by
        have gf := heapExt h HF.out
        have hq := valEqual_call c' ⟨9, 0, 0, ⟨#[]⟩, none, 0, 0, some ⟨w5.heap.size, 0, none⟩, 1, 1⟩ de de w' (hi.same fun b q => ⟨hp b q, rfl⟩) (by
          rw [HEN.out]
          exact ⟨⟨rfl, rfl, rfl, rfl, okR _ _ _ (by omega) (by omega), rfl, rfl, rfl⟩, .inl rfl, .inr ⟨w5.heap.size, 0, rfl, ltOf gf, ⟨⟨cellOf gf 0, by decide⟩, ⟨k, i, s, t, la, ll, lc, fa, fl, fc⟩, ⟨cellOf gf 1, cellOf gf 2, cellOf gf 3, cellOf gf 4, cellOf gf 5, cellOf gf 6⟩, HV.out w' (hbz.trans (h.mono hbz.size))⟩, trivial⟩⟩)
        rw [cmpV_refl] at hq
        exact hq
      dsimp only [Six] at HC
      clear HK HD HS HISN HDEC SIX HV  m0 m1 m2 m3 m4 m5 z5 zf5
      refine wp_region_split 10 (fun w' => Below w6.heap.size w6 w') (by kernel_rfl) (by kernel_rfl) (by kernel_rfl) (by decide) ((Below.refl _ _).drew) (fun hS => ?_)
      simp only [List.take_succ_cons, List.take_zero, List.drop_succ_cons, List.drop_zero]
      refine wpAnyH_take (i := 0) (oi := _) (v := ?_) rfl (by kernel_rfl) (by kernel_rfl) (by kernel_rfl) (fun _ _ _ h => h) (Or.inl ⟨by rfl, ?_⟩) hS ?_
      rotate_left
      · intro w' hw'
        have hcells := HC.out w' hw'
        (try dsimp only [Six] at hcells); obtain ⟨⟨u0, u1, u2, u3, u4, u5⟩, v0, v1, v2, v3, v4, v5⟩ := hcells; go_simp
        (try with_reducible rfl)
      simp only [Act.put, List.getElem_toArray, List.getElem_cons_succ, List.getElem_cons_zero, List.setIfInBounds_toArray, List.set_cons_zero, List.set_cons_succ]
      refine wpAnyH_take (i := 2) (oi := _) (v := ?_) rfl (by kernel_rfl) (by kernel_rfl) (by kernel_rfl) (fun _ _ _ h => h) (Or.inl ⟨by rfl, ?_⟩) hS ?_
      rotate_left
      · intro w' hw'
        have hcells := HC.out w' hw'
        (try dsimp only [Six] at hcells); obtain ⟨⟨u0, u1, u2, u3, u4, u5⟩, v0, v1, v2, v3, v4, v5⟩ := hcells; go_simp
        (try with_reducible rfl)
      simp only [Act.put, List.getElem_toArray, List.getElem_cons_succ, List.getElem_cons_zero, List.setIfInBounds_toArray, List.set_cons_zero, List.set_cons_succ]
      refine wpAnyH_ready (rs := [1]) (by kernel_rfl) (by simp) ?_
      refine AllReadyH.cons (o := _) rfl (fun K hK => ?_) AllReadyH.nil
      go_simp; go_at_call 15; refine (HENV.out _ (hbz.trans (hS.mono hbz.size))).mono ?_
      rintro e w7 ⟨⟨k6, i6, s6, t6, la6, ll6, lc6, fa6, fl6, fc6⟩, rfl, hb7, hi7⟩
      (try dsimp only [VC.v])
      refine hK.out _ _ (hS.trans (hb7.mono hS.size)) (fun hS => ?_)
      clear hK K
      (try simp only [Act.put, List.getElem_toArray, List.getElem_cons_succ, List.getElem_cons_zero, List.setIfInBounds_toArray, List.set_cons_zero, List.set_cons_succ])
      refine wpAnyH_ready (rs := [3]) (by kernel_rfl) (by simp) ?_
      refine AllReadyH.cons (o := _) rfl (fun K hK => ?_) AllReadyH.nil
      go_simp; go_at_call 14; refine (HEQ.out _ _ _ hS hi7 (fun b q => q.2)).mono ?_
      rintro e w8 ⟨rfl, hb8⟩
      refine hK.out _ _ (hS.trans (hb8.mono hS.size)) (fun hS => ?_)
      clear hK K
      (try simp only [Act.put, List.getElem_toArray, List.getElem_cons_succ, List.getElem_cons_zero, List.setIfInBounds_toArray, List.set_cons_zero, List.set_cons_succ])
      refine wpAnyH_take (i := 4) (oi := _) (v := ?_) rfl (by kernel_rfl) (by kernel_rfl) (by kernel_rfl) (fun _ _ _ h => h) (Or.inl ⟨by rfl, ?_⟩) hS ?_
      rotate_left
      · intro w' hw'
        have hcells := HC.out w' hw'
        (try dsimp only [Six] at hcells); obtain ⟨⟨u0, u1, u2, u3, u4, u5⟩, v0, v1, v2, v3, v4, v5⟩ := hcells; go_simp
        (try with_reducible rfl)
      simp only [Act.put, List.getElem_toArray, List.getElem_cons_succ, List.getElem_cons_zero, List.setIfInBounds_toArray, List.set_cons_zero, List.set_cons_succ]
      refine wpAnyH_take (i := 5) (oi := _) (v := ?_) rfl (by kernel_rfl) (by kernel_rfl) (by kernel_rfl) (fun _ _ _ h => h) (Or.inl ⟨by rfl, ?_⟩) hS ?_
      rotate_left
      · intro w' hw'
        have hcells := HC.out w' hw'
        (try dsimp only [Six] at hcells); obtain ⟨⟨u0, u1, u2, u3, u4, u5⟩, v0, v1, v2, v3, v4, v5⟩ := hcells; go_simp
        (try with_reducible rfl)
      simp only [Act.put, List.getElem_toArray, List.getElem_cons_succ, List.getElem_cons_zero, List.setIfInBounds_toArray, List.set_cons_zero, List.set_cons_succ]
      refine wpAnyH_take (i := 7) (oi := _) (v := ?_) rfl (by kernel_rfl) (by kernel_rfl) (by kernel_rfl) (fun _ _ _ h => h) (Or.inl ⟨by rfl, ?_⟩) hS ?_
      rotate_left
      · intro w' hw'
        have hcells := HC.out w' hw'
        (try dsimp only [Six] at hcells); obtain ⟨⟨u0, u1, u2, u3, u4, u5⟩, v0, v1, v2, v3, v4, v5⟩ := hcells; go_simp
        (try with_reducible rfl)
      simp only [Act.put, List.getElem_toArray, List.getElem_cons_succ, List.getElem_cons_zero, List.setIfInBounds_toArray, List.set_cons_zero, List.set_cons_succ]
      refine wpAnyH_ready (rs := [6]) (by kernel_rfl) (by simp) ?_
      refine AllReadyH.cons (o := _) rfl (fun K hK => ?_) AllReadyH.nil
      go_simp; go_at_call 16; refine (HREA.out _ (hbz.trans (hS.mono hbz.size))).mono ?_
      rintro e w9 ⟨rfl, hb9⟩
      refine hK.out _ _ (hS.trans (hb9.mono hS.size)) (fun hS => ?_)
      clear hK K
      (try simp only [Act.put, List.getElem_toArray, List.getElem_cons_succ, List.getElem_cons_zero, List.setIfInBounds_toArray, List.set_cons_zero, List.set_cons_succ])
      refine wpAnyH_take (i := 8) (oi := _) (v := ?_) rfl (by kernel_rfl) (by kernel_rfl) (by kernel_rfl) (fun _ _ _ h => h) (Or.inl ⟨by rfl, ?_⟩) hS ?_
      rotate_left
      · intro w' hw'
        have hcells := HC.out w' hw'
        (try dsimp only [Six] at hcells); obtain ⟨⟨u0, u1, u2, u3, u4, u5⟩, v0, v1, v2, v3, v4, v5⟩ := hcells; go_simp
        (try with_reducible rfl)
      simp only [Act.put, List.getElem_toArray, List.getElem_cons_succ, List.getElem_cons_zero, List.setIfInBounds_toArray, List.set_cons_zero, List.set_cons_succ]
      refine wpAnyH_take (i := 9) (oi := _) (v := ?_) rfl (by kernel_rfl) (by kernel_rfl) (by kernel_rfl) (fun _ _ _ h => h) (Or.inl ⟨by rfl, ?_⟩) hS ?_
      rotate_left
      · intro w' hw'
        have hcells := HC.out w' hw'
        (try dsimp only [Six] at hcells); obtain ⟨⟨u0, u1, u2, u3, u4, u5⟩, v0, v1, v2, v3, v4, v5⟩ := hcells; go_simp
        (try with_reducible rfl)
      simp only [Act.put, List.getElem_toArray, List.getElem_cons_succ, List.getElem_cons_zero, List.setIfInBounds_toArray, List.set_cons_zero, List.set_cons_succ]
      refine wpAnyH_done (by kernel_rfl) ?_ _
      (try dsimp only)
      go_wp2
      go_ret
      exact ⟨rfl, HB1.out.trans ((hbz.trans (hS.mono hbz.size)).mono HB1.out.size)⟩

end Go.Proofs.YtcejackabdmpkaaGreatDoor
