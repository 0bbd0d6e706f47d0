/-
  manifoldlaw50.EngineArrivals returns true for every version and every text. Conditions: the version is an int; the length fits; Tabs; the variables that Atoi and Cut read.
-/
import Derived.Test.YtkljbfaemahchaaGreatDoorFldMrg
import Derived.Lib.MinMax
namespace Go.Proofs.YtkljbfaemahchaaGreatDoor
open Go Go.RowKit Go.Shelf
set_option linter.unusedVariables false
set_option linter.unusedSimpArgs false
attribute [local go_sem ↓] Go.wp_at_zero Go.wp_at_succ

theorem pArr2_call (s : ByteArray) (hs : s.size ≤ 100000) (w : World) (hT : Tabs w) (hN : NumVars w) :
    Calls Tryz.prog 16 #[.string s] w fun e w' => e = .returned (.tuple #[.int .i64 ((lArr s.data.toList).1 : Int), .string ⟨(lArr s.data.toList).2.toArray⟩]) ∧ Below w.heap.size w w' := by
  have h := pArr_call s hs w hT hN
  rw [arr_eq] at h
  exact h
theorem arr_text (n : Nat) (h1 : 1 ≤ n) (h2 : n ≤ 999) (d : ByteArray) : eArr (itoaB (n : Int) ++ ⟨#[10]⟩ ++ d).data.toList = ((n : Int), d.data.toList) := by
  rw [show (itoaB (n : Int) ++ ⟨#[10]⟩ ++ d).data.toList = Lib.decDigits n ++ 10 :: d.data.toList by simp [itoaB, Lib.itoa_nonneg, ByteArray.data_append]]
  exact arr_of n h1 h2 _

set_option maxRecDepth 100000 in
set_option maxHeartbeats 8000000 in
theorem arrivals_ok (n : Nat) (h1 : 1 ≤ n) (h2 : n ≤ 999) (s : ByteArray) (w : World) (hT : Tabs w) (hN : NumVars w) :
    Calls Tryz.prog 3 #[.int .i64 (n : Int), .string s] w fun e w' => e = .returned (.bool true) ∧ Below w.heap.size w w' := by
  obtain ⟨m, hm⟩ : ∃ m : Nat, m = min s.size 300 := ⟨_, rfl⟩
  have emin : min (s.size : Int) 300 = (m : Int) := by omega
  have hms : m ≤ s.size := by omega
  have hms' : (m : Int) ≤ (s.size : Int) := by omega
  have hm0 : (0 : Int) ≤ (m : Int) := by omega
  have HK := hid (known50_call w hT hN)
  obtain ⟨t, ht⟩ : ∃ t, s.extract 0 m = t := ⟨_, rfl⟩
  have htz : t.size ≤ 300 := by rw [← ht, ByteArray.size_extract]; omega
  have q1 : ¬ (n : Int) < 1 := by omega
  have q2 : ¬ (999 : Int) < (n : Int) := by omega
  obtain ⟨ic, hic⟩ : ∃ ic, ic = itoaB (n : Int) := ⟨_, rfl⟩
  have hiz : ic.size ≤ 21 := by rw [hic]; exact itoaB_size (n : Int) ⟨by omega, by omega⟩
  obtain ⟨x, hx⟩ : ∃ x, x = (lArr t.data.toList).1 := ⟨_, rfl⟩
  obtain ⟨y, hy⟩ : ∃ y : ByteArray, y = ⟨(lArr t.data.toList).2.toArray⟩ := ⟨_, rfl⟩
  have HP := hid (fun w hT hN => pArr2_call t (by omega) w hT hN)
  have HL := hid (fun w hN => lArr_call t (by omega) w hN)
  rw [← hx, ← hy] at HP HL
  have HA := hid (fun w hT => arrT_ok n h1 h2 t (by omega) w hT)
  have hU := fun w hT hN => pArr_call (itoaB (n : Int) ++ ⟨#[10]⟩ ++ t) (by rw [ByteArray.size_append, ByteArray.size_append, ← hic]; have : (⟨#[10]⟩ : ByteArray).size = 1 := rfl; omega) w hT hN
  have e1 := arr_text n h1 h2 t
  simp only [e1] at hU
  rw [bOfList] at hU
  have HU := hid hU
  have HD := hid (fun w => eDec_call n (by omega) w)
  rw [← decB_itoa] at HD
  rw [← hic] at HA HU HD
  have s1 : ic.size + 1 ≤ 9223372036854775807 := by omega
  have s2 : ic.size + 1 + t.size ≤ 9223372036854775807 := by omega
  have g1 : (9223372036854775807 < ic.size + 1) = False := eq_false (by omega)
  have g2 : (9223372036854775807 < ic.size + 1 + t.size) = False := eq_false (by omega)
  have HT := hid hT
  have HN := hid hN
  clear hm hms htz h1 h2 hic hiz hx hy hU e1 hT hN
  go_enter Tryz.func3, Tryz.ntmps3
  go_wp2_with (first
    | (go_at_call 19; refine (HD.out _).mono ?_; rintro e w6 ⟨rfl, hb6⟩)
    | (go_at_call 16; refine (HU.out w4 (HT.out.below HB4.out) (HN.out.below HB4.out)).mono ?_; rintro e w5 ⟨rfl, hb5⟩; have HB5 := hid (HB4.out.trans (hb5.mono HB4.out.size)); clear hb5)
    | (go_at_call 18; refine (HA.out w3 (HT.out.below HB3.out)).mono ?_; rintro e w4 ⟨rfl, hb4⟩; have HB4 := hid (HB3.out.trans (hb4.mono HB3.out.size)); clear hb4)
    | (go_at_call 17; refine (HL.out w2 (HN.out.below HB2.out)).mono ?_; rintro e w3 ⟨rfl, hb3⟩; have HB3 := hid (HB2.out.trans (hb3.mono HB2.out.size)); clear hb3)
    | (go_at_call 16; refine (HP.out w1 (HT.out.below HB1.out) (HN.out.below HB1.out)).mono ?_; rintro e w2 ⟨rfl, hb2⟩; have HB2 := hid (HB1.out.trans (hb2.mono HB1.out.size)); clear hb2)
    | (go_at_call 15; refine HK.out.mono ?_; rintro e w1 ⟨rfl, hb1⟩; have HB1 := hid hb1; clear hb1))
  go_ret
  exact ⟨rfl, HB5.out.trans (hb6.mono HB5.out.size)⟩

set_option maxRecDepth 100000 in
set_option maxHeartbeats 8000000 in
theorem arrivals_bad (v : Int) (hv : v < 1 ∨ 999 < v) (s : ByteArray) (w : World) (hT : Tabs w) (hN : NumVars w) :
    Calls Tryz.prog 3 #[.int .i64 v, .string s] w fun e w' => e = .returned (.bool true) ∧ Below w.heap.size w w' := by
  obtain ⟨m, hm⟩ : ∃ m : Nat, m = min s.size 300 := ⟨_, rfl⟩
  have emin : min (s.size : Int) 300 = (m : Int) := by omega
  have hms : m ≤ s.size := by omega
  have hms' : (m : Int) ≤ (s.size : Int) := by omega
  have hm0 : (0 : Int) ≤ (m : Int) := by omega
  have HK := hid (known50_call w hT hN)
  obtain ⟨t, ht⟩ : ∃ t, s.extract 0 m = t := ⟨_, rfl⟩
  have htz : t.size ≤ 300 := by rw [← ht, ByteArray.size_extract]; omega
  obtain ⟨x, hx⟩ : ∃ x, x = (lArr t.data.toList).1 := ⟨_, rfl⟩
  obtain ⟨y, hy⟩ : ∃ y : ByteArray, y = ⟨(lArr t.data.toList).2.toArray⟩ := ⟨_, rfl⟩
  have HP := hid (fun w hT hN => pArr2_call t (by omega) w hT hN)
  have HL := hid (fun w hN => lArr_call t (by omega) w hN)
  rw [← hx, ← hy] at HP HL
  have HA := hid (fun w => arrT_bad v hv t w)
  have HT := hid hT
  have HN := hid hN
  have hcase : v < 1 ∨ (¬ v < 1 ∧ 999 < v) := by omega
  clear hm hms htz hx hy hT hN hv
  rcases hcase with q1 | ⟨q1, q2⟩
  all_goals go_enter Tryz.func3, Tryz.ntmps3
  all_goals go_wp2_with (first
    | (go_at_call 18; refine (HA.out w3).mono ?_; rintro e w4 ⟨rfl, hb4⟩; have HB4 := hid (HB3.out.trans (hb4.mono HB3.out.size)); clear hb4)
    | (go_at_call 17; refine (HL.out w2 (HN.out.below HB2.out)).mono ?_; rintro e w3 ⟨rfl, hb3⟩; have HB3 := hid (HB2.out.trans (hb3.mono HB2.out.size)); clear hb3)
    | (go_at_call 16; refine (HP.out w1 (HT.out.below HB1.out) (HN.out.below HB1.out)).mono ?_; rintro e w2 ⟨rfl, hb2⟩; have HB2 := hid (HB1.out.trans (hb2.mono HB1.out.size)); clear hb2)
    | (go_at_call 15; refine HK.out.mono ?_; rintro e w1 ⟨rfl, hb1⟩; have HB1 := hid hb1; clear hb1))
  all_goals go_ret
  all_goals exact ⟨rfl, HB4.out⟩
theorem arrivals_call (v : Int) (hv : I64 v) (s : ByteArray) (w : World) (hT : Tabs w) (hN : NumVars w) :
    Calls Tryz.prog 3 #[.int .i64 v, .string s] w fun e w' => e = .returned (.bool true) ∧ Below w.heap.size w w' := by
  by_cases h : v < 1 ∨ 999 < v
  · exact arrivals_bad v h s w hT hN
  · obtain ⟨n, rfl⟩ : ∃ n : Nat, v = (n : Int) := ⟨v.toNat, by omega⟩
    exact arrivals_ok n (by omega) (by omega) s w hT hN
end Go.Proofs.YtkljbfaemahchaaGreatDoor
