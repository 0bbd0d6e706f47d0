/-
  value.IsName says whether a string is a name. Condition: the string's size is within the reach.
-/
import Derived.Test.YthjlgpmajeafpaaGreatDoorStampMrg
import Derived.Test.YthjlgpmajeafpaaGreatDoorProg
import Derived.WalkKit
import Derived.WalkLawsBesides
import Derived.WalkSpells
import Derived.Outline
import Derived.BigQuiet
import Derived.Deep.QuietTactic
import Derived.Deep.RegionHeld3
import Derived.Deep.DrawnRows
import Derived.Test.YthjlgpmajeafpaaGreatDoorShelf
import Derived.Test.YthjlgpmajeafpaaGreatDoorShelf2
import Derived.Test.YthjlgpmajeafpaaGreatDoorSizeMrg
import Derived.Laws.EntriesVeiled
namespace Go.Proofs.YthjlgpmajeafpaaGreatDoor
open Go Go.RowKit
set_option linter.unusedVariables false
set_option linter.unusedSimpArgs false

def nmC (n : Nat) : Bool := (decide (97 ≤ n) && decide (n ≤ 122)) || ((decide (48 ≤ n) && decide (n ≤ 57)) || n == 95)
def isNameL : List UInt8 → Bool
  | [] => false
  | c :: r => decide ((c :: r).length ≤ 32) && ((decide (97 ≤ c.toNat) && decide (c.toNat ≤ 122)) && (c :: r).all (fun b => nmC b.toNat))
def isNameB (s : ByteArray) : Bool := isNameL s.data.toList

theorem blen (s : ByteArray) : s.data.toList.length = s.size := Array.length_toList
theorem bget (s : ByteArray) (k : Nat) (h : k < s.size) : s.data.toList[k]'(by rw [blen]; exact h) = s[k] := by rw [Array.getElem_toList]; rfl
theorem bhead {s : ByteArray} {c : UInt8} {r : List UInt8} (hl : s.data.toList = c :: r) (h0 : 0 < s.size) : s[0] = c := by
  rw [← bget s 0 h0]; simp only [hl, List.getElem_cons_zero]
theorem isNameB_empty {s : ByteArray} (h : s.toList = []) : isNameB s = false := by
  rw [ByteArray.toList_eq] at h; simp [isNameB, isNameL, h]
theorem isNameB_big {s : ByteArray} (h : 32 < s.size) : isNameB s = false := by
  unfold isNameB
  have : s.data.toList.length = s.size := blen s
  cases hl : s.data.toList with
  | nil => rfl
  | cons c r => rw [hl] at this; simp [isNameL]; intro h1; simp at this; omega
theorem isNameB_first {s : ByteArray} (h0 : 0 < s.size) (h : s[0].toNat < 97 ∨ 122 < s[0].toNat) : isNameB s = false := by
  unfold isNameB
  cases hl : s.data.toList with
  | nil => rfl
  | cons c r =>
    have e : s[0] = c := bhead hl h0
    rw [e] at h
    simp [isNameL]; intro _ h1 h2; omega
theorem isNameB_bad {s : ByteArray} (k : Nat) (hk : k < s.size) (h : nmC s[k].toNat = false) : isNameB s = false := by
  unfold isNameB
  have hm : s[k] ∈ s.data.toList := by
    rw [← bget s k hk]; exact List.getElem_mem _
  cases hl : s.data.toList with
  | nil => rfl
  | cons c r =>
    have : (c :: r).all (fun b => nmC b.toNat) = false := by
      rw [List.all_eq_false]
      exact ⟨s[k], by rw [← hl]; exact hm, by simp [h]⟩
    simp only [isNameL, this, Bool.and_false]
theorem isNameB_good {s : ByteArray} (h0 : 0 < s.size) (h32 : s.size ≤ 32) (h1 : 97 ≤ s[0].toNat) (h2 : s[0].toNat ≤ 122) (hall : ∀ k (hk : k < s.size), nmC s[k].toNat = true) : isNameB s = true := by
  unfold isNameB
  have hlen : s.data.toList.length = s.size := blen s
  cases hl : s.data.toList with
  | nil => rw [hl] at hlen; simp at hlen; omega
  | cons c r =>
    have e : s[0] = c := bhead hl h0
    have ha : (c :: r).all (fun b => nmC b.toNat) = true := by
      rw [List.all_eq_true]
      intro x hx
      rw [← hl] at hx
      obtain ⟨k, hk, rfl⟩ := List.getElem_of_mem hx
      rw [bget s k (by rw [← hlen]; exact hk)]
      exact hall k (by rw [← hlen]; exact hk)
    rw [e] at h1 h2
    rw [hl] at hlen
    rw [isNameL, ha]
    simp only [List.length_cons] at hlen ⊢
    simp; omega

theorem bytesRow_cell {w : World} {B : Nat} {s : ByteArray} {cap : Nat} {t : TypeId} {fr : Nat × Nat} (h : w.heap[B]? = some (.cells (bytesRow s cap) t fr)) (k : Nat) (hk : k < s.size) : w.cell? ⟨B, k, none⟩ = some (.int .u8 (s[k].toNat : Nat)) := by
  rw [cellOf h k]
  unfold bytesRow
  have hk' : k < s.data.size := hk
  rw [Array.getElem?_append_left (by rw [Array.size_map]; exact hk'), Array.getElem?_map, Array.getElem?_eq_getElem hk']
  rfl

set_option maxRecDepth 100000 in
set_option maxHeartbeats 2000000 in
theorem isName_call (s : ByteArray) (w : World) (hs : s.size ≤ 140737488351232) :
    Calls Tryz.prog 156 #[.string s] w fun e w' => e = .returned (.bool (isNameB s)) ∧ Below w.heap.size w w' := by
  have hcv := fun w s => run_bytes_of_string (P := Tryz.prog) w 9 153 5 s Tryz.underlying9 Tryz.underlying153 Tryz.underlying5
  by_cases he : s.toList = []
  · have HR := hid (isNameB_empty he)
    go_enter Tryz.func156, Tryz.ntmps156
    go_wp2
    go_ret
    exact ⟨retB HR.out.symm, Below.refl _ w⟩
  · by_cases hb : 32 < s.size
    · have HR := hid (isNameB_big hb)
      have hb' : (32 : Int) < (s.size : Int) := by omega
      go_enter Tryz.func156, Tryz.ntmps156
      go_wp2
      go_ret
      exact ⟨retB HR.out.symm, Below.refl _ w⟩
    · have h0 : 0 < s.size := by
        rcases Nat.eq_zero_or_pos s.size with h | h
        · exfalso; apply he; rw [ByteArray.toList_eq]; exact List.eq_nil_of_length_eq_zero (by rw [blen]; exact h)
        · exact h
      have hb' : (s.size : Int) ≤ 32 := by omega
      by_cases hf : s[0].toNat < 97 ∨ 122 < s[0].toNat
      · have HR := hid (isNameB_first h0 hf)
        rcases hf with hf | hf
        · have hf' : (s[0].toNat : Int) < 97 := by omega
          go_enter Tryz.func156, Tryz.ntmps156
          go_wp2
          go_ret
          exact ⟨retB HR.out.symm, Below.refl _ w⟩
        · have hf' : (122 : Int) < (s[0].toNat : Int) := by omega
          have hf'' : (97 : Int) ≤ (s[0].toNat : Int) := by omega
          go_enter Tryz.func156, Tryz.ntmps156
          go_wp2
          go_ret
          exact ⟨retB HR.out.symm, Below.refl _ w⟩
      · have hf1 : (97 : Int) ≤ (s[0].toNat : Int) := by omega
        have hf2 : (s[0].toNat : Int) ≤ 122 := by omega
        have hemp : s.toList.isEmpty = false := by cases hh : s.toList with | nil => exact absurd hh he | cons _ _ => rfl
        have hh1 : 97 ≤ s[0].toNat := by omega
        have hh2 : s[0].toNat ≤ 122 := by omega
        have HG := hid (fun hall => isNameB_good h0 (by omega) hh1 hh2 hall)
        clear hf he hh1 hh2
        obtain ⟨cap, hcap⟩ : ∃ cap, cap = grownCap w s.size 0 5 := ⟨_, rfl⟩
        have hcv1 := hcv w s
        rw [← hcap] at hcv1
        clear hcv hcap
        go_enter Tryz.func156, Tryz.ntmps156
        go_wp2
        clear hcv1
        obtain ⟨wo, hwo⟩ : ∃ wo, wo = (w.alloc (.cells (bytesRow s cap) 5 ((bytesRow s cap).size, (bytesRow s cap).size + 1))).drew := ⟨_, rfl⟩
        have hblk : wo.heap[w.heap.size]? = some (.cells (bytesRow s cap) 5 ((bytesRow s cap).size, (bytesRow s cap).size + 1)) := by rw [hwo]; exact heap_alloc_new w _
        have hbel : Below w.heap.size w wo := by rw [hwo]; exact ((Below.refl _ w).alloc (Nat.le_refl _) _).drew
        rw [← hwo]
        clear hwo
        go_loop [25] (fun i => ∃ k : Nat, k ≤ s.size ∧ i = .int .i64 k ∧ ∀ j (hj : j < s.size), j < k → nmC s[j].toNat = true) (fun i => s.size - (intOf i).toNat)
        case atStart => exact ⟨0, Nat.zero_le _, rfl, fun j _ h => absurd h (Nat.not_lt_zero _)⟩
        case round =>
          obtain ⟨k, hk, rfl, hall⟩ := hrel
          have HA := hid hall; clear hall
          by_cases hlt : k < s.size
          · have hcell := bytesRow_cell hblk k hlt
            have HB := hid hblk; clear hblk
            obtain ⟨c, hc⟩ : ∃ c, c = s[k].toNat := ⟨_, rfl⟩
            rw [← hc] at hcell
            have HC := hid hc; clear hc
            have hlt' : (k : Int) < (s.size : Int) := by omega
            have good : nmC c = true → ∀ j (hj : j < s.size), j < k + 1 → nmC s[j].toNat = true := fun hg j hj hjk => by
              by_cases h : j = k
              · subst h; rw [← HC.out]; exact hg
              · exact HA.out j hj (by omega)
            have bad : nmC c = false → isNameB s = false := fun hg => isNameB_bad k hlt (by rw [← HC.out]; exact hg)
            have HGood := hid good; clear good
            have HBad := hid bad; clear bad
            have h7 : c < 48 ∨ (48 ≤ c ∧ c ≤ 57) ∨ (57 < c ∧ c < 95) ∨ c = 95 ∨ (95 < c ∧ c < 97) ∨ (97 ≤ c ∧ c ≤ 122) ∨ 122 < c := by omega
            rcases h7 with h7 | ⟨h7, h8⟩ | ⟨h7, h8⟩ | h7 | ⟨h7, h8⟩ | ⟨h7, h8⟩ | h7
            case inl =>
              have i1 : (c : Int) < 97 := by omega
              have i2 : (c : Int) < 48 := by omega
              have i3 : ((c : Int) != 95) = true := by simp; omega
              go_wp2
              go_ret
              exact ⟨retB (HBad.out (by simp [nmC]; omega)).symm, hbel⟩
            case inr.inl =>
              have i1 : (c : Int) < 97 := by omega
              have i2 : (48 : Int) ≤ (c : Int) := by omega
              have i3 : (c : Int) ≤ 57 := by omega
              go_wp2
              go_round
              case rel => exact ⟨k + 1, by omega, by go_num, HGood.out (by simp [nmC]; omega)⟩
              case measure => simp [intOf]; omega
            case inr.inr.inl =>
              have i1 : (c : Int) < 97 := by omega
              have i2 : (48 : Int) ≤ (c : Int) := by omega
              have i4 : (57 : Int) < (c : Int) := by omega
              have i3 : ((c : Int) != 95) = true := by simp; omega
              go_wp2
              go_ret
              exact ⟨retB (HBad.out (by simp [nmC]; omega)).symm, hbel⟩
            case inr.inr.inr.inl =>
              subst h7
              go_wp2
              go_round
              case rel => exact ⟨k + 1, by omega, by go_num, HGood.out (by simp [nmC])⟩
              case measure => simp [intOf]; omega
            case inr.inr.inr.inr.inl =>
              have i1 : (c : Int) < 97 := by omega
              have i2 : (48 : Int) ≤ (c : Int) := by omega
              have i4 : (57 : Int) < (c : Int) := by omega
              have i3 : ((c : Int) != 95) = true := by simp; omega
              go_wp2
              go_ret
              exact ⟨retB (HBad.out (by simp [nmC]; omega)).symm, hbel⟩
            case inr.inr.inr.inr.inr.inl =>
              have i1 : (97 : Int) ≤ (c : Int) := by omega
              have i2 : (c : Int) ≤ 122 := by omega
              go_wp2
              go_round
              case rel => exact ⟨k + 1, by omega, by go_num, HGood.out (by simp [nmC]; omega)⟩
              case measure => simp [intOf]; omega
            case inr.inr.inr.inr.inr.inr =>
              have i1 : (97 : Int) ≤ (c : Int) := by omega
              have i4 : (122 : Int) < (c : Int) := by omega
              have i2 : (48 : Int) ≤ (c : Int) := by omega
              have i5 : (57 : Int) < (c : Int) := by omega
              have i3 : ((c : Int) != 95) = true := by simp; omega
              go_wp2
              go_ret
              exact ⟨retB (HBad.out (by simp [nmC]; omega)).symm, hbel⟩
          · have hge : ¬ ((k : Int) < (s.size : Int)) := by omega
            go_wp2
            go_ret
            exact ⟨retB (HG.out (fun j hj => HA.out j hj (by omega))).symm, hbel⟩
end Go.Proofs.YthjlgpmajeafpaaGreatDoor

/-
  The rules of the kinds of values (value.rules): each returns what the Lean function of its kind says. Conditions: the value can be read as data; for texts, the tables of unicode/utf8 hold what the library lays.
-/
namespace Go.Proofs.YthjlgpmajeafpaaGreatDoor
open Go Go.RowKit
set_option linter.unusedVariables false
set_option linter.unusedSimpArgs false
attribute [local go_sem ↓] Go.wp_at_zero Go.wp_at_succ

abbrev vArg (k i s : Int) (t : ByteArray) (la : Option Addr) (ll lc : Nat) (fa : Option Addr) (fl fc : Nat) : Value := .agg #[.int .i64 k, .int .i64 i, .int .i64 s, .string t, .slice la ll lc, .slice fa fl fc]

section
variable (k i s : Int) (t : ByteArray) (la : Option Addr) (ll lc : Nat) (fa : Option Addr) (fl fc : Nat) (w : World)
theorem rule1_call : Calls Tryz.prog 143 #[vArg k i s t la ll lc fa fl fc] w fun e w' => e = .returned (.int .i64 (betweenE i 0 1)) ∧ Below w.heap.size w w' := by
  go_enter Tryz.func143, Tryz.ntmps143
  go_wp2_with (go_at_call 144; refine (between_call _ _ _ _).mono ?_; rintro e w' ⟨rfl, rfl⟩)
  go_ret
  exact ⟨rfl, (Below.refl _ w).alloc (Nat.le_refl _) _⟩
theorem rule2_call : Calls Tryz.prog 145 #[vArg k i s t la ll lc fa fl fc] w fun e w' => e = .returned (.int .i64 (betweenE i (-999999999999999) 999999999999999)) ∧ Below w.heap.size w w' := by
  go_enter Tryz.func145, Tryz.ntmps145
  go_wp2_with (go_at_call 144; refine (between_call _ _ _ _).mono ?_; rintro e w' ⟨rfl, rfl⟩)
  go_ret
  exact ⟨rfl, (Below.refl _ w).alloc (Nat.le_refl _) _⟩
theorem rule6_call : Calls Tryz.prog 152 #[vArg k i s t la ll lc fa fl fc] w fun e w' => e = .returned (.int .i64 (betweenE i (-719162) 2932896)) ∧ Below w.heap.size w w' := by
  go_enter Tryz.func152, Tryz.ntmps152
  go_wp2_with (go_at_call 144; refine (between_call _ _ _ _).mono ?_; rintro e w' ⟨rfl, rfl⟩)
  go_ret
  exact ⟨rfl, (Below.refl _ w).alloc (Nat.le_refl _) _⟩
theorem rule7_call : Calls Tryz.prog 153 #[vArg k i s t la ll lc fa fl fc] w fun e w' => e = .returned (.int .i64 (betweenE i (-62135596800000) 253402300799999)) ∧ Below w.heap.size w w' := by
  go_enter Tryz.func153, Tryz.ntmps153
  go_wp2_with (go_at_call 144; refine (between_call _ _ _ _).mono ?_; rintro e w' ⟨rfl, rfl⟩)
  go_ret
  exact ⟨rfl, (Below.refl _ w).alloc (Nat.le_refl _) _⟩
theorem rule5_call : Calls Tryz.prog 151 #[vArg k i s t la ll lc fa fl fc] w fun e w' => e = .returned (.int .i64 (sizeE t.size 1024 5)) ∧ Below w.heap.size w w' := by
  go_enter Tryz.func151, Tryz.ntmps151
  go_wp2_with (go_at_call 149; refine (size_call _ _ _ _).mono ?_; rintro e w' ⟨rfl, rfl⟩)
  go_ret
  exact ⟨rfl, (Below.refl _ w).alloc (Nat.le_refl _) _⟩
theorem rule8_call : Calls Tryz.prog 154 #[vArg k i s t la ll lc fa fl fc] w fun e w' => e = .returned (.int .i64 (sizeE ll 256 9)) ∧ Below w.heap.size w w' := by
  go_enter Tryz.func154, Tryz.ntmps154
  go_wp2_with (go_at_call 149; refine (size_call _ _ _ _).mono ?_; rintro e w' ⟨rfl, rfl⟩)
  go_ret
  exact ⟨rfl, (Below.refl _ w).alloc (Nat.le_refl _) _⟩

def variantE (t : ByteArray) (ll : Nat) : Int := if isNameB t = false then 12 else if ll = 0 then 4 else sizeE ll 1 3
set_option maxHeartbeats 1000000 in
theorem rule10_call (ht : t.size ≤ 140737488351232) : Calls Tryz.prog 157 #[vArg k i s t la ll lc fa fl fc] w fun e w' => e = .returned (.int .i64 (variantE t ll)) ∧ Below w.heap.size w w' := by
  by_cases hn : isNameB t = false
  · have HR := hid (show variantE t ll = 12 by simp [variantE, hn])
    have hc := fun w => (isName_call t w ht).mono (R' := fun e w' => e = .returned (.bool false) ∧ Below w.heap.size w w') (fun e w' h => ⟨h.1.trans (by rw [hn]), h.2⟩)
    have HC := hid hc; clear hc hn
    go_enter Tryz.func157, Tryz.ntmps157
    go_wp2_with (go_at_call 156; refine (HC.out _).mono ?_; rintro e w1 ⟨rfl, hb⟩)
    go_ret
    exact ⟨retI HR.out.symm, ((Below.refl _ w).alloc (Nat.le_refl _) _).trans (hb.mono (by simp))⟩
  · have hn' : isNameB t = true := by simpa using hn
    have hc := fun w => (isName_call t w ht).mono (R' := fun e w' => e = .returned (.bool true) ∧ Below w.heap.size w w') (fun e w' h => ⟨h.1.trans (by rw [hn']), h.2⟩)
    have HC := hid hc; clear hc
    by_cases h0 : ll = 0
    · have HR := hid (show variantE t ll = 4 by simp [variantE, hn', h0])
      clear hn hn'
      subst h0
      go_enter Tryz.func157, Tryz.ntmps157
      go_wp2_with (go_at_call 156; refine (HC.out _).mono ?_; rintro e w1 ⟨rfl, hb⟩; have hc4 : w1.cell? ⟨w.heap.size, 4, none⟩ = some (.slice la 0 lc) := cellOf (heapExt hb (heap_alloc_new w _)) 4)
      go_ret
      exact ⟨retI HR.out.symm, ((Below.refl _ w).alloc (Nat.le_refl _) _).trans (hb.mono (by simp))⟩
    · have HR := hid (show variantE t ll = sizeE ll 1 3 by simp [variantE, hn', h0])
      clear hn hn'
      have h0' : ((ll : Int) == 0) = false := by simp; omega
      go_enter Tryz.func157, Tryz.ntmps157
      go_wp2_with (first | (go_at_call 156; refine (HC.out _).mono ?_; rintro e w1 ⟨rfl, hb⟩; have hc4 : w1.cell? ⟨w.heap.size, 4, none⟩ = some (.slice la ll lc) := cellOf (heapExt hb (heap_alloc_new w _)) 4) | (go_at_call 149; refine (size_call _ _ _ _).mono ?_; rintro e w' ⟨rfl, rfl⟩))
      go_ret
      exact ⟨retI HR.out.symm, ((Below.refl _ w).alloc (Nat.le_refl _) _).trans (hb.mono (by simp))⟩

/-- value.first of two errors. -/
def first2 (a b : Int) : Int := if a ≠ 0 then a else b
theorem first_two (a b : Int) (g : Nat) (w : World) (h : w.heap[g]? = some (.cells #[.int .i64 a, .int .i64 b] 59 (0, 0))) : Calls Tryz.prog 147 #[.slice (some ⟨g, 0, none⟩) 2 2] w fun e w' => e = .returned (.int .i64 (first2 a b)) ∧ w = w' := by
  have c0 : w.cell? ⟨g, 0, none⟩ = some (.int .i64 a) := cellOf h 0
  have c1 : w.cell? ⟨g, 1, none⟩ = some (.int .i64 b) := cellOf h 1
  clear h
  by_cases ha : a = 0
  · by_cases hb : b = 0
    · subst ha; subst hb
      go_enter Tryz.func147, Tryz.ntmps147
      go_wp2
      refine wp_loop_rounds 3 ?_
      rw [rounds_succ]
      go_wp2
      rw [rounds_succ]
      go_wp2
      rw [rounds_succ]
      go_wp2
      go_ret
      exact ⟨retI (by simp [first2]), rfl⟩
    · subst ha
      have hb' : (b != 0) = true := by simpa using hb
      go_enter Tryz.func147, Tryz.ntmps147
      go_wp2
      refine wp_loop_rounds 2 ?_
      rw [rounds_succ]
      go_wp2
      rw [rounds_succ]
      go_wp2
      go_ret
      exact ⟨retI (by simp [first2]), rfl⟩
  · have ha' : (a != 0) = true := by simpa using ha
    go_enter Tryz.func147, Tryz.ntmps147
    go_wp2
    refine wp_loop_rounds 1 ?_
    rw [rounds_succ]
    go_wp2
    go_ret
    exact ⟨retI (by simp [first2, ha]), rfl⟩
end
end Go.Proofs.YthjlgpmajeafpaaGreatDoor

/-
  The rules of decimals and of records (value.rules): each returns what the Lean function of its kind says. Conditions: the value can be read as data.
-/
namespace Go.Proofs.YthjlgpmajeafpaaGreatDoor
open Go Go.RowKit
set_option linter.unusedVariables false
set_option linter.unusedSimpArgs false
attribute [local go_sem ↓] Go.wp_at_zero Go.wp_at_succ

section
variable (k i s : Int) (t : ByteArray) (la : Option Addr) (ll lc : Nat) (fa : Option Addr) (fl fc : Nat) (w : World)
set_option maxRecDepth 100000 in
set_option maxHeartbeats 1000000 in
theorem rule3_call : Calls Tryz.prog 146 #[vArg k i s t la ll lc fa fl fc] w fun e w' => e = .returned (.int .i64 (first2 (betweenE i (-999999999999999) 999999999999999) (betweenE s 0 12))) ∧ Below w.heap.size w w' := by
  go_enter Tryz.func146, Tryz.ntmps146
  go_wp2
  obtain ⟨wa, hwa⟩ : ∃ wa, wa = w.alloc (.cells #[.int .i64 k, .int .i64 i, .int .i64 s, .string t, .slice la ll lc, .slice fa fl fc] 28) := ⟨_, rfl⟩
  rw [← hwa]
  have hsz : w.heap.size < wa.heap.size := by rw [hwa]; simp
  have hbel : Below w.heap.size w wa := by rw [hwa]; exact (Below.refl _ w).alloc (Nat.le_refl _) _
  have h0 : wa.heap[w.heap.size]? = some (.cells #[.int .i64 k, .int .i64 i, .int .i64 s, .string t, .slice la ll lc, .slice fa fl fc] 28) := by rw [hwa]; exact heap_alloc_new w _
  have c1 : wa.cell? ⟨w.heap.size, 1, none⟩ = some (.int .i64 i) := cellOf h0 1
  have c2 : wa.cell? ⟨w.heap.size, 2, none⟩ = some (.int .i64 s) := cellOf h0 2
  clear hwa h0
  go_region_held3 (fun w' => w'.cell? ⟨w.heap.size, 1, none⟩ = some (.int .i64 i) ∧ w'.cell? ⟨w.heap.size, 2, none⟩ = some (.int .i64 s)) (go_keep)
    ((first | (go_at_call 144; refine (between_call _ _ _ _).mono ?_; rintro e w' ⟨rfl, rfl⟩) | (go_at_call 147; refine (first_two _ _ _ _ (show ((wa.alloc _).drew).heap[wa.heap.size]? = _ from heap_alloc_new wa _)).mono ?_; rintro e w' ⟨rfl, rfl⟩)))
  go_wp2
  go_ret
  exact ⟨rfl, (hbel.alloc hbel.size _).drew⟩

/-- The first error of the names of a record's fields. -/
def fieldsE : Option ByteArray → List ByteArray → Int
  | _, [] => 0
  | p, n :: ns => if isNameB n = false then 12 else match p with
    | none => fieldsE (some n) ns
    | some q => if (n.toList == q.toList) = true then 7 else if Op.bytesLess n.toList q.toList = true then 24 else fieldsE (some n) ns
theorem fieldsE_cons (p : Option ByteArray) (n : ByteArray) (ns : List ByteArray) : fieldsE p (n :: ns) = if isNameB n = false then 12 else match p with
    | none => fieldsE (some n) ns
    | some q => if (n.toList == q.toList) = true then 7 else if Op.bytesLess n.toList q.toList = true then 24 else fieldsE (some n) ns := by cases p <;> rfl
def recordE (ns : List ByteArray) : Int := if 64 < ns.length then 9 else fieldsE none ns
/-- What is left to be looked at from field number k on. -/
def fieldsAt (ns : List ByteArray) (k : Nat) : Int := fieldsE (if k = 0 then none else some (ns.getD (k - 1) ByteArray.empty)) (ns.drop k)
theorem fieldsAt_zero (ns : List ByteArray) : fieldsAt ns 0 = fieldsE none ns := by simp [fieldsAt]
theorem fieldsAt_end (ns : List ByteArray) : fieldsAt ns ns.length = 0 := by
  unfold fieldsAt; rw [List.drop_length]; rfl
theorem fieldsAt_name {ns : List ByteArray} {k : Nat} (hk : k < ns.length) (h : isNameB ns[k] = false) : fieldsAt ns k = 12 := by
  unfold fieldsAt; rw [List.drop_eq_getElem_cons hk, fieldsE_cons, if_pos h]
theorem fieldsAt_first {ns : List ByteArray} (hk : 0 < ns.length) (h : isNameB ns[0] = true) : fieldsAt ns 0 = fieldsAt ns 1 := by
  unfold fieldsAt; rw [List.drop_eq_getElem_cons hk, if_pos rfl, fieldsE_cons, if_neg (by simp [h])]
  simp [List.getD, hk]
theorem fieldsAt_dup {ns : List ByteArray} {j : Nat} (hk : j + 1 < ns.length) (h : isNameB ns[j + 1] = true) (he : (ns[j + 1].toList == (ns[j]'(by omega)).toList) = true) : fieldsAt ns (j + 1) = 7 := by
  unfold fieldsAt; rw [List.drop_eq_getElem_cons hk, if_neg (by omega), fieldsE_cons, if_neg (by simp [h])]
  have e : ns.getD (j + 1 - 1) ByteArray.empty = ns[j]'(by omega) := by simp [List.getD, show j < ns.length by omega]
  rw [e]; simp only [he, if_true]
theorem fieldsAt_less {ns : List ByteArray} {j : Nat} (hk : j + 1 < ns.length) (h : isNameB ns[j + 1] = true) (he : (ns[j + 1].toList == (ns[j]'(by omega)).toList) = false) (hl : Op.bytesLess ns[j + 1].toList (ns[j]'(by omega)).toList = true) : fieldsAt ns (j + 1) = 24 := by
  unfold fieldsAt; rw [List.drop_eq_getElem_cons hk, if_neg (by omega), fieldsE_cons, if_neg (by simp [h])]
  have e : ns.getD (j + 1 - 1) ByteArray.empty = ns[j]'(by omega) := by simp [List.getD, show j < ns.length by omega]
  rw [e]; simp only [he, hl, if_true, Bool.false_eq_true, if_false]
theorem fieldsAt_next {ns : List ByteArray} {j : Nat} (hk : j + 1 < ns.length) (h : isNameB ns[j + 1] = true) (he : (ns[j + 1].toList == (ns[j]'(by omega)).toList) = false) (hl : Op.bytesLess ns[j + 1].toList (ns[j]'(by omega)).toList = false) : fieldsAt ns (j + 1) = fieldsAt ns (j + 1 + 1) := by
  unfold fieldsAt; rw [List.drop_eq_getElem_cons hk, if_neg (by omega), fieldsE_cons, if_neg (by simp [h])]
  have e : ns.getD (j + 1 - 1) ByteArray.empty = ns[j]'(by omega) := by simp [List.getD, show j < ns.length by omega]
  have e2 : ns.getD (j + 1 + 1 - 1) ByteArray.empty = ns[j + 1] := by simp [List.getD, hk]
  rw [e, e2]; simp only [he, hl, Bool.false_eq_true, if_false]
  rw [if_neg (by omega)]

set_option maxRecDepth 100000 in
set_option maxHeartbeats 4000000 in
theorem rule9_call (ns : List ByteArray) (fs : List Val) (hreach : fl * 104 ≤ 140737488351232) (hfl : fl = fs.length) (hns : ns.length = fs.length) (hf : fs = [] ∨ ∃ b o, fa = some ⟨b, o, none⟩ ∧ b < w.heap.size ∧ IsFlds (· < w.heap.size) w b o ns fs) :
    Calls Tryz.prog 155 #[vArg k i s t la ll lc fa fl fc] w fun e w' => e = .returned (.int .i64 (recordE ns)) ∧ Below w.heap.size w w' := by
  have hfn : fl = ns.length := by omega
  by_cases hbig : 64 < ns.length
  · have HR := hid (show recordE ns = 9 by simp [recordE, hbig])
    have hsz9 : sizeE fl 64 9 = 9 := by rw [sizeE, if_pos (by omega)]
    have hc := fun w => (size_call fl 64 9 w).mono (R' := fun e w' => e = .returned (.int .i64 9) ∧ w = w') (fun e w' h => ⟨h.1.trans (by rw [hsz9]), h.2⟩)
    have HC := hid hc
    clear hc hsz9 hfn hfl hns hf hbig
    go_enter Tryz.func155, Tryz.ntmps155
    go_wp2_with (go_at_call 149; refine (HC.out _).mono ?_; rintro e w' ⟨rfl, rfl⟩)
    go_ret
    exact ⟨retI HR.out.symm, (Below.refl _ w).alloc (Nat.le_refl _) _⟩
  · have HR := hid (show recordE ns = fieldsAt ns 0 by simp [recordE, hbig, fieldsAt_zero])
    have hsz9 : sizeE fl 64 9 = 0 := by rw [sizeE, if_neg (by omega)]
    have hc := fun w => (size_call fl 64 9 w).mono (R' := fun e w' => e = .returned (.int .i64 0) ∧ w = w') (fun e w' h => ⟨h.1.trans (by rw [hsz9]), h.2⟩)
    have HC := hid hc
    have HFN := hid hfn
    have HNS := hid hns
    clear hc hsz9 hfl hbig hfn hns
    go_enter Tryz.func155, Tryz.ntmps155
    go_wp2_with (go_at_call 149; refine (HC.out _).mono ?_; rintro e w' ⟨rfl, rfl⟩)
    clear HC
    go_loopw [16] (fun i' wr => ∃ q : Nat, q ≤ fl ∧ i' = .int .i64 q ∧ fieldsAt ns 0 = fieldsAt ns q ∧
        wr.heap[w.heap.size]? = some (.cells #[.int .i64 k, .int .i64 i, .int .i64 s, .string t, .slice la ll lc, .slice fa fl fc] 28 (0, 0)) ∧ Below w.heap.size w wr)
      (fun i' _ => fl - (intOf i').toNat)
    case atStart => exact ⟨0, Nat.zero_le _, rfl, rfl, heap_alloc_new w _, (Below.refl _ w).alloc (Nat.le_refl _) _⟩
    case round =>
      obtain ⟨q, hq, rfl, hat, hb0, hbel⟩ := hrel
      have HAT := hid hat; clear hat
      have HB0 := hid hb0; clear hb0
      have hsz := hbel.size
      by_cases hlt : q < fl
      · rcases hf with rfl | ⟨b, o, rfl, hb, hvs⟩
        · exfalso; have h1 := HFN.out; have h2 := HNS.out; simp only [List.length_nil] at h2; omega
        · have hqn : q < ns.length := by have h1 := HFN.out; omega
          have hqf : q < fs.length := by have h1 := HNS.out; omega
          obtain ⟨⟨hnm, hnz⟩, x, hx, hxv⟩ := hvs.get HNS.out q hqf hqn
          obtain ⟨hx0, hx1, hx2, hx3, hx4, hx5⟩ := hx.same (w' := wr) (hbel.block b hb)
          have hnm' : wr.cell? ⟨b, o + q * 7, none⟩ = some (.string ns[q]) := (World.cell?_of_block (w := w) (a := ⟨b, o + q * 7, none⟩) (hbel.block b hb)).trans hnm
          have hlt' : (q : Int) < (fl : Int) := by omega
          clear hx hnm
          obtain ⟨nm, hnmd⟩ : ∃ nm, nm = ns[q] := ⟨_, rfl⟩
          have hbl : ∀ w1, Below (wr.heap.size + 1) (wr.alloc (.cells #[.string nm, .int .i64 x.k, .int .i64 x.i, .int .i64 x.s, .string x.t, .slice x.la x.ll x.lc, .slice x.fa x.fl x.fc] 35)) w1 →
              w1.cell? ⟨wr.heap.size, 0, none⟩ = some (.string nm) ∧ w1.cell? ⟨w.heap.size, 5, none⟩ = some (.slice (some ⟨b, o, none⟩) fl fc) ∧ w1.heap[w.heap.size]? = wr.heap[w.heap.size]? ∧ Below w.heap.size w w1 := fun w1 h1 =>
            ⟨cellOf (heapBelow h1 (heap_alloc_new wr _) (by omega)) 0, cellOf (heapBelow h1 (heapAlloc _ HB0.out) (by omega)) 5, (h1.block _ (by omega)).trans (Below.heap_alloc _ _ _ (ltOf HB0.out)), (hbel.alloc (by omega) _).trans (h1.mono (by omega))⟩
          have HBL := hid hbl; clear hbl
          rw [← hnmd] at hnm' hnz
          have HNM := hid hnmd; clear hnmd
          by_cases hn : isNameB nm = false
          · have HR2 := hid (fieldsAt_name hqn (by rw [← HNM.out]; exact hn))
            have hc2 := fun w => (isName_call nm w hnz).mono (R' := fun e w' => e = .returned (.bool false) ∧ Below w.heap.size w w') (fun e w' h => ⟨h.1.trans (by rw [hn]), h.2⟩)
            have HC2 := hid hc2
            clear hc2 hn hxv
            go_wp2_with (go_at_call 156; refine (HC2.out _).mono ?_; rintro e w1 ⟨rfl, hb1⟩)
            go_ret
            exact ⟨retI (HR.out.trans (HAT.out.trans HR2.out)).symm, (HBL.out _ (by simpa using hb1)).2.2.2⟩
          · have hn' : isNameB nm = true := by simpa using hn
            have hc2 := fun w => (isName_call nm w hnz).mono (R' := fun e w' => e = .returned (.bool true) ∧ Below w.heap.size w w') (fun e w' h => ⟨h.1.trans (by rw [hn']), h.2⟩)
            have HC2 := hid hc2
            clear hc2 hn
            go_wp2_with (go_at_call 156; refine (HC2.out _).mono ?_; rintro e w1 ⟨rfl, hb1⟩)
            obtain ⟨d1, d2, d3, d4⟩ := HBL.out w1 (by simpa using hb1)
            have D3 := hid d3; clear d3 hxv hx0 hx1 hx2 hx3 hx4 hx5 hnm'
            cases q with
            | zero =>
              have HR2 := hid (fieldsAt_first hqn (by rw [← HNM.out]; exact hn'))
              clear hn'
              go_quiet (fail)
              go_wp2
              go_quiet (fail)
              go_wp2
              go_roundw
              case rel => exact ⟨1, by omega, by go_num, HR2.out, D3.out.trans HB0.out, (by first | exact below_drewN d4 _ | exact below_drewN (below_drewN d4 _) _)⟩
              case measure => simp [intOf]; omega
            | succ j =>
              have hjn : j < ns.length := by omega
              obtain ⟨⟨hpm, hpz⟩, _⟩ := hvs.get HNS.out j (by omega) hjn
              obtain ⟨pm, hpmd⟩ : ∃ pm, pm = ns[j] := ⟨_, rfl⟩
              rw [← hpmd] at hpm
              have HPM := hid hpmd; clear hpmd
              have hp1 : w1.cell? ⟨b, o + j * 7, none⟩ = some (.string pm) := (World.cell?_of_block (w := w) (a := ⟨b, o + j * 7, none⟩) (d4.block b hb)).trans hpm
              clear hpm
              have g1 : (0 : Int) < (j : Int) + 1 := by omega
              have g3 : (0 : Int) ≤ (j : Int) := by omega
              have g4 : (j : Int) < (fl : Int) := by omega
              have g2 : IntKind.i64.wrap ((j : Int) + 1 - 1) = (j : Int) := by rw [show (j : Int) + 1 - 1 = j by omega]; exact IntWalk.i64_in _ (by omega)
              have g5 : IntKind.i64.wrap (j : Int) = (j : Int) := IntWalk.i64_in _ (by omega)
              have hcast : ((j + 1 : Nat) : Int) = (j : Int) + 1 := by omega
              rw [hcast]
              clear hcast
              by_cases he : (nm.toList == pm.toList) = true
              · have HR2 := hid (fieldsAt_dup hqn (by rw [← HNM.out]; exact hn') (by rw [← HNM.out, ← HPM.out]; exact he))
                clear hn'
                go_quiet (fail)
                go_wp2
                go_ret
                exact ⟨retI (HR.out.trans (HAT.out.trans HR2.out)).symm, (by first | exact below_drewN d4 _ | exact below_drewN (below_drewN d4 _) _)⟩
              · have he' : (nm.toList == pm.toList) = false := by simpa using he
                by_cases hl : Op.bytesLess nm.toList pm.toList = true
                · have HR2 := hid (fieldsAt_less hqn (by rw [← HNM.out]; exact hn') (by rw [← HNM.out, ← HPM.out]; exact he') (by rw [← HNM.out, ← HPM.out]; exact hl))
                  clear hn' he
                  go_quiet (fail)
                  go_wp2
                  go_quiet (fail)
                  go_wp2
                  go_ret
                  exact ⟨retI (HR.out.trans (HAT.out.trans HR2.out)).symm, (by first | exact below_drewN d4 _ | exact below_drewN (below_drewN d4 _) _)⟩
                · have hl' : Op.bytesLess nm.toList pm.toList = false := by simpa using hl
                  have HR2 := hid (fieldsAt_next hqn (by rw [← HNM.out]; exact hn') (by rw [← HNM.out, ← HPM.out]; exact he') (by rw [← HNM.out, ← HPM.out]; exact hl'))
                  clear hn' he hl
                  go_quiet (fail)
                  go_wp2
                  go_quiet (fail)
                  go_wp2
                  go_roundw
                  case rel => exact ⟨j + 1 + 1, by omega, by go_num, HAT.out.trans HR2.out, D3.out.trans HB0.out, (by first | exact below_drewN d4 _ | exact below_drewN (below_drewN d4 _) _)⟩
                  case measure => simp [intOf]; omega
      · obtain rfl : q = fl := by omega
        have HE := hid (show fieldsAt ns q = 0 by rw [HFN.out]; exact fieldsAt_end ns)
        go_wp2
        go_ret
        exact ⟨retI (HR.out.trans (HAT.out.trans HE.out)).symm, hbel⟩
end
end Go.Proofs.YthjlgpmajeafpaaGreatDoor

/-
  What is asked of the library's tables (Tabs), and the rule of texts (value.rules). Condition: Tabs.
-/
namespace Go.Proofs.YthjlgpmajeafpaaGreatDoor
open Go Go.RowKit
set_option linter.unusedVariables false
set_option linter.unusedSimpArgs false

/-- The tables of unicode/utf8 and of internal/strconv hold what the library lays. -/
def Tabs (w : World) : Prop := Lib.Utf8Tabs (Tryz.laysValid_ren.g 3) (Tryz.laysValid_ren.g 4) w ∧ Lib.TabIs Tryz.prog w "internal/strconv.uint64pow10" .u64 Lib.pow10Tab
theorem gPow : Tryz.prog.globalNamed "internal/strconv.uint64pow10" = some 3 := by kernel_rfl
theorem Tabs.below {w w' : World} (h : Tabs w) (hb : Below w.heap.size w w') : Tabs w' := by
  refine ⟨Utf8Tabs_below h.1 hb, ?_⟩
  have hc := h.2.cell gPow 0 (by rw [Lib.pow10Tab_length]; omega)
  have hlt := World.block_lt_of_cell? w _ hc
  exact var?_below hb gPow hlt h.2

/-- The error of a text. -/
def textE (t : ByteArray) : Int := if sizeE t.size 1024 5 = 0 ∧ Lib.validD t.data.toList = false then 16 else sizeE t.size 1024 5
set_option maxRecDepth 100000 in
set_option maxHeartbeats 1000000 in
theorem rule4_call (k i s : Int) (t : ByteArray) (la : Option Addr) (ll lc : Nat) (fa : Option Addr) (fl fc : Nat) (w : World) (hT : Tabs w) (ht : t.size ≤ 140737488351232) :
    Calls Tryz.prog 148 #[vArg k i s t la ll lc fa fl fc] w fun e w' => e = .returned (.int .i64 (textE t)) ∧ Below w.heap.size w w' := by
  by_cases hs : (1024 : Int) < (t.size : Int)
  · have hsz : sizeE t.size 1024 5 = 5 := by rw [sizeE, if_pos hs]
    have HR := hid (show textE t = 5 by unfold textE; rw [hsz]; simp)
    have hc := fun w => (size_call t.size 1024 5 w).mono (R' := fun e w' => e = .returned (.int .i64 5) ∧ w = w') (fun e w' h => ⟨h.1.trans (by rw [hsz]), h.2⟩)
    have HC := hid hc
    clear hc hsz hT
    go_enter Tryz.func148, Tryz.ntmps148
    go_wp2_with (go_at_call 149; refine (HC.out _).mono ?_; rintro e w' ⟨rfl, rfl⟩)
    go_ret
    exact ⟨retI HR.out.symm, (Below.refl _ w).alloc (Nat.le_refl _) _⟩
  · have hsz : sizeE t.size 1024 5 = 0 := by rw [sizeE, if_neg hs]
    have hc := fun w => (size_call t.size 1024 5 w).mono (R' := fun e w' => e = .returned (.int .i64 0) ∧ w = w') (fun e w' h => ⟨h.1.trans (by rw [hsz]), h.2⟩)
    have HC := hid hc
    clear hc
    have hT1 : Tabs (w.alloc (.cells #[.int .i64 k, .int .i64 i, .int .i64 s, .string t, .slice la ll lc, .slice fa fl fc] 28)) := hT.below ((Below.refl _ w).alloc (Nat.le_refl _) _)
    by_cases hv : Lib.validD t.data.toList = true
    · have HR := hid (show textE t = 0 by unfold textE; rw [hsz, hv]; simp)
      have hc2 := (Tryz.utf8_ValidString t _ (by omega) hT1.1).mono (R' := fun e w' => e = .returned (.bool true) ∧ Below (w.heap.size + 1) _ w') (fun e w' h => ⟨h.1.trans (by rw [hv]), by simpa using h.2⟩)
      have HC2 := hid hc2
      clear hc2 hsz hv hT hT1 hs
      go_enter Tryz.func148, Tryz.ntmps148
      go_wp2_with (first | (go_at_call 149; refine (HC.out _).mono ?_; rintro e w' ⟨rfl, rfl⟩) | (go_at_call 150; refine HC2.out.mono ?_; rintro e w1 ⟨rfl, hb⟩))
      go_ret
      exact ⟨retI HR.out.symm, ((Below.refl _ w).alloc (Nat.le_refl _) _).trans (hb.mono (by omega))⟩
    · have hv' : Lib.validD t.data.toList = false := by simpa using hv
      have HR := hid (show textE t = 16 by unfold textE; rw [hsz, hv']; simp)
      have hc2 := (Tryz.utf8_ValidString t _ (by omega) hT1.1).mono (R' := fun e w' => e = .returned (.bool false) ∧ Below (w.heap.size + 1) _ w') (fun e w' h => ⟨h.1.trans (by rw [hv']), by simpa using h.2⟩)
      have HC2 := hid hc2
      clear hc2 hsz hv hv' hT hT1 hs
      go_enter Tryz.func148, Tryz.ntmps148
      go_wp2_with (first | (go_at_call 149; refine (HC.out _).mono ?_; rintro e w' ⟨rfl, rfl⟩) | (go_at_call 150; refine HC2.out.mono ?_; rintro e w1 ⟨rfl, hb⟩))
      go_ret
      exact ⟨retI HR.out.symm, ((Below.refl _ w).alloc (Nat.le_refl _) _).trans (hb.mono (by omega))⟩
end Go.Proofs.YthjlgpmajeafpaaGreatDoor

/-
  Contracts of small functions of value, message and stamp: each returns what the Lean function of the same name says, and leaves what was there as it was. No conditions.
-/
namespace Go.Proofs.YthjlgpmajeafpaaGreatDoor
open Go Go.RowKit
set_option linter.unusedVariables false
set_option linter.unusedSimpArgs false

def numK (k : Int) : Bool := k == 1 || k == 2 || k == 6 || k == 7 || k == 3
def textK (k : Int) : Bool := k == 4 || k == 5 || k == 10
def listK (k : Int) : Bool := k == 8 || k == 10
def usesB (k i s : Int) (t : ByteArray) (ll fl : Nat) : Bool := (numK k || i == 0) && ((k == 3 || s == 0) && ((textK k || t.toList.isEmpty) && ((listK k || ((ll : Int) == 0)) && (k == 9 || ((fl : Int) == 0)))))
set_option maxHeartbeats 8000000 in
theorem uses_call (k i s : Int) (t : ByteArray) (la : Option Addr) (ll lc : Nat) (fa : Option Addr) (fl fc : Nat) (w : World) (hk : 1 ≤ k ∧ k ≤ 10) :
    Calls Tryz.prog 121 #[.agg #[.int .i64 k, .int .i64 i, .int .i64 s, .string t, .slice la ll lc, .slice fa fl fc]] w fun e w' => e = .returned (.bool (usesB k i s t ll fl)) ∧ Below w.heap.size w w' := by
  have : k = 1 ∨ k = 2 ∨ k = 3 ∨ k = 4 ∨ k = 5 ∨ k = 6 ∨ k = 7 ∨ k = 8 ∨ k = 9 ∨ k = 10 := by omega
  clear hk
  rcases this with rfl | rfl | rfl | rfl | rfl | rfl | rfl | rfl | rfl | rfl
  all_goals
    go_enter Tryz.func121, Tryz.ntmps121
    go_wp2
    all_goals go_ret
    all_goals exact ⟨by simp [usesB, numK, textK, listK, *], (Below.refl _ w).alloc (Nat.le_refl _) _⟩
end Go.Proofs.YthjlgpmajeafpaaGreatDoor

/-
  value.Check returns the first error of a value, as the Lean function chkVal says. Conditions: the value can be read as data; Tabs.
-/
namespace Go.Proofs.YthjlgpmajeafpaaGreatDoor
open Go Go.RowKit Go.Shelf
set_option linter.unusedVariables false
set_option linter.unusedSimpArgs false
attribute [local go_sem] Oper.semAt_some

def isNullV : Val → Bool
  | .mk k i s t l ns fs => isNullB k i s t l.length fs.length
def usesV : Val → Bool
  | .mk k i s t l ns fs => usesB k i s t l.length fs.length
def ruleE : Val → Int
  | .mk k i s t l ns fs => if k = 1 then betweenE i 0 1 else if k = 2 then betweenE i (-999999999999999) 999999999999999
      else if k = 3 then first2 (betweenE i (-999999999999999) 999999999999999) (betweenE s 0 12) else if k = 4 then textE t else if k = 5 then sizeE t.size 1024 5
      else if k = 6 then betweenE i (-719162) 2932896 else if k = 7 then betweenE i (-62135596800000) 253402300799999 else if k = 8 then sizeE l.length 256 9
      else if k = 9 then recordE ns else variantE t l.length
def kindV : Val → Int
  | .mk k _ _ _ _ _ _ => k
/-- The error of a value at place p (from 1) of the whole, on a level. -/
def chkItem (p : Nat) (x : Int × Val) : Int :=
  if 4096 < p then 9 else if 8 < x.1 then 23 else if isNullV x.2 = true then 19 else if kindV x.2 < 1 ∨ 10 < kindV x.2 then 11 else if usesV x.2 = false then 3 else ruleE x.2
def chkGo (p : Nat) : List (Int × Val) → Int
  | [] => 0
  | x :: r => if chkItem (p + 1) x ≠ 0 then chkItem (p + 1) x else chkGo (p + 1) r
def chkVal (d : Val) : Int := chkGo 0 (preL 1 d)

theorem chkGo_append : ∀ (p : Nat) (xs ys : List (Int × Val)), chkGo p (xs ++ ys) = if chkGo p xs ≠ 0 then chkGo p xs else chkGo (p + xs.length) ys
  | p, [], ys => by simp [chkGo]
  | p, x :: xs, ys => by
    simp only [List.cons_append, chkGo, List.length_cons]
    by_cases h : chkItem (p + 1) x ≠ 0
    · simp only [h, if_true, ne_eq, not_false_eq_true]
    · simp only [h, if_false]
      rw [chkGo_append (p + 1) xs ys, show p + 1 + xs.length = p + (xs.length + 1) by omega]
theorem chkGo_snoc (xs : List (Int × Val)) (x : Int × Val) (h : chkGo 0 xs = 0) : chkGo 0 (xs ++ [x]) = chkItem (xs.length + 1) x := by
  rw [chkGo_append, if_neg (by simp [h])]
  simp only [chkGo, Nat.zero_add]
  split
  · rfl
  · rename_i h1; simp at h1; exact h1.symm
theorem chkGo_len' : ∀ (xs : List (Int × Val)) (p : Nat), p ≤ 4096 → chkGo p xs = 0 → p + xs.length ≤ 4096
  | [], p, hp, _ => by simpa using hp
  | x :: xs, p, hp, h => by
    simp only [chkGo] at h
    by_cases h1 : chkItem (p + 1) x ≠ 0
    · rw [if_pos h1] at h; exact absurd h h1
    · rw [if_neg h1] at h
      have h2 : ¬ 4096 < p + 1 := fun h2 => h1 (by unfold chkItem; rw [if_pos h2]; decide)
      have := chkGo_len' xs (p + 1) (by omega) h
      simp only [List.length_cons]; omega
theorem chkGo_len (xs : List (Int × Val)) (h : chkGo 0 xs = 0) : xs.length ≤ 4096 := by
  have := chkGo_len' xs 0 (by omega) h; omega
theorem chkGo_prefix {xs L : List (Int × Val)} (h : xs <+: L) (hne : chkGo 0 xs ≠ 0) : chkGo 0 L = chkGo 0 xs := by
  obtain ⟨t, rfl⟩ := h
  rw [chkGo_append, if_pos hne]

/-- The function of a kind. -/
def ruleF (k : Int) : FuncId := if k = 1 then 143 else if k = 2 then 145 else if k = 3 then 146 else if k = 4 then 148 else if k = 5 then 151
  else if k = 6 then 152 else if k = 7 then 153 else if k = 8 then 154 else if k = 9 then 155 else 157
abbrev rulesObj : Obj := .cells #[.nilFunc, .func (.func 143) #[] #[], .func (.func 145) #[] #[], .func (.func 146) #[] #[], .func (.func 148) #[] #[], .func (.func 151) #[] #[],
  .func (.func 152) #[] #[], .func (.func 153) #[] #[], .func (.func 154) #[] #[], .func (.func 155) #[] #[], .func (.func 157) #[] #[]] 163
theorem rules_call (w : World) : Calls Tryz.prog 120 #[] w fun e w' => e = .returned (.agg #[.nilFunc, .func (.func 143) #[] #[], .func (.func 145) #[] #[], .func (.func 146) #[] #[], .func (.func 148) #[] #[], .func (.func 151) #[] #[],
  .func (.func 152) #[] #[], .func (.func 153) #[] #[], .func (.func 154) #[] #[], .func (.func 155) #[] #[], .func (.func 157) #[] #[]]) ∧ w.alloc rulesObj = w' := by
  go_enter Tryz.func120, Tryz.ntmps120
  go_wp2
  exact bodyPost_ret (v := .agg #[.nilFunc, .func (.func 143) #[] #[], .func (.func 145) #[] #[], .func (.func 146) #[] #[], .func (.func 148) #[] #[], .func (.func 151) #[] #[],
  .func (.func 152) #[] #[], .func (.func 153) #[] #[], .func (.func 154) #[] #[], .func (.func 155) #[] #[], .func (.func 157) #[] #[]]) (by simp [results, Tryz.results120, go_sem]) rfl ⟨rfl, rfl⟩

theorem rule_call (w0 : World) (n₀ : Nat) (c : VC) (d : Val) (w : World) (hd : IsVal (· < n₀) w0 c d) (hw : Below n₀ w0 w) (hn : n₀ ≤ w.heap.size) (hT : Tabs w) (hk : 1 ≤ c.k ∧ c.k ≤ 10) :
    Calls Tryz.prog (ruleF c.k) #[c.v] w fun e w' => e = .returned (.int .i64 (ruleE d)) ∧ Below w.heap.size w w' := by
  have hd' : IsVal (· < w.heap.size) w c d := hd.same fun b hb => ⟨by omega, hw.block b hb⟩
  obtain ⟨k, i, s, t, l, ns, fs⟩ := d
  obtain ⟨k1, i1, s1, t1, la, ll, lc, fa, fl, fc⟩ := c
  obtain ⟨⟨h1, h2, h3, h4, hok, hll, hfl, hns⟩, hv, hf⟩ := hd'
  dsimp only at h1 h2 h3 h4 hll hfl hv hf hk ⊢
  subst h1 h2 h3 h4
  have : k1 = 1 ∨ k1 = 2 ∨ k1 = 3 ∨ k1 = 4 ∨ k1 = 5 ∨ k1 = 6 ∨ k1 = 7 ∨ k1 = 8 ∨ k1 = 9 ∨ k1 = 10 := by omega
  rcases this with rfl | rfl | rfl | rfl | rfl | rfl | rfl | rfl | rfl | rfl
  · exact rule1_call _ _ _ _ _ _ _ _ _ _ _
  · exact rule2_call _ _ _ _ _ _ _ _ _ _ _
  · exact rule3_call _ _ _ _ _ _ _ _ _ _ _
  · exact rule4_call _ _ _ _ _ _ _ _ _ _ _ hT hok.t
  · exact rule5_call _ _ _ _ _ _ _ _ _ _ _
  · exact rule6_call _ _ _ _ _ _ _ _ _ _ _
  · exact rule7_call _ _ _ _ _ _ _ _ _ _ _
  · have := rule8_call 8 i1 s1 t1 la ll lc fa fl fc w
    rw [hll] at this ⊢; exact this
  · exact rule9_call _ _ _ _ _ _ _ _ _ _ _ ns fs hok.f hfl hns hf
  · have := rule10_call 10 i1 s1 t1 la ll lc fa fl fc w hok.t
    rw [hll] at this ⊢; exact this
theorem ruleF_enters (k : Int) : ∀ args w, (callFunc (ruleF k) args).run Tryz.prog w = .ok (.enter (ruleF k) args) w := by
  unfold ruleF
  repeat' split
  · exact enters_of Tryz.func143 (by kernel_rfl) rfl
  · exact enters_of Tryz.func145 (by kernel_rfl) rfl
  · exact enters_of Tryz.func146 (by kernel_rfl) rfl
  · exact enters_of Tryz.func148 (by kernel_rfl) rfl
  · exact enters_of Tryz.func151 (by kernel_rfl) rfl
  · exact enters_of Tryz.func152 (by kernel_rfl) rfl
  · exact enters_of Tryz.func153 (by kernel_rfl) rfl
  · exact enters_of Tryz.func154 (by kernel_rfl) rfl
  · exact enters_of Tryz.func155 (by kernel_rfl) rfl
  · exact enters_of Tryz.func157 (by kernel_rfl) rfl
theorem rules_cell {W : World} {B : Nat} (h : W.heap[B]? = some rulesObj) (k : Int) (hk : 1 ≤ k ∧ k ≤ 10) : W.cell? ⟨B, k.toNat, none⟩ = some (.func (.func (ruleF k)) #[] #[]) := by
  rw [cellOf h]
  have : k = 1 ∨ k = 2 ∨ k = 3 ∨ k = 4 ∨ k = 5 ∨ k = 6 ∨ k = 7 ∨ k = 8 ∨ k = 9 ∨ k = 10 := by omega
  rcases this with rfl | rfl | rfl | rfl | rfl | rfl | rfl | rfl | rfl | rfl <;> rfl
end Go.Proofs.YthjlgpmajeafpaaGreatDoor
