/-
  value.IsName says whether a string is a name. Condition: the string's size is within the reach.
-/
import Derived.Test.YthjlgpmajeafpaaGreatDoorBase
import Derived.Test.YthjlgpmajeafpaaGreatDoorProg
import Derived.WalkKit
import Derived.WalkLawsBesides
import Derived.WalkSpells
import Derived.Outline
import Derived.BigQuiet
namespace Go.Proofs.YthjlgpmajeafpaaGreatDoor
open Go Go.RowKit
set_option linter.unusedVariables false
set_option linter.unusedSimpArgs false

def nmC (n : Nat) : Bool := (decide (97 ≤ n) && decide (n ≤ 122)) || ((decide (48 ≤ n) && decide (n ≤ 57)) || n == 95)
def isNameL : List UInt8 → Bool
  | [] => false
  | c :: r => decide ((c :: r).length ≤ 32) && ((decide (97 ≤ c.toNat) && decide (c.toNat ≤ 122)) && (c :: r).all (fun b => nmC b.toNat))
def isNameB (s : ByteArray) : Bool := isNameL s.data.toList

theorem blen (s : ByteArray) : s.data.toList.length = s.size := Array.length_toList
theorem bget (s : ByteArray) (k : Nat) (h : k < s.size) : s.data.toList[k]'(by rw [blen]; exact h) = s[k] := by rw [Array.getElem_toList]; rfl
theorem bhead {s : ByteArray} {c : UInt8} {r : List UInt8} (hl : s.data.toList = c :: r) (h0 : 0 < s.size) : s[0] = c := by
  rw [← bget s 0 h0]; simp only [hl, List.getElem_cons_zero]
theorem isNameB_empty {s : ByteArray} (h : s.toList = []) : isNameB s = false := by
  rw [ByteArray.toList_eq] at h; simp [isNameB, isNameL, h]
theorem isNameB_big {s : ByteArray} (h : 32 < s.size) : isNameB s = false := by
  unfold isNameB
  have : s.data.toList.length = s.size := blen s
  cases hl : s.data.toList with
  | nil => rfl
  | cons c r => rw [hl] at this; simp [isNameL]; intro h1; simp at this; omega
theorem isNameB_first {s : ByteArray} (h0 : 0 < s.size) (h : s[0].toNat < 97 ∨ 122 < s[0].toNat) : isNameB s = false := by
  unfold isNameB
  cases hl : s.data.toList with
  | nil => rfl
  | cons c r =>
    have e : s[0] = c := bhead hl h0
    rw [e] at h
    simp [isNameL]; intro _ h1 h2; omega
theorem isNameB_bad {s : ByteArray} (k : Nat) (hk : k < s.size) (h : nmC s[k].toNat = false) : isNameB s = false := by
  unfold isNameB
  have hm : s[k] ∈ s.data.toList := by
    rw [← bget s k hk]; exact List.getElem_mem _
  cases hl : s.data.toList with
  | nil => rfl
  | cons c r =>
    have : (c :: r).all (fun b => nmC b.toNat) = false := by
      rw [List.all_eq_false]
      exact ⟨s[k], by rw [← hl]; exact hm, by simp [h]⟩
    simp only [isNameL, this, Bool.and_false]
theorem isNameB_good {s : ByteArray} (h0 : 0 < s.size) (h32 : s.size ≤ 32) (h1 : 97 ≤ s[0].toNat) (h2 : s[0].toNat ≤ 122) (hall : ∀ k (hk : k < s.size), nmC s[k].toNat = true) : isNameB s = true := by
  unfold isNameB
  have hlen : s.data.toList.length = s.size := blen s
  cases hl : s.data.toList with
  | nil => rw [hl] at hlen; simp at hlen; omega
  | cons c r =>
    have e : s[0] = c := bhead hl h0
    have ha : (c :: r).all (fun b => nmC b.toNat) = true := by
      rw [List.all_eq_true]
      intro x hx
      rw [← hl] at hx
      obtain ⟨k, hk, rfl⟩ := List.getElem_of_mem hx
      rw [bget s k (by rw [← hlen]; exact hk)]
      exact hall k (by rw [← hlen]; exact hk)
    rw [e] at h1 h2
    rw [hl] at hlen
    rw [isNameL, ha]
    simp only [List.length_cons] at hlen ⊢
    simp; omega

theorem bytesRow_cell {w : World} {B : Nat} {s : ByteArray} {cap : Nat} {t : TypeId} {fr : Nat × Nat} (h : w.heap[B]? = some (.cells (bytesRow s cap) t fr)) (k : Nat) (hk : k < s.size) : w.cell? ⟨B, k, none⟩ = some (.int .u8 (s[k].toNat : Nat)) := by
  rw [cellOf h k]
  unfold bytesRow
  have hk' : k < s.data.size := hk
  rw [Array.getElem?_append_left (by rw [Array.size_map]; exact hk'), Array.getElem?_map, Array.getElem?_eq_getElem hk']
  rfl

set_option maxRecDepth 100000 in
set_option maxHeartbeats 2000000 in
theorem isName_call (s : ByteArray) (w : World) (hs : s.size ≤ 140737488351232) :
    Calls Tryz.prog 156 #[.string s] w fun e w' => e = .returned (.bool (isNameB s)) ∧ Below w.heap.size w w' := by
  have hcv := fun w s => run_bytes_of_string (P := Tryz.prog) w 9 153 5 s Tryz.underlying9 Tryz.underlying153 Tryz.underlying5
  by_cases he : s.toList = []
  · have HR := hid (isNameB_empty he)
    go_enter Tryz.func156, Tryz.ntmps156
    go_wp2
    go_ret
    exact ⟨retB HR.out.symm, Below.refl _ w⟩
  · by_cases hb : 32 < s.size
    · have HR := hid (isNameB_big hb)
      have hb' : (32 : Int) < (s.size : Int) := by omega
      go_enter Tryz.func156, Tryz.ntmps156
      go_wp2
      go_ret
      exact ⟨retB HR.out.symm, Below.refl _ w⟩
    · have h0 : 0 < s.size := by
        rcases Nat.eq_zero_or_pos s.size with h | h
        · exfalso; apply he; rw [ByteArray.toList_eq]; exact List.eq_nil_of_length_eq_zero (by rw [blen]; exact h)
        · exact h
      have hb' : (s.size : Int) ≤ 32 := by omega
      by_cases hf : s[0].toNat < 97 ∨ 122 < s[0].toNat
      · have HR := hid (isNameB_first h0 hf)
        rcases hf with hf | hf
        · have hf' : (s[0].toNat : Int) < 97 := by omega
          go_enter Tryz.func156, Tryz.ntmps156
          go_wp2
          go_ret
          exact ⟨retB HR.out.symm, Below.refl _ w⟩
        · have hf' : (122 : Int) < (s[0].toNat : Int) := by omega
          have hf'' : (97 : Int) ≤ (s[0].toNat : Int) := by omega
          go_enter Tryz.func156, Tryz.ntmps156
          go_wp2
          go_ret
          exact ⟨retB HR.out.symm, Below.refl _ w⟩
      · have hf1 : (97 : Int) ≤ (s[0].toNat : Int) := by omega
        have hf2 : (s[0].toNat : Int) ≤ 122 := by omega
        have hemp : s.toList.isEmpty = false := by cases hh : s.toList with | nil => exact absurd hh he | cons _ _ => rfl
        have hh1 : 97 ≤ s[0].toNat := by omega
        have hh2 : s[0].toNat ≤ 122 := by omega
        have HG := hid (fun hall => isNameB_good h0 (by omega) hh1 hh2 hall)
        clear hf he hh1 hh2
        obtain ⟨cap, hcap⟩ : ∃ cap, cap = grownCap w s.size 0 5 := ⟨_, rfl⟩
        have hcv1 := hcv w s
        rw [← hcap] at hcv1
        clear hcv hcap
        go_enter Tryz.func156, Tryz.ntmps156
        go_wp2
        clear hcv1
        obtain ⟨wo, hwo⟩ : ∃ wo, wo = (w.alloc (.cells (bytesRow s cap) 5 ((bytesRow s cap).size, (bytesRow s cap).size + 1))).drew := ⟨_, rfl⟩
        have hblk : wo.heap[w.heap.size]? = some (.cells (bytesRow s cap) 5 ((bytesRow s cap).size, (bytesRow s cap).size + 1)) := by rw [hwo]; exact heap_alloc_new w _
        have hbel : Below w.heap.size w wo := by rw [hwo]; exact ((Below.refl _ w).alloc (Nat.le_refl _) _).drew
        rw [← hwo]
        clear hwo
        go_loop [25] (fun i => ∃ k : Nat, k ≤ s.size ∧ i = .int .i64 k ∧ ∀ j (hj : j < s.size), j < k → nmC s[j].toNat = true) (fun i => s.size - (intOf i).toNat)
        case atStart => exact ⟨0, Nat.zero_le _, rfl, fun j _ h => absurd h (Nat.not_lt_zero _)⟩
        case round =>
          obtain ⟨k, hk, rfl, hall⟩ := hrel
          have HA := hid hall; clear hall
          by_cases hlt : k < s.size
          · have hcell := bytesRow_cell hblk k hlt
            have HB := hid hblk; clear hblk
            obtain ⟨c, hc⟩ : ∃ c, c = s[k].toNat := ⟨_, rfl⟩
            rw [← hc] at hcell
            have HC := hid hc; clear hc
            have hlt' : (k : Int) < (s.size : Int) := by omega
            have good : nmC c = true → ∀ j (hj : j < s.size), j < k + 1 → nmC s[j].toNat = true := fun hg j hj hjk => by
              by_cases h : j = k
              · subst h; rw [← HC.out]; exact hg
              · exact HA.out j hj (by omega)
            have bad : nmC c = false → isNameB s = false := fun hg => isNameB_bad k hlt (by rw [← HC.out]; exact hg)
            have HGood := hid good; clear good
            have HBad := hid bad; clear bad
            have h7 : c < 48 ∨ (48 ≤ c ∧ c ≤ 57) ∨ (57 < c ∧ c < 95) ∨ c = 95 ∨ (95 < c ∧ c < 97) ∨ (97 ≤ c ∧ c ≤ 122) ∨ 122 < c := by omega
            rcases h7 with h7 | ⟨h7, h8⟩ | ⟨h7, h8⟩ | h7 | ⟨h7, h8⟩ | ⟨h7, h8⟩ | h7
            case inl =>
              have i1 : (c : Int) < 97 := by omega
              have i2 : (c : Int) < 48 := by omega
              have i3 : ((c : Int) != 95) = true := by simp; omega
              go_wp2
              go_ret
              exact ⟨retB (HBad.out (by simp [nmC]; omega)).symm, hbel⟩
            case inr.inl =>
              have i1 : (c : Int) < 97 := by omega
              have i2 : (48 : Int) ≤ (c : Int) := by omega
              have i3 : (c : Int) ≤ 57 := by omega
              go_wp2
              go_round
              case rel => exact ⟨k + 1, by omega, by go_num, HGood.out (by simp [nmC]; omega)⟩
              case measure => simp [intOf]; omega
            case inr.inr.inl =>
              have i1 : (c : Int) < 97 := by omega
              have i2 : (48 : Int) ≤ (c : Int) := by omega
              have i4 : (57 : Int) < (c : Int) := by omega
              have i3 : ((c : Int) != 95) = true := by simp; omega
              go_wp2
              go_ret
              exact ⟨retB (HBad.out (by simp [nmC]; omega)).symm, hbel⟩
            case inr.inr.inr.inl =>
              subst h7
              go_wp2
              go_round
              case rel => exact ⟨k + 1, by omega, by go_num, HGood.out (by simp [nmC])⟩
              case measure => simp [intOf]; omega
            case inr.inr.inr.inr.inl =>
              have i1 : (c : Int) < 97 := by omega
              have i2 : (48 : Int) ≤ (c : Int) := by omega
              have i4 : (57 : Int) < (c : Int) := by omega
              have i3 : ((c : Int) != 95) = true := by simp; omega
              go_wp2
              go_ret
              exact ⟨retB (HBad.out (by simp [nmC]; omega)).symm, hbel⟩
            case inr.inr.inr.inr.inr.inl =>
              have i1 : (97 : Int) ≤ (c : Int) := by omega
              have i2 : (c : Int) ≤ 122 := by omega
              go_wp2
              go_round
              case rel => exact ⟨k + 1, by omega, by go_num, HGood.out (by simp [nmC]; omega)⟩
              case measure => simp [intOf]; omega
            case inr.inr.inr.inr.inr.inr =>
              have i1 : (97 : Int) ≤ (c : Int) := by omega
              have i4 : (122 : Int) < (c : Int) := by omega
              have i2 : (48 : Int) ≤ (c : Int) := by omega
              have i5 : (57 : Int) < (c : Int) := by omega
              have i3 : ((c : Int) != 95) = true := by simp; omega
              go_wp2
              go_ret
              exact ⟨retB (HBad.out (by simp [nmC]; omega)).symm, hbel⟩
          · have hge : ¬ ((k : Int) < (s.size : Int)) := by omega
            go_wp2
            go_ret
            exact ⟨retB (HG.out (fun j hj => HA.out j hj (by omega))).symm, hbel⟩
end Go.Proofs.YthjlgpmajeafpaaGreatDoor
