/-
  Plain: whether two values, or two messages, compare as equal does not hang on their order. No program in sight.
-/
import Derived.Test.YtkcoicijenclhaaGreatDoorRefl
import Derived.Test.YtkcoicijenclhaaGreatDoorSame2
namespace Go.Proofs.YtkcoicijenclhaaGreatDoor
open Go Go.RowKit
set_option linter.unusedVariables false
set_option linter.unusedSimpArgs false

theorem orL_cons (x : Int) (r : List Int) : orL (x :: r) = 0 ↔ x = 0 ∧ orL r = 0 := by
  rw [orL]
  by_cases h : x = 0
  · simp [h]
  · simp [h]
theorem cmpB_zero : ∀ {xs ys : List UInt8}, Lib.compareBytes xs ys = 0 → xs = ys
  | [], [], _ => rfl
  | [], _ :: _, h => by simp [Lib.compareBytes] at h
  | _ :: _, [], h => by simp [Lib.compareBytes] at h
  | a :: r, b :: q, h => by
    rw [Lib.compareBytes] at h
    split at h
    · simp at h
    · rename_i h1
      split at h
      · simp at h
      · rename_i h2
        have hab : a = b := UInt8.le_antisymm (UInt8.not_lt.1 h2) (UInt8.not_lt.1 h1)
        rw [hab, cmpB_zero h]
mutual
theorem cmpV_symm : ∀ (d d2 : Val), cmpV d d2 = 0 → cmpV d2 d = 0
  | .mk k i s t l ns fs, .mk k' i' s' t' l' ns' fs', h => by
    rw [cmpV] at h ⊢
    simp only [orL_cons] at h ⊢
    obtain ⟨h1, h2, h3, h4, h5, h6, h7⟩ := h
    refine ⟨?_, ?_, ?_, ?_, cmpVs_symm l l' h5, cmpFs_symm fs ns ns' fs' h6, h7⟩
    · rw [cmpInt_zero h1, cmpInt_refl]
    · rw [cmpInt_zero h2, cmpInt_refl]
    · rw [cmpInt_zero h3, cmpInt_refl]
    · rw [cmpB_zero h4, cmpB_refl]
theorem cmpVs_symm : ∀ (l l' : List Val), cmpVs l l' = 0 → cmpVs l' l = 0
  | [], [], _ => rfl
  | [], _ :: _, h => by rw [cmpVs] at h; cases h
  | _ :: _, [], h => by rw [cmpVs] at h; cases h
  | d :: l, d' :: l', h => by
    rw [cmpVs] at h ⊢
    by_cases h1 : cmpV d d' = 0
    · rw [if_neg (by simpa using h1)] at h
      rw [if_neg (by simpa using cmpV_symm d d' h1)]
      exact cmpVs_symm l l' h
    · rw [if_pos h1] at h
      exact absurd h h1
theorem cmpFs_symm : ∀ (l : List Val) (ns ns' : List ByteArray) (l' : List Val), cmpFs ns l ns' l' = 0 → cmpFs ns' l' ns l = 0
  | [], ns, ns', [], _ => by rw [cmpFs]
  | [], ns, ns', _ :: _, h => by rw [cmpFs] at h; cases h
  | _ :: _, ns, ns', [], h => by rw [cmpFs] at h; cases h
  | d :: l, ns, ns', d' :: l', h => by
    rw [cmpFs] at h ⊢
    by_cases h1 : orL [Lib.compareBytes (ns.headD ByteArray.empty).data.toList (ns'.headD ByteArray.empty).data.toList, cmpV d d'] = 0
    · rw [if_neg (by simpa using h1)] at h
      simp only [orL_cons] at h1
      obtain ⟨h2, h3, h4⟩ := h1
      have h5 : orL [Lib.compareBytes (ns'.headD ByteArray.empty).data.toList (ns.headD ByteArray.empty).data.toList, cmpV d' d] = 0 := by
        simp only [orL_cons]
        exact ⟨by rw [cmpB_zero h2, cmpB_refl], cmpV_symm d d' h3, h4⟩
      rw [if_neg (fun h => h h5)]
      exact cmpFs_symm l ns.tail ns'.tail l' h
    · rw [if_pos h1] at h
      exact absurd h h1
end
theorem msgEqB_symm (d d2 : Msg) : msgEqB d d2 = msgEqB d2 d := by
  have hv : (cmpV d.b d2.b == 0) = (cmpV d2.b d.b == 0) := by
    rw [Bool.eq_iff_iff]
    simp only [beq_iff_eq]
    exact ⟨cmpV_symm _ _, cmpV_symm _ _⟩
  have hs : stEqB d.st d2.st = stEqB d2.st d.st := by
    rw [stEqB, stEqB, decide_eq_decide]
    exact ⟨fun h => ⟨h.1.symm, h.2.symm⟩, fun h => ⟨h.1.symm, h.2.symm⟩⟩
  have hm : decide (d.m = d2.m) = decide (d2.m = d.m) := by rw [decide_eq_decide]; exact eq_comm
  have he : decide (d.es = d2.es) = decide (d2.es = d.es) := by rw [decide_eq_decide]; exact eq_comm
  rw [msgEqB, msgEqB, hv, hs, hm, he]
end Go.Proofs.YtkcoicijenclhaaGreatDoor
