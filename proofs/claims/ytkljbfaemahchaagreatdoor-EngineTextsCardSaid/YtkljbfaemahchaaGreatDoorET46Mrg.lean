/-
  The plain law of requests and replies as texts: the parsers agree with the law's reading, and lead back. No program in sight.
-/
import Derived.Test.YtkljbfaemahchaaGreatDoorET12Mrg
import Derived.Test.YtkljbfaemahchaaGreatDoorET22Mrg
import Derived.Test.YtkljbfaemahchaaGreatDoorET45Mrg
import Derived.Test.YtkljbfaemahchaaGreatDoorET42Mrg
import Derived.Test.YtkljbfaemahchaaGreatDoorET11Mrg
import Derived.Lib.MinMax
namespace Go.Proofs.YtkljbfaemahchaaGreatDoor
set_option linter.unusedVariables false
set_option linter.unusedSimpArgs false
section
open Go Go.RowKit Go.Shelf
theorem nm_sp (c : UInt8) (h : nmC c.toNat = true) : c ≠ 32 := by rintro rfl; exact absurd h (by decide)
theorem name_sp {s : ByteArray} (h : isNameB s = true) : ∀ c ∈ s.data.toList, c ≠ 32 := by
  unfold isNameB at h
  intro c hc
  cases hl : s.data.toList with
  | nil => rw [hl] at hc; cases hc
  | cons a r =>
    rw [hl] at h hc
    simp only [isNameL, Bool.and_eq_true] at h
    exact nm_sp c (List.all_eq_true.1 h.2.2 c hc)
theorem dec_sp (n : Nat) : ∀ c ∈ (decB n).data.toList, c ≠ 32 := by
  intro c hc
  have := decDigits_all n c hc
  rintro rfl
  exact absurd this.1 (by decide)
theorem wd_sp (un : Bool) : ∀ c ∈ (wdB un).data.toList, c ≠ 32 := by cases un <;> decide
theorem dn_sp (dn : Bool) : ∀ c ∈ (dnB dn).data.toList, c ≠ 32 := by cases dn <;> decide
theorem wd_eq (un : Bool) : decide (wdB un = ⟨#[117, 110, 100, 111]⟩) = un := by cases un <;> decide
theorem dn_eq (dn : Bool) : decide (dnB dn = ⟨#[100, 111, 110, 101]⟩) = dn := by cases dn <;> decide
theorem fldF_inv {node : ByteArray} {call : Int} {d : Val} {ws : List ByteArray} {s : ByteArray} (h2 : (fldF node call d ws).2 = 0) (h1 : (fldF node call d ws).1 = s) :
    isNameB node = true ∧ 1 ≤ call ∧ call ≤ 999999999999999 ∧ (litF d).2 = 0 ∧ s = fldJ node call (litF d).1 ws ∧ s.size ≤ 65536 := by
  unfold fldF at h1 h2
  by_cases q1 : isNameB node = false
  · rw [if_pos q1] at h2; exact absurd h2 (by decide)
  rw [if_neg q1] at h1 h2
  by_cases q2 : call < 1 ∨ 999999999999999 < call
  · rw [if_pos q2] at h2; exact absurd h2 (by decide)
  rw [if_neg q2] at h1 h2
  by_cases q3 : isNullV d = false ∧ kindV d ≠ 9
  · rw [if_pos q3] at h2; exact absurd h2 (by decide)
  rw [if_neg q3] at h1 h2
  by_cases q4 : (litF d).2 ≠ 0
  · rw [if_pos q4] at h2; exact absurd h2 q4
  rw [if_neg q4] at h1 h2
  by_cases q5 : 65536 < (fldJ node call (litF d).1 ws).size
  · rw [if_pos q5] at h2; exact absurd h2 (by decide)
  rw [if_neg q5] at h1
  refine ⟨by simpa using q1, by omega, by omega, by omega, h1.symm, ?_⟩
  rw [← h1]
  dsimp only
  omega
theorem pieces4 {node : ByteArray} {n : Nat} {un : Bool} {t : ByteArray} (hn : isNameB node = true) : pieces 4 (fldJ node n t [wdB un]) = [node, decB n, wdB un, t] := by
  rw [fldJ1 _ _ _ _ (by omega)]
  have e0 : ((n : Int)).toNat = n := rfl
  rw [e0]
  have e : node ++ ⟨#[32]⟩ ++ decB n ++ ⟨#[32]⟩ ++ wdB un ++ ⟨#[]⟩ ++ ⟨#[32]⟩ ++ t = node ++ (⟨#[32]⟩ ++ (decB n ++ (⟨#[32]⟩ ++ (wdB un ++ (⟨#[32]⟩ ++ t))))) := by
    apply ByteArray.ext; simp [ByteArray.data_append]
  rw [e]
  unfold pieces
  rw [show min 4 ((node ++ (⟨#[32]⟩ ++ (decB n ++ (⟨#[32]⟩ ++ (wdB un ++ (⟨#[32]⟩ ++ t)))))).size + 1) - 1 = 3 by
    simp only [ByteArray.size_append]
    have e1 : (⟨#[32]⟩ : ByteArray).size = 1 := rfl
    omega]
  rw [splitB_word 2 _ _ (name_sp hn), splitB_word 1 _ _ (dec_sp n), splitB_word 0 _ _ (wd_sp un)]
  rfl
theorem pieces5 {node : ByteArray} {n : Nat} {un dn : Bool} {t : ByteArray} (hn : isNameB node = true) : pieces 5 (fldJ node n t [wdB un, dnB dn]) = [node, decB n, wdB un, dnB dn, t] := by
  rw [fldJ2 _ _ _ _ _ (by omega)]
  have e0 : ((n : Int)).toNat = n := rfl
  rw [e0]
  have em : moB dn = ⟨#[32]⟩ ++ dnB dn := by cases dn <;> decide
  rw [em]
  have e : node ++ ⟨#[32]⟩ ++ decB n ++ ⟨#[32]⟩ ++ wdB un ++ (⟨#[32]⟩ ++ dnB dn) ++ ⟨#[32]⟩ ++ t = node ++ (⟨#[32]⟩ ++ (decB n ++ (⟨#[32]⟩ ++ (wdB un ++ (⟨#[32]⟩ ++ (dnB dn ++ (⟨#[32]⟩ ++ t))))))) := by
    apply ByteArray.ext; simp [ByteArray.data_append]
  rw [e]
  unfold pieces
  rw [show min 5 ((node ++ (⟨#[32]⟩ ++ (decB n ++ (⟨#[32]⟩ ++ (wdB un ++ (⟨#[32]⟩ ++ (dnB dn ++ (⟨#[32]⟩ ++ t)))))))).size + 1) - 1 = 4 by
    simp only [ByteArray.size_append]
    have e1 : (⟨#[32]⟩ : ByteArray).size = 1 := rfl
    omega]
  rw [splitB_word 3 _ _ (name_sp hn), splitB_word 2 _ _ (dec_sp n), splitB_word 1 _ _ (wd_sp un), splitB_word 0 _ _ (dn_sp dn)]
  rfl
theorem eNum_decB (n : Nat) (h : n ≤ 999999999999999) : eNum (decB n).data.toList = ((n : Int), true) := eNum_dec n (by omega)
theorem lNum_decB (n : Nat) (h : n ≤ 999999999999999) : lNum (decB n).data.toList 999999999999999 = (n, true) := lNum_dec _ n h (by omega)
theorem req_of {node : ByteArray} {call : Int} {un : Bool} {d : Val} {s : ByteArray} (h2 : (fldF node call d [wdB un]).2 = 0) (h1 : (fldF node call d [wdB un]).1 = s) (hd : parF (litF d).1 = (d, 0, 0)) : pReq s = ((node, call, un, d), 0) ∧ lReq s = ((node, call, un, d), true) := by
  obtain ⟨a1, a2, a3, a4, a5, a6⟩ := fldF_inv h2 h1
  obtain ⟨n, rfl⟩ : ∃ n : Nat, call = n := ⟨call.toNat, by omega⟩
  have hp : pieces 4 s = [node, decB n, wdB un, (litF d).1] := by rw [a5]; exact pieces4 a1
  have hne := eNum_decB n (by omega)
  have hnl := lNum_decB n (by omega)
  constructor
  · unfold pReq
    rw [hp]
    dsimp only
    rw [hne, hd, wd_eq]
    dsimp only
    rw [if_neg]
    rintro (h | h | h)
    · exact h rfl
    · exact h h2
    · exact h h1
  · unfold lReq
    rw [hp]
    dsimp only
    rw [hnl, hd, wd_eq]
    dsimp only
    rw [decide_eq_true (⟨h2, h1⟩ : (fldF node (n : Int) d [wdB un]).2 = 0 ∧ (fldF node (n : Int) d [wdB un]).1 = s)]
theorem rep_of {node : ByteArray} {call : Int} {un dn : Bool} {d : Val} {s : ByteArray} (h2 : (fldF node call d [wdB un, dnB dn]).2 = 0) (h1 : (fldF node call d [wdB un, dnB dn]).1 = s) (hd : parF (litF d).1 = (d, 0, 0)) : pRep s = ((node, call, un, dn, d), 0) ∧ lRep s = ((node, call, un, dn, d), true) := by
  obtain ⟨a1, a2, a3, a4, a5, a6⟩ := fldF_inv h2 h1
  obtain ⟨n, rfl⟩ : ∃ n : Nat, call = n := ⟨call.toNat, by omega⟩
  have hp : pieces 5 s = [node, decB n, wdB un, dnB dn, (litF d).1] := by rw [a5]; exact pieces5 a1
  have hne := eNum_decB n (by omega)
  have hnl := lNum_decB n (by omega)
  constructor
  · unfold pRep
    rw [hp]
    dsimp only
    rw [hne, hd, wd_eq, dn_eq]
    dsimp only
    rw [if_neg]
    rintro (h | h | h)
    · exact h rfl
    · exact h h2
    · exact h h1
  · unfold lRep
    rw [hp]
    dsimp only
    rw [hnl, hd, wd_eq, dn_eq]
    dsimp only
    rw [decide_eq_true (⟨h2, h1⟩ : (fldF node (n : Int) d [wdB un, dnB dn]).2 = 0 ∧ (fldF node (n : Int) d [wdB un, dnB dn]).1 = s)]
end
section
open Go Go.RowKit Go.Shelf
theorem stQ (w : World) (n : ByteArray) (c : Int) (u : Bool) (v : VC) : (storeCells ⟨w.heap.size, 0, none⟩ [.string n, .int .i64 c, .bool u, .int .i64 v.k, .int .i64 v.i, .int .i64 v.s, .string v.t, .slice v.la v.ll v.lc, .slice v.fa v.fl v.fc] 0).run Tryz.prog (w.alloc (.cells #[.string ⟨#[]⟩, .int .i64 0, .bool false, .int .i64 0, .int .i64 0, .int .i64 0, .string ⟨#[]⟩, .slice none 0 0, .slice none 0 0] 48)) = .ok () (w.alloc (.cells #[.string n, .int .i64 c, .bool u, .int .i64 v.k, .int .i64 v.i, .int .i64 v.s, .string v.t, .slice v.la v.ll v.lc, .slice v.fa v.fl v.fc] 48)) :=
  stNew w 48 #[.string ⟨#[]⟩, .int .i64 0, .bool false, .int .i64 0, .int .i64 0, .int .i64 0, .string ⟨#[]⟩, .slice none 0 0, .slice none 0 0] [.string n, .int .i64 c, .bool u, .int .i64 v.k, .int .i64 v.i, .int .i64 v.s, .string v.t, .slice v.la v.ll v.lc, .slice v.fa v.fl v.fc] infoT4 rfl (by simp [Value.oneCell'])
theorem stR (w : World) (n : ByteArray) (c : Int) (u f : Bool) (v : VC) : (storeCells ⟨w.heap.size, 0, none⟩ [.string n, .int .i64 c, .bool u, .bool f, .int .i64 v.k, .int .i64 v.i, .int .i64 v.s, .string v.t, .slice v.la v.ll v.lc, .slice v.fa v.fl v.fc] 0).run Tryz.prog (w.alloc (.cells #[.string ⟨#[]⟩, .int .i64 0, .bool false, .bool false, .int .i64 0, .int .i64 0, .int .i64 0, .string ⟨#[]⟩, .slice none 0 0, .slice none 0 0] 45)) = .ok () (w.alloc (.cells #[.string n, .int .i64 c, .bool u, .bool f, .int .i64 v.k, .int .i64 v.i, .int .i64 v.s, .string v.t, .slice v.la v.ll v.lc, .slice v.fa v.fl v.fc] 45)) :=
  stNew w 45 #[.string ⟨#[]⟩, .int .i64 0, .bool false, .bool false, .int .i64 0, .int .i64 0, .int .i64 0, .string ⟨#[]⟩, .slice none 0 0, .slice none 0 0] [.string n, .int .i64 c, .bool u, .bool f, .int .i64 v.k, .int .i64 v.i, .int .i64 v.s, .string v.t, .slice v.la v.ll v.lc, .slice v.fa v.fl v.fc] infoT5 rfl (by simp [Value.oneCell'])
theorem ldAt {w : World} {b k : Nat} {cs : Array Value} {t : TypeId} {fr : Nat × Nat} {x0 x1 x2 x3 x4 x5 : Value} (h : w.heap[b]? = some (.cells cs t fr)) (h0 : cs[k]? = some x0) (h1 : cs[k + 1]? = some x1) (h2 : cs[k + 2]? = some x2) (h3 : cs[k + 3]? = some x3) (h4 : cs[k + 4]? = some x4) (h5 : cs[k + 5]? = some x5) :
    (loadCellsFrom ⟨b, k, none⟩ 0 6 #[]).run Tryz.prog w = .ok #[x0, x1, x2, x3, x4, x5] w := by
  have := run_loadCells_list (P := Tryz.prog) w ⟨b, k, none⟩ [x0, x1, x2, x3, x4, x5] (fun j v hv => by
    rw [add_at, cellOf h (k + j)]
    have hj : j < 6 := (List.getElem?_eq_some_iff.1 hv).1
    have : j = 0 ∨ j = 1 ∨ j = 2 ∨ j = 3 ∨ j = 4 ∨ j = 5 := by omega
    rcases this with rfl | rfl | rfl | rfl | rfl | rfl <;> simp at hv <;> subst hv <;> assumption)
  exact this
section
attribute [-go_sem] loadCellsFrom storeCells
attribute [local go_sem] lcf0 lcf1 lcf2 lcf3 lcf4 lcf5 stc0 stc1
end
end
end Go.Proofs.YtkljbfaemahchaaGreatDoor
