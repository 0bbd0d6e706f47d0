/-
  The plain law of requests and replies as texts: the parsers agree with the law's reading, and lead back. No program in sight.
-/
import Derived.Test.YtkljbfaemahchaaGreatDoorEP12Mrg
import Derived.Test.YtkljbfaemahchaaGreatDoorEP44Mrg
import Derived.Test.YtkljbfaemahchaaGreatDoorEP41Mrg
import Derived.Test.YtkljbfaemahchaaGreatDoorEP11Mrg
import Derived.Lib.MinMax
namespace Go.Proofs.YtkljbfaemahchaaGreatDoor
set_option linter.unusedVariables false
set_option linter.unusedSimpArgs false
section
open Go Go.RowKit Go.Shelf
theorem index_sp (r : List UInt8) : ∀ l : List UInt8, (∀ c ∈ l, c ≠ 32) → Lib.index (l ++ 32 :: r) [32] = l.length
  | [], _ => by simp [Lib.index]
  | c :: l, h => by
    have := index_sp r l (fun d hd => h d (List.mem_cons_of_mem _ hd))
    have hc := h c (List.mem_cons_self ..)
    simp only [List.cons_append, Lib.index]
    rw [this]
    simp [hc]
    intro e; exact absurd e.symm hc
theorem splitB_word (k : Nat) (x r : ByteArray) (hx : ∀ c ∈ x.data.toList, c ≠ 32) : Lib.splitB ⟨#[32]⟩ 0 (k + 1) (x ++ (⟨#[32]⟩ ++ r)) = x :: Lib.splitB ⟨#[32]⟩ 0 k r := by
  have hi : Lib.indexB (x ++ (⟨#[32]⟩ ++ r)) ⟨#[32]⟩ = x.size := by
    unfold Lib.indexB
    rw [ByteArray.data_append, ByteArray.data_append, Array.toList_append, Array.toList_append]
    have := index_sp r.data.toList x.data.toList hx
    rw [blen] at this
    exact this
  rw [Lib.splitB_hit _ _ _ _ _ hi]
  congr 1
  · apply ByteArray.ext; apply Array.ext'
    rw [ByteArray.data_extract, Array.toList_extract, ByteArray.data_append, Array.toList_append]
    simp [List.extract_eq_take_drop]
  · congr 1
    apply ByteArray.ext; apply Array.ext'
    rw [ByteArray.data_extract, Array.toList_extract, ByteArray.data_append, ByteArray.data_append, Array.toList_append, Array.toList_append, List.extract_eq_take_drop]
    have e1 : (⟨#[32]⟩ : ByteArray).size = 1 := rfl
    rw [ByteArray.size_append, ByteArray.size_append, e1, ← List.append_assoc, List.drop_append, List.drop_of_length_le (by rw [List.length_append, blen]; simp)]
    simp only [List.nil_append, List.length_append, blen]
    rw [show x.size + 1 - (x.size + (#[32] : Array UInt8).toList.length) = 0 by simp, List.drop_zero, List.take_of_length_le (by rw [blen]; omega)]
theorem nm_sp (c : UInt8) (h : nmC c.toNat = true) : c ≠ 32 := by rintro rfl; exact absurd h (by decide)
theorem name_sp {s : ByteArray} (h : isNameB s = true) : ∀ c ∈ s.data.toList, c ≠ 32 := by
  unfold isNameB at h
  intro c hc
  cases hl : s.data.toList with
  | nil => rw [hl] at hc; cases hc
  | cons a r =>
    rw [hl] at h hc
    simp only [isNameL, Bool.and_eq_true] at h
    exact nm_sp c (List.all_eq_true.1 h.2.2 c hc)
theorem dec_sp (n : Nat) : ∀ c ∈ (decB n).data.toList, c ≠ 32 := by
  intro c hc
  have := decDigits_all n c hc
  rintro rfl
  exact absurd this.1 (by decide)
theorem wd_sp (un : Bool) : ∀ c ∈ (wdB un).data.toList, c ≠ 32 := by cases un <;> decide
theorem dn_sp (dn : Bool) : ∀ c ∈ (dnB dn).data.toList, c ≠ 32 := by cases dn <;> decide
theorem wd_eq (un : Bool) : decide (wdB un = ⟨#[117, 110, 100, 111]⟩) = un := by cases un <;> decide
theorem dn_eq (dn : Bool) : decide (dnB dn = ⟨#[100, 111, 110, 101]⟩) = dn := by cases dn <;> decide
theorem fldF_inv {node : ByteArray} {call : Int} {d : Val} {ws : List ByteArray} {s : ByteArray} (h2 : (fldF node call d ws).2 = 0) (h1 : (fldF node call d ws).1 = s) :
    isNameB node = true ∧ 1 ≤ call ∧ call ≤ 999999999999999 ∧ (litF d).2 = 0 ∧ s = fldJ node call (litF d).1 ws ∧ s.size ≤ 65536 := by
  unfold fldF at h1 h2
  by_cases q1 : isNameB node = false
  · rw [if_pos q1] at h2; exact absurd h2 (by decide)
  rw [if_neg q1] at h1 h2
  by_cases q2 : call < 1 ∨ 999999999999999 < call
  · rw [if_pos q2] at h2; exact absurd h2 (by decide)
  rw [if_neg q2] at h1 h2
  by_cases q3 : isNullV d = false ∧ kindV d ≠ 9
  · rw [if_pos q3] at h2; exact absurd h2 (by decide)
  rw [if_neg q3] at h1 h2
  by_cases q4 : (litF d).2 ≠ 0
  · rw [if_pos q4] at h2; exact absurd h2 q4
  rw [if_neg q4] at h1 h2
  by_cases q5 : 65536 < (fldJ node call (litF d).1 ws).size
  · rw [if_pos q5] at h2; exact absurd h2 (by decide)
  rw [if_neg q5] at h1
  refine ⟨by simpa using q1, by omega, by omega, by omega, h1.symm, ?_⟩
  rw [← h1]
  dsimp only
  omega
theorem pieces4 {node : ByteArray} {n : Nat} {un : Bool} {t : ByteArray} (hn : isNameB node = true) : pieces 4 (fldJ node n t [wdB un]) = [node, decB n, wdB un, t] := by
  rw [fldJ1 _ _ _ _ (by omega)]
  have e0 : ((n : Int)).toNat = n := rfl
  rw [e0]
  have e : node ++ ⟨#[32]⟩ ++ decB n ++ ⟨#[32]⟩ ++ wdB un ++ ⟨#[]⟩ ++ ⟨#[32]⟩ ++ t = node ++ (⟨#[32]⟩ ++ (decB n ++ (⟨#[32]⟩ ++ (wdB un ++ (⟨#[32]⟩ ++ t))))) := by
    apply ByteArray.ext; simp [ByteArray.data_append]
  rw [e]
  unfold pieces
  rw [show min 4 ((node ++ (⟨#[32]⟩ ++ (decB n ++ (⟨#[32]⟩ ++ (wdB un ++ (⟨#[32]⟩ ++ t)))))).size + 1) - 1 = 3 by
    simp only [ByteArray.size_append]
    have e1 : (⟨#[32]⟩ : ByteArray).size = 1 := rfl
    omega]
  rw [splitB_word 2 _ _ (name_sp hn), splitB_word 1 _ _ (dec_sp n), splitB_word 0 _ _ (wd_sp un)]
  rfl
theorem pieces5 {node : ByteArray} {n : Nat} {un dn : Bool} {t : ByteArray} (hn : isNameB node = true) : pieces 5 (fldJ node n t [wdB un, dnB dn]) = [node, decB n, wdB un, dnB dn, t] := by
  rw [fldJ2 _ _ _ _ _ (by omega)]
  have e0 : ((n : Int)).toNat = n := rfl
  rw [e0]
  have em : moB dn = ⟨#[32]⟩ ++ dnB dn := by cases dn <;> decide
  rw [em]
  have e : node ++ ⟨#[32]⟩ ++ decB n ++ ⟨#[32]⟩ ++ wdB un ++ (⟨#[32]⟩ ++ dnB dn) ++ ⟨#[32]⟩ ++ t = node ++ (⟨#[32]⟩ ++ (decB n ++ (⟨#[32]⟩ ++ (wdB un ++ (⟨#[32]⟩ ++ (dnB dn ++ (⟨#[32]⟩ ++ t))))))) := by
    apply ByteArray.ext; simp [ByteArray.data_append]
  rw [e]
  unfold pieces
  rw [show min 5 ((node ++ (⟨#[32]⟩ ++ (decB n ++ (⟨#[32]⟩ ++ (wdB un ++ (⟨#[32]⟩ ++ (dnB dn ++ (⟨#[32]⟩ ++ t)))))))).size + 1) - 1 = 4 by
    simp only [ByteArray.size_append]
    have e1 : (⟨#[32]⟩ : ByteArray).size = 1 := rfl
    omega]
  rw [splitB_word 3 _ _ (name_sp hn), splitB_word 2 _ _ (dec_sp n), splitB_word 1 _ _ (wd_sp un), splitB_word 0 _ _ (dn_sp dn)]
  rfl
theorem litF_ok {d : Val} (h : (litF d).2 = 0) : (isNullV d = true ∨ chkVal d = 0) ∧ (litF d).1.data.toList = txt d := by
  unfold litF at *
  by_cases q1 : isNullV d = false ∧ chkVal d ≠ 0
  · rw [if_pos q1] at h; exact absurd h q1.2
  rw [if_neg q1] at *
  by_cases q2 : 65536 < (txt d).length
  · rw [if_pos q2] at h; exact absurd h (by decide)
  rw [if_neg q2]
  refine ⟨?_, rfl⟩
  cases hb : isNullV d
  · right
    exact Classical.byContradiction fun hc => q1 ⟨hb, hc⟩
  · exact .inl rfl
theorem parF_null {e : ByteArray} (h : (litF nulV).1 = e) : parF e = (nulV, 0, 0) := by
  have h0 : (litF nulV).2 = 0 := by
    unfold litF
    have hz : isNullV nulV = true := by simp [isNullV, nulV, isNullB]
    have ht : (txt nulV).length = 4 := by kernel_rfl
    rw [if_neg (by rw [hz]; simp), if_neg (by omega)]
  have hz := litF_size nulV
  refine parF_txt ?_ (by rw [← h]; exact hz) (.inr rfl)
  rw [← h]; exact (litF_ok h0).2
theorem parF_bad (s : ByteArray) (h : (parF s).2.2 ≠ 0) : (parF s).1 = nulV := by
  have : ∀ q : Val × Nat × Int, q = parF s → q.2.2 ≠ 0 → q.1 = nulV := by
    intro q hq h0
    unfold parF at hq
    extract_lets q0 e0 at hq
    by_cases he : e0 ≠ 0
    · rw [if_pos he] at hq; subst hq; rfl
    · rw [if_neg he] at hq; subst hq; exact absurd rfl h0
  exact this _ rfl h
theorem parF_ok {e : ByteArray} (h : (litF (parF e).1).2 = 0) (he : (litF (parF e).1).1 = e) : (parF e).2.2 = 0 := by
  by_cases h0 : (parF e).2.2 = 0
  · exact h0
  · rw [parF_bad e h0] at he
    rw [parF_null he]
theorem eNum_decB (n : Nat) (h : n ≤ 999999999999999) : eNum (decB n).data.toList = ((n : Int), true) := eNum_dec n (by omega)
theorem lNum_decB (n : Nat) (h : n ≤ 999999999999999) : lNum (decB n).data.toList 999999999999999 = (n, true) := lNum_dec _ n h (by omega)
theorem req_of {node : ByteArray} {call : Int} {un : Bool} {d : Val} {s : ByteArray} (h2 : (fldF node call d [wdB un]).2 = 0) (h1 : (fldF node call d [wdB un]).1 = s) (hd : parF (litF d).1 = (d, 0, 0)) : pReq s = ((node, call, un, d), 0) ∧ lReq s = ((node, call, un, d), true) := by
  obtain ⟨a1, a2, a3, a4, a5, a6⟩ := fldF_inv h2 h1
  obtain ⟨n, rfl⟩ : ∃ n : Nat, call = n := ⟨call.toNat, by omega⟩
  have hp : pieces 4 s = [node, decB n, wdB un, (litF d).1] := by rw [a5]; exact pieces4 a1
  have hne := eNum_decB n (by omega)
  have hnl := lNum_decB n (by omega)
  constructor
  · unfold pReq
    rw [hp]
    dsimp only
    rw [hne, hd, wd_eq]
    dsimp only
    rw [if_neg]
    rintro (h | h | h)
    · exact h rfl
    · exact h h2
    · exact h h1
  · unfold lReq
    rw [hp]
    dsimp only
    rw [hnl, hd, wd_eq]
    dsimp only
    rw [decide_eq_true (⟨h2, h1⟩ : (fldF node (n : Int) d [wdB un]).2 = 0 ∧ (fldF node (n : Int) d [wdB un]).1 = s)]
theorem rep_of {node : ByteArray} {call : Int} {un dn : Bool} {d : Val} {s : ByteArray} (h2 : (fldF node call d [wdB un, dnB dn]).2 = 0) (h1 : (fldF node call d [wdB un, dnB dn]).1 = s) (hd : parF (litF d).1 = (d, 0, 0)) : pRep s = ((node, call, un, dn, d), 0) ∧ lRep s = ((node, call, un, dn, d), true) := by
  obtain ⟨a1, a2, a3, a4, a5, a6⟩ := fldF_inv h2 h1
  obtain ⟨n, rfl⟩ : ∃ n : Nat, call = n := ⟨call.toNat, by omega⟩
  have hp : pieces 5 s = [node, decB n, wdB un, dnB dn, (litF d).1] := by rw [a5]; exact pieces5 a1
  have hne := eNum_decB n (by omega)
  have hnl := lNum_decB n (by omega)
  constructor
  · unfold pRep
    rw [hp]
    dsimp only
    rw [hne, hd, wd_eq, dn_eq]
    dsimp only
    rw [if_neg]
    rintro (h | h | h)
    · exact h rfl
    · exact h h2
    · exact h h1
  · unfold lRep
    rw [hp]
    dsimp only
    rw [hnl, hd, wd_eq, dn_eq]
    dsimp only
    rw [decide_eq_true (⟨h2, h1⟩ : (fldF node (n : Int) d [wdB un, dnB dn]).2 = 0 ∧ (fldF node (n : Int) d [wdB un, dnB dn]).1 = s)]
theorem par_self {e : ByteArray} {d : Val} (hd : d = (parF e).1) (h : (litF d).2 = 0) (he : (litF d).1 = e) : parF (litF d).1 = (d, 0, 0) := by
  subst hd
  have h0 := parF_ok h he
  rw [he]
  have : ∀ q : Val × Nat × Int, q = parF e → q.2.2 = 0 → q = (q.1, 0, 0) := by
    intro q hq h0
    unfold parF at hq
    extract_lets q0 e0 at hq
    by_cases he : e0 ≠ 0
    · rw [if_pos he] at hq; subst hq; exact absurd h0 he
    · rw [if_neg he] at hq; subst hq; rfl
  exact this _ rfl h0
theorem req_agree (s : ByteArray) : (lReq s).2 = true ∧ pReq s = ((lReq s).1, 0) ∨ (lReq s).2 = false ∧ (pReq s).2 = 3 := by
  cases hl : (lReq s).2
  · right
    refine ⟨rfl, ?_⟩
    by_cases h3 : (pReq s).2 = 3
    · exact h3
    · exfalso
      unfold pReq at h3
      split at h3
      · rename_i a b c e hp
        by_cases hbad : (parF e).2.2 ≠ 0 ∨ (fldF a ((eNum b.data.toList).1) (parF e).1 [wdB (decide (c = ⟨#[117, 110, 100, 111]⟩))]).2 ≠ 0 ∨ (fldF a ((eNum b.data.toList).1) (parF e).1 [wdB (decide (c = ⟨#[117, 110, 100, 111]⟩))]).1 ≠ s
        · rw [if_pos hbad] at h3; exact h3 rfl
        · have g0 : (parF e).2.2 = 0 := Classical.byContradiction fun h => hbad (.inl h)
          have g2 := Classical.byContradiction fun h => hbad (.inr (.inl h))
          have g1 := Classical.byContradiction fun h => hbad (.inr (.inr h))
          obtain ⟨a1, a2, a3, a4, a5, a6⟩ := fldF_inv g2 g1
          obtain ⟨n, hn⟩ : ∃ n : Nat, (eNum b.data.toList).1 = n := ⟨_, (Int.toNat_of_nonneg (by omega)).symm⟩
          rw [hn] at a5
          have hp2 := pieces4 (n := n) (un := decide (c = ⟨#[117, 110, 100, 111]⟩)) (t := (litF (parF e).1).1) a1
          rw [← a5] at hp2
          rw [hp] at hp2
          have he : (litF (parF e).1).1 = e := by injection hp2 with _ h; injection h with _ h; injection h with _ h; injection h with h _; exact h.symm
          have := (req_of g2 g1 (par_self rfl a4 he)).2
          rw [this] at hl
          exact absurd hl (by simp)
      · exact h3 rfl
  · left
    refine ⟨rfl, ?_⟩
    unfold lReq at hl
    split at hl
    · rename_i a b c e hp
      have hg := of_decide_eq_true hl
      obtain ⟨a1, a2, a3, a4, a5, a6⟩ := fldF_inv hg.1 hg.2
      have hp2 := pieces4 (n := (lNum b.data.toList 999999999999999).1) (un := decide (c = ⟨#[117, 110, 100, 111]⟩)) (t := (litF (parF e).1).1) a1
      rw [← a5] at hp2
      rw [hp] at hp2
      have he : (litF (parF e).1).1 = e := by injection hp2 with _ h; injection h with _ h; injection h with _ h; injection h with h _; exact h.symm
      obtain ⟨r1, r2⟩ := req_of hg.1 hg.2 (par_self rfl a4 he)
      rw [r1, r2]
    · exact absurd hl (by decide)
theorem rep_agree (s : ByteArray) : (lRep s).2 = true ∧ pRep s = ((lRep s).1, 0) ∨ (lRep s).2 = false ∧ (pRep s).2 = 3 := by
  cases hl : (lRep s).2
  · right
    refine ⟨rfl, ?_⟩
    by_cases h3 : (pRep s).2 = 3
    · exact h3
    · exfalso
      unfold pRep at h3
      split at h3
      · rename_i a b c dd e hp
        by_cases hbad : (parF e).2.2 ≠ 0 ∨ (fldF a ((eNum b.data.toList).1) (parF e).1 [wdB (decide (c = ⟨#[117, 110, 100, 111]⟩)), dnB (decide (dd = ⟨#[100, 111, 110, 101]⟩))]).2 ≠ 0 ∨ (fldF a ((eNum b.data.toList).1) (parF e).1 [wdB (decide (c = ⟨#[117, 110, 100, 111]⟩)), dnB (decide (dd = ⟨#[100, 111, 110, 101]⟩))]).1 ≠ s
        · rw [if_pos hbad] at h3; exact h3 rfl
        · have g0 : (parF e).2.2 = 0 := Classical.byContradiction fun h => hbad (.inl h)
          have g2 := Classical.byContradiction fun h => hbad (.inr (.inl h))
          have g1 := Classical.byContradiction fun h => hbad (.inr (.inr h))
          obtain ⟨a1, a2, a3, a4, a5, a6⟩ := fldF_inv g2 g1
          obtain ⟨n, hn⟩ : ∃ n : Nat, (eNum b.data.toList).1 = n := ⟨_, (Int.toNat_of_nonneg (by omega)).symm⟩
          rw [hn] at a5
          have hp2 := pieces5 (n := n) (un := decide (c = ⟨#[117, 110, 100, 111]⟩)) (dn := decide (dd = ⟨#[100, 111, 110, 101]⟩)) (t := (litF (parF e).1).1) a1
          rw [← a5] at hp2
          rw [hp] at hp2
          have he : (litF (parF e).1).1 = e := by injection hp2 with _ h; injection h with _ h; injection h with _ h; injection h with _ h; injection h with h _; exact h.symm
          have := (rep_of g2 g1 (par_self rfl a4 he)).2
          rw [this] at hl
          exact absurd hl (by simp)
      · exact h3 rfl
  · left
    refine ⟨rfl, ?_⟩
    unfold lRep at hl
    split at hl
    · rename_i a b c dd e hp
      have hg := of_decide_eq_true hl
      obtain ⟨a1, a2, a3, a4, a5, a6⟩ := fldF_inv hg.1 hg.2
      have hp2 := pieces5 (n := (lNum b.data.toList 999999999999999).1) (un := decide (c = ⟨#[117, 110, 100, 111]⟩)) (dn := decide (dd = ⟨#[100, 111, 110, 101]⟩)) (t := (litF (parF e).1).1) a1
      rw [← a5] at hp2
      rw [hp] at hp2
      have he : (litF (parF e).1).1 = e := by injection hp2 with _ h; injection h with _ h; injection h with _ h; injection h with _ h; injection h with h _; exact h.symm
      obtain ⟨r1, r2⟩ := rep_of hg.1 hg.2 (par_self rfl a4 he)
      rw [r1, r2]
    · exact absurd hl (by decide)
end
section
open Go Go.RowKit Go.Shelf
theorem stQ (w : World) (n : ByteArray) (c : Int) (u : Bool) (v : VC) : (storeCells ⟨w.heap.size, 0, none⟩ [.string n, .int .i64 c, .bool u, .int .i64 v.k, .int .i64 v.i, .int .i64 v.s, .string v.t, .slice v.la v.ll v.lc, .slice v.fa v.fl v.fc] 0).run Tryz.prog (w.alloc (.cells #[.string ⟨#[]⟩, .int .i64 0, .bool false, .int .i64 0, .int .i64 0, .int .i64 0, .string ⟨#[]⟩, .slice none 0 0, .slice none 0 0] 48)) = .ok () (w.alloc (.cells #[.string n, .int .i64 c, .bool u, .int .i64 v.k, .int .i64 v.i, .int .i64 v.s, .string v.t, .slice v.la v.ll v.lc, .slice v.fa v.fl v.fc] 48)) :=
  stNew w 48 #[.string ⟨#[]⟩, .int .i64 0, .bool false, .int .i64 0, .int .i64 0, .int .i64 0, .string ⟨#[]⟩, .slice none 0 0, .slice none 0 0] [.string n, .int .i64 c, .bool u, .int .i64 v.k, .int .i64 v.i, .int .i64 v.s, .string v.t, .slice v.la v.ll v.lc, .slice v.fa v.fl v.fc] infoT4 rfl (by simp [Value.oneCell'])
theorem stR (w : World) (n : ByteArray) (c : Int) (u f : Bool) (v : VC) : (storeCells ⟨w.heap.size, 0, none⟩ [.string n, .int .i64 c, .bool u, .bool f, .int .i64 v.k, .int .i64 v.i, .int .i64 v.s, .string v.t, .slice v.la v.ll v.lc, .slice v.fa v.fl v.fc] 0).run Tryz.prog (w.alloc (.cells #[.string ⟨#[]⟩, .int .i64 0, .bool false, .bool false, .int .i64 0, .int .i64 0, .int .i64 0, .string ⟨#[]⟩, .slice none 0 0, .slice none 0 0] 45)) = .ok () (w.alloc (.cells #[.string n, .int .i64 c, .bool u, .bool f, .int .i64 v.k, .int .i64 v.i, .int .i64 v.s, .string v.t, .slice v.la v.ll v.lc, .slice v.fa v.fl v.fc] 45)) :=
  stNew w 45 #[.string ⟨#[]⟩, .int .i64 0, .bool false, .bool false, .int .i64 0, .int .i64 0, .int .i64 0, .string ⟨#[]⟩, .slice none 0 0, .slice none 0 0] [.string n, .int .i64 c, .bool u, .bool f, .int .i64 v.k, .int .i64 v.i, .int .i64 v.s, .string v.t, .slice v.la v.ll v.lc, .slice v.fa v.fl v.fc] infoT5 rfl (by simp [Value.oneCell'])
theorem ldAt {w : World} {b k : Nat} {cs : Array Value} {t : TypeId} {fr : Nat × Nat} {x0 x1 x2 x3 x4 x5 : Value} (h : w.heap[b]? = some (.cells cs t fr)) (h0 : cs[k]? = some x0) (h1 : cs[k + 1]? = some x1) (h2 : cs[k + 2]? = some x2) (h3 : cs[k + 3]? = some x3) (h4 : cs[k + 4]? = some x4) (h5 : cs[k + 5]? = some x5) :
    (loadCellsFrom ⟨b, k, none⟩ 0 6 #[]).run Tryz.prog w = .ok #[x0, x1, x2, x3, x4, x5] w := by
  have := run_loadCells_list (P := Tryz.prog) w ⟨b, k, none⟩ [x0, x1, x2, x3, x4, x5] (fun j v hv => by
    rw [add_at, cellOf h (k + j)]
    have hj : j < 6 := (List.getElem?_eq_some_iff.1 hv).1
    have : j = 0 ∨ j = 1 ∨ j = 2 ∨ j = 3 ∨ j = 4 ∨ j = 5 := by omega
    rcases this with rfl | rfl | rfl | rfl | rfl | rfl <;> simp at hv <;> subst hv <;> assumption)
  exact this
section
attribute [-go_sem] loadCellsFrom storeCells
attribute [local go_sem] lcf0 lcf1 lcf2 lcf3 lcf4 lcf5 stc0 stc1
set_option maxRecDepth 100000 in
set_option maxHeartbeats 16000000 in
theorem parses_call (s : ByteArray) (w : World) (hT : Tabs w) (hZ : ZTab w) (hNV : NumVars w) :
    Calls Tryz.prog 7 #[.string s] w fun e w' => e = .returned (.bool true) ∧ Below w.heap.size w w' := by
  obtain ⟨m, hm⟩ : ∃ m : Nat, m = min s.size 300 := ⟨_, rfl⟩
  have emin : min (s.size : Int) 300 = (m : Int) := by omega
  have hms : m ≤ s.size := by omega
  have hms' : (m : Int) ≤ (s.size : Int) := by omega
  have hm0 : (0 : Int) ≤ (m : Int) := by omega
  obtain ⟨t, htt⟩ : ∃ t, s.extract 0 m = t := ⟨_, rfl⟩
  have ht : t.size ≤ 65536 := by rw [← htt, ByteArray.size_extract]; omega
  have HK := hid (known50_call w hT hNV)
  have hag := req_agree t
  have hag' := rep_agree t
  obtain ⟨⟨⟨n0, c0, u0, d0⟩, e0⟩, hP0⟩ : ∃ q, q = pReq t := ⟨_, rfl⟩
  obtain ⟨⟨⟨n1, c1, u1, f1, d1⟩, e1⟩, hP1⟩ : ∃ q, q = pRep t := ⟨_, rfl⟩
  obtain ⟨⟨⟨n2, c2, u2, d2⟩, e2⟩, hP2⟩ : ∃ q, q = lReq t := ⟨_, rfl⟩
  obtain ⟨⟨⟨n3, c3, u3, f3, d3⟩, e3⟩, hP3⟩ : ∃ q, q = lRep t := ⟨_, rfl⟩
  rw [← hP0, ← hP2] at hag
  rw [← hP1, ← hP3] at hag'
  dsimp only at hag hag'
  have HP0 := hid hP0
  have HP1 := hid hP1
  have HP2 := hid hP2
  have HP3 := hid hP3
  have HT := hid hT
  have HZT := hid hZ
  have HNV := hid hNV
  have HAG := hid hag
  have HAG' := hid hag'
  have stq := stQ
  have str := stR
  clear hm hms hP0 hP1 hP2 hP3 hT hZ hNV hag hag'
  go_enter Tryz.func7, Tryz.ntmps7
  go_upto_region 4 with (go_at_call 15; refine HK.out.mono ?_; rintro e w1 ⟨rfl, hb1⟩; have HB1 := hid hb1; clear hb1)
  clear emin hms' hm0 htt
  have hc0 := pReq_call t w1 ht (HT.out.below HB1.out) (HZT.out.below HB1.out) (HNV.out.below HB1.out)
  rw [← HP0.out] at hc0
  have HC0 := hid hc0
  clear hc0
  go_upto_region 5 with (go_at_call 31; refine HC0.out.mono ?_; rintro e x0 ⟨v0, rfl, hv0, hb0⟩; have HV0 := hid hv0; have HX0 := hid hb0; clear hv0 hb0)
  obtain ⟨T0, hT0⟩ : ∃ T, T = x0.heap.size := ⟨_, rfl⟩
  obtain ⟨Wa, hW0⟩ : ∃ W, W = x0.alloc (.cells #[.string n0, .int .i64 c0, .bool u0, .int .i64 v0.k, .int .i64 v0.i, .int .i64 v0.s, .string v0.t, .slice v0.la v0.ll v0.lc, .slice v0.fa v0.fl v0.fc] 48) := ⟨_, rfl⟩
  rw [← hW0, ← hT0]
  have hz0 : Wa.heap[T0]? = some (.cells #[.string n0, .int .i64 c0, .bool u0, .int .i64 v0.k, .int .i64 v0.i, .int .i64 v0.s, .string v0.t, .slice v0.la v0.ll v0.lc, .slice v0.fa v0.fl v0.fc] 48) := by rw [hW0, hT0]; exact heap_alloc_new x0 _
  have hy0 : Below w1.heap.size w1 Wa := by rw [hW0]; exact HX0.out.alloc HX0.out.size _
  have hu0 : IsVal (· < Wa.heap.size) Wa v0 d0 := by
    rw [hW0]
    exact HV0.out.same fun j hj => ⟨by rw [World.size_alloc]; omega, heap_alloc_old x0 _ _ hj.2⟩
  have HZ0 := hid hz0
  have HY0 := hid hy0
  have HU0 := hid hu0
  have HBa := hid (HB1.out.trans (hy0.mono HB1.out.size))
  clear hT0 hW0 hz0 hy0 hu0
  have hc1 := pRep_call t Wa ht (HT.out.below HBa.out) (HZT.out.below HBa.out) (HNV.out.below HBa.out)
  rw [← HP1.out] at hc1
  have HC1 := hid hc1
  clear hc1
  go_upto_region 6 with (go_at_call 33; refine HC1.out.mono ?_; rintro e x1 ⟨v1, rfl, hv1, hb1⟩; have HV1 := hid hv1; have HX1 := hid hb1; clear hv1 hb1)
  obtain ⟨T1, hT1⟩ : ∃ T, T = x1.heap.size := ⟨_, rfl⟩
  obtain ⟨Wb, hW1⟩ : ∃ W, W = x1.alloc (.cells #[.string n1, .int .i64 c1, .bool u1, .bool f1, .int .i64 v1.k, .int .i64 v1.i, .int .i64 v1.s, .string v1.t, .slice v1.la v1.ll v1.lc, .slice v1.fa v1.fl v1.fc] 45) := ⟨_, rfl⟩
  rw [← hW1, ← hT1]
  have hz1 : Wb.heap[T1]? = some (.cells #[.string n1, .int .i64 c1, .bool u1, .bool f1, .int .i64 v1.k, .int .i64 v1.i, .int .i64 v1.s, .string v1.t, .slice v1.la v1.ll v1.lc, .slice v1.fa v1.fl v1.fc] 45) := by rw [hW1, hT1]; exact heap_alloc_new x1 _
  have hy1 : Below Wa.heap.size Wa Wb := by rw [hW1]; exact HX1.out.alloc HX1.out.size _
  have hu1 : IsVal (· < Wb.heap.size) Wb v1 d1 := by
    rw [hW1]
    exact HV1.out.same fun j hj => ⟨by rw [World.size_alloc]; omega, heap_alloc_old x1 _ _ hj.2⟩
  have HZ1 := hid hz1
  have HY1 := hid hy1
  have HU1 := hid hu1
  have HBb := hid (HBa.out.trans (hy1.mono HBa.out.size))
  clear hT1 hW1 hz1 hy1 hu1
  have hc2 := lReq_call t Wb ht (HT.out.below HBb.out) (HZT.out.below HBb.out) (HNV.out.below HBb.out)
  rw [← HP2.out] at hc2
  have HC2 := hid hc2
  clear hc2
  go_upto_region 7 with (go_at_call 34; refine HC2.out.mono ?_; rintro e x2 ⟨v2, rfl, hv2, hb2⟩; have HV2 := hid hv2; have HX2 := hid hb2; clear hv2 hb2)
  obtain ⟨T2, hT2⟩ : ∃ T, T = x2.heap.size := ⟨_, rfl⟩
  obtain ⟨Wc, hW2⟩ : ∃ W, W = x2.alloc (.cells #[.string n2, .int .i64 c2, .bool u2, .int .i64 v2.k, .int .i64 v2.i, .int .i64 v2.s, .string v2.t, .slice v2.la v2.ll v2.lc, .slice v2.fa v2.fl v2.fc] 48) := ⟨_, rfl⟩
  rw [← hW2, ← hT2]
  have hz2 : Wc.heap[T2]? = some (.cells #[.string n2, .int .i64 c2, .bool u2, .int .i64 v2.k, .int .i64 v2.i, .int .i64 v2.s, .string v2.t, .slice v2.la v2.ll v2.lc, .slice v2.fa v2.fl v2.fc] 48) := by rw [hW2, hT2]; exact heap_alloc_new x2 _
  have hy2 : Below Wb.heap.size Wb Wc := by rw [hW2]; exact HX2.out.alloc HX2.out.size _
  have hu2 : IsVal (· < Wc.heap.size) Wc v2 d2 := by
    rw [hW2]
    exact HV2.out.same fun j hj => ⟨by rw [World.size_alloc]; omega, heap_alloc_old x2 _ _ hj.2⟩
  have HZ2 := hid hz2
  have HY2 := hid hy2
  have HU2 := hid hu2
  have HBc := hid (HBb.out.trans (hy2.mono HBb.out.size))
  clear hT2 hW2 hz2 hy2 hu2
  have hc3 := lRep_call t Wc ht (HT.out.below HBc.out) (HZT.out.below HBc.out) (HNV.out.below HBc.out)
  rw [← HP3.out] at hc3
  have HC3 := hid hc3
  clear hc3
  go_upto_region 8 with (go_at_call 35; refine HC3.out.mono ?_; rintro e x3 ⟨v3, rfl, hv3, hb3⟩; have HV3 := hid hv3; have HX3 := hid hb3; clear hv3 hb3)
  obtain ⟨T3, hT3⟩ : ∃ T, T = x3.heap.size := ⟨_, rfl⟩
  obtain ⟨Wd, hW3⟩ : ∃ W, W = x3.alloc (.cells #[.string n3, .int .i64 c3, .bool u3, .bool f3, .int .i64 v3.k, .int .i64 v3.i, .int .i64 v3.s, .string v3.t, .slice v3.la v3.ll v3.lc, .slice v3.fa v3.fl v3.fc] 45) := ⟨_, rfl⟩
  rw [← hW3, ← hT3]
  have hz3 : Wd.heap[T3]? = some (.cells #[.string n3, .int .i64 c3, .bool u3, .bool f3, .int .i64 v3.k, .int .i64 v3.i, .int .i64 v3.s, .string v3.t, .slice v3.la v3.ll v3.lc, .slice v3.fa v3.fl v3.fc] 45) := by rw [hW3, hT3]; exact heap_alloc_new x3 _
  have hy3 : Below Wc.heap.size Wc Wd := by rw [hW3]; exact HX3.out.alloc HX3.out.size _
  have hu3 : IsVal (· < Wd.heap.size) Wd v3 d3 := by
    rw [hW3]
    exact HV3.out.same fun j hj => ⟨by rw [World.size_alloc]; omega, heap_alloc_old x3 _ _ hj.2⟩
  have HZ3 := hid hz3
  have HY3 := hid hy3
  have HU3 := hid hu3
  have HBd := hid (HBc.out.trans (hy3.mono HBc.out.size))
  clear hT3 hW3 hz3 hy3 hu3
  clear stq str
  have z0 := heapExt (HY1.out.trans ((HY2.out.trans (HY3.out.mono HY2.out.size)).mono HY1.out.size)) HZ0.out
  have z1 := heapExt (HY2.out.trans (HY3.out.mono HY2.out.size)) HZ1.out
  have z2 := heapExt HY3.out HZ2.out
  have z3 := HZ3.out
  have y0 : Below Wa.heap.size Wa Wd := HY1.out.trans ((HY2.out.trans (HY3.out.mono HY2.out.size)).mono HY1.out.size)
  have y1 : Below Wb.heap.size Wb Wd := HY2.out.trans (HY3.out.mono HY2.out.size)
  have i0 : IsVal (· < Wd.heap.size) Wd v0 d0 := HU0.out.same fun j hj => ⟨Nat.lt_of_lt_of_le hj y0.size, y0.block j hj⟩
  have i1 : IsVal (· < Wd.heap.size) Wd v1 d1 := HU1.out.same fun j hj => ⟨Nat.lt_of_lt_of_le hj y1.size, y1.block j hj⟩
  have i2 : IsVal (· < Wd.heap.size) Wd v2 d2 := HU2.out.same fun j hj => ⟨Nat.lt_of_lt_of_le hj HY3.out.size, HY3.out.block j hj⟩
  have i3 : IsVal (· < Wd.heap.size) Wd v3 d3 := HU3.out
  have hbd := HBd.out
  have A := hid (show Wd.heap[T0]? = some (.cells #[.string n0, .int .i64 c0, .bool u0, .int .i64 v0.k, .int .i64 v0.i, .int .i64 v0.s, .string v0.t, .slice v0.la v0.ll v0.lc, .slice v0.fa v0.fl v0.fc] 48) ∧ Wd.heap[T1]? = some (.cells #[.string n1, .int .i64 c1, .bool u1, .bool f1, .int .i64 v1.k, .int .i64 v1.i, .int .i64 v1.s, .string v1.t, .slice v1.la v1.ll v1.lc, .slice v1.fa v1.fl v1.fc] 45) ∧ Wd.heap[T2]? = some (.cells #[.string n2, .int .i64 c2, .bool u2, .int .i64 v2.k, .int .i64 v2.i, .int .i64 v2.s, .string v2.t, .slice v2.la v2.ll v2.lc, .slice v2.fa v2.fl v2.fc] 48) ∧ Wd.heap[T3]? = some (.cells #[.string n3, .int .i64 c3, .bool u3, .bool f3, .int .i64 v3.k, .int .i64 v3.i, .int .i64 v3.s, .string v3.t, .slice v3.la v3.ll v3.lc, .slice v3.fa v3.fl v3.fc] 45) from ⟨z0, z1, z2, z3⟩)
  have B := hid (show IsVal (· < Wd.heap.size) Wd v0 d0 ∧ IsVal (· < Wd.heap.size) Wd v1 d1 ∧ IsVal (· < Wd.heap.size) Wd v2 d2 ∧ IsVal (· < Wd.heap.size) Wd v3 d3 ∧ Below w.heap.size w Wd from ⟨i0, i1, i2, i3, hbd⟩)
  clear z0 z1 z2 z3 y0 y1 i0 i1 i2 i3 hbd
  have FQ := hid (fun (W' : World) (h : Below Wd.heap.size Wd W') => (show W'.cell? ⟨T0, 0, none⟩ = some (.string n0) ∧ W'.cell? ⟨T0, 1, none⟩ = some (.int .i64 c0) ∧ W'.cell? ⟨T0, 2, none⟩ = some (.bool u0) ∧ (loadCellsFrom ⟨T0, 3, none⟩ 0 6 #[]).run Tryz.prog W' = .ok #[.int .i64 v0.k, .int .i64 v0.i, .int .i64 v0.s, .string v0.t, .slice v0.la v0.ll v0.lc, .slice v0.fa v0.fl v0.fc] W' ∧ W'.cell? ⟨T2, 0, none⟩ = some (.string n2) ∧ W'.cell? ⟨T2, 1, none⟩ = some (.int .i64 c2) ∧ W'.cell? ⟨T2, 2, none⟩ = some (.bool u2) ∧ (loadCellsFrom ⟨T2, 3, none⟩ 0 6 #[]).run Tryz.prog W' = .ok #[.int .i64 v2.k, .int .i64 v2.i, .int .i64 v2.s, .string v2.t, .slice v2.la v2.ll v2.lc, .slice v2.fa v2.fl v2.fc] W' from ⟨cellOf (heapExt h (A.out.1)) 0, cellOf (heapExt h (A.out.1)) 1, cellOf (heapExt h (A.out.1)) 2, ldAt (heapExt h (A.out.1)) rfl rfl rfl rfl rfl rfl, cellOf (heapExt h (A.out.2.2.1)) 0, cellOf (heapExt h (A.out.2.2.1)) 1, cellOf (heapExt h (A.out.2.2.1)) 2, ldAt (heapExt h (A.out.2.2.1)) rfl rfl rfl rfl rfl rfl⟩))
  have FR := hid (fun (W' : World) (h : Below Wd.heap.size Wd W') => (show W'.cell? ⟨T1, 0, none⟩ = some (.string n1) ∧ W'.cell? ⟨T1, 1, none⟩ = some (.int .i64 c1) ∧ W'.cell? ⟨T1, 2, none⟩ = some (.bool u1) ∧ W'.cell? ⟨T1, 3, none⟩ = some (.bool f1) ∧ (loadCellsFrom ⟨T1, 4, none⟩ 0 6 #[]).run Tryz.prog W' = .ok #[.int .i64 v1.k, .int .i64 v1.i, .int .i64 v1.s, .string v1.t, .slice v1.la v1.ll v1.lc, .slice v1.fa v1.fl v1.fc] W' ∧ W'.cell? ⟨T3, 0, none⟩ = some (.string n3) ∧ W'.cell? ⟨T3, 1, none⟩ = some (.int .i64 c3) ∧ W'.cell? ⟨T3, 2, none⟩ = some (.bool u3) ∧ W'.cell? ⟨T3, 3, none⟩ = some (.bool f3) ∧ (loadCellsFrom ⟨T3, 4, none⟩ 0 6 #[]).run Tryz.prog W' = .ok #[.int .i64 v3.k, .int .i64 v3.i, .int .i64 v3.s, .string v3.t, .slice v3.la v3.ll v3.lc, .slice v3.fa v3.fl v3.fc] W' from ⟨cellOf (heapExt h (A.out.2.1)) 0, cellOf (heapExt h (A.out.2.1)) 1, cellOf (heapExt h (A.out.2.1)) 2, cellOf (heapExt h (A.out.2.1)) 3, ldAt (heapExt h (A.out.2.1)) rfl rfl rfl rfl rfl rfl, cellOf (heapExt h (A.out.2.2.2)) 0, cellOf (heapExt h (A.out.2.2.2)) 1, cellOf (heapExt h (A.out.2.2.2)) 2, cellOf (heapExt h (A.out.2.2.2)) 3, ldAt (heapExt h (A.out.2.2.2)) rfl rfl rfl rfl rfl rfl⟩))
  rcases HAG.out with ⟨rfl, heq⟩ | ⟨rfl, rfl⟩
  · simp only [Prod.mk.injEq] at heq
    obtain ⟨⟨rfl, rfl, rfl, rfl⟩, rfl⟩ := heq
    rcases HAG'.out with ⟨rfl, heq⟩ | ⟨rfl, rfl⟩
    · simp only [Prod.mk.injEq] at heq
      obtain ⟨⟨rfl, rfl, rfl, rfl, rfl⟩, rfl⟩ := heq
      have HEQ := hid (show Calls Tryz.prog 32 #[v0.v, v2.v] Wd fun e w' => e = .returned (.bool true) ∧ Below Wd.heap.size Wd w' by have h := valEqual_call v0 v2 _ _ Wd B.out.1 B.out.2.2.1; rw [cmpV_refl] at h; exact h)
      have HER := hid (fun (W' : World) (hb : Below Wd.heap.size Wd W') => (show Calls Tryz.prog 32 #[v1.v, v3.v] W' fun e w' => e = .returned (.bool true) ∧ Below W'.heap.size W' w' by have h := valEqual_call v1 v3 _ _ W' (B.out.2.1.same fun j hj => ⟨Nat.lt_of_lt_of_le hj hb.size, hb.block j hj⟩) (B.out.2.2.2.1.same fun j hj => ⟨Nat.lt_of_lt_of_le hj hb.size, hb.block j hj⟩); rw [cmpV_refl] at h; exact h))
      obtain ⟨l0, l1, l2, l3, l4, l5, l6, l7⟩ := FQ.out Wd (Below.refl _ _)
      go_wp2_with (first
        | (go_at_call 32; refine HEQ.out.mono ?_; rintro e w9 ⟨rfl, hb9⟩; have HB9 := hid hb9; obtain ⟨m0, m1, m2, m3, m4, m5, m6, m7, m8, m9⟩ := FR.out w9 hb9; clear hb9)
        | (go_at_call 32; refine (HER.out w9 HB9.out).mono ?_; rintro e w10 ⟨rfl, hb10⟩; have HB10 := hid hb10; clear hb10))
      go_ret
      exact ⟨rfl, (B.out.2.2.2.2.trans (HB9.out.mono B.out.2.2.2.2.size)).trans (HB10.out.mono (by have := HB9.out.size; have := B.out.2.2.2.2.size; omega))⟩
    · have HEQ := hid (show Calls Tryz.prog 32 #[v0.v, v2.v] Wd fun e w' => e = .returned (.bool true) ∧ Below Wd.heap.size Wd w' by have h := valEqual_call v0 v2 _ _ Wd B.out.1 B.out.2.2.1; rw [cmpV_refl] at h; exact h)
      obtain ⟨l0, l1, l2, l3, l4, l5, l6, l7⟩ := FQ.out Wd (Below.refl _ _)
      go_wp2_with (go_at_call 32; refine HEQ.out.mono ?_; rintro e w9 ⟨rfl, hb9⟩; have HB9 := hid hb9; clear hb9)
      go_ret
      exact ⟨rfl, B.out.2.2.2.2.trans (HB9.out.mono B.out.2.2.2.2.size)⟩
  · rcases HAG'.out with ⟨rfl, heq⟩ | ⟨rfl, rfl⟩
    · simp only [Prod.mk.injEq] at heq
      obtain ⟨⟨rfl, rfl, rfl, rfl, rfl⟩, rfl⟩ := heq
      have HER := hid (fun (W' : World) (hb : Below Wd.heap.size Wd W') => (show Calls Tryz.prog 32 #[v1.v, v3.v] W' fun e w' => e = .returned (.bool true) ∧ Below W'.heap.size W' w' by have h := valEqual_call v1 v3 _ _ W' (B.out.2.1.same fun j hj => ⟨Nat.lt_of_lt_of_le hj hb.size, hb.block j hj⟩) (B.out.2.2.2.1.same fun j hj => ⟨Nat.lt_of_lt_of_le hj hb.size, hb.block j hj⟩); rw [cmpV_refl] at h; exact h))
      obtain ⟨m0, m1, m2, m3, m4, m5, m6, m7, m8, m9⟩ := FR.out Wd (Below.refl _ _)
      go_wp2_with (go_at_call 32; refine (HER.out Wd (Below.refl _ _)).mono ?_; rintro e w9 ⟨rfl, hb9⟩; have HB9 := hid hb9; clear hb9)
      go_ret
      exact ⟨rfl, B.out.2.2.2.2.trans (HB9.out.mono B.out.2.2.2.2.size)⟩
    · go_wp2
      go_ret
      exact ⟨rfl, B.out.2.2.2.2⟩
end
end
end Go.Proofs.YtkljbfaemahchaaGreatDoor
