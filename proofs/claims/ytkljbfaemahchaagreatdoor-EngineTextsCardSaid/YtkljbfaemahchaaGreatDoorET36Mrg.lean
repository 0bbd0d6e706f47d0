/-
  The reader's named, where value is known for the next depth. Conditions: the reader's block holds its cells; the text's length fits; the tables lie below the reader's block.
-/
import Derived.Test.YtkljbfaemahchaaGreatDoorET35Mrg
namespace Go.Proofs.YtkljbfaemahchaaGreatDoor
set_option linter.unusedVariables false
set_option linter.unusedSimpArgs false
open Go Go.RowKit Go.Shelf
def namF (s : ByteArray) (f : Nat) (r r1 : Rd) : Val × Rd :=
  if r1.e ≠ 0 then (nulV, r1)
  else if r1.is ⟨#[40]⟩ then (if isNameB r.t = false then (nulV, r1.fail r.p 12) else let q := rdV s f (r1.adv s); (.mk 10 0 0 r.t [q.1] [] [], q.2.expect s ⟨#[41]⟩))
  else if r.t = ⟨#[116, 114, 117, 101]⟩ then (.mk 1 1 0 ⟨#[]⟩ [] [] [], r1)
  else if r.t = ⟨#[102, 97, 108, 115, 101]⟩ then (.mk 1 0 0 ⟨#[]⟩ [] [] [], r1)
  else if r.t = ⟨#[100, 97, 116, 101]⟩ then let q := r1.moment s calP; (.mk 6 q.1 0 ⟨#[]⟩ [] [] [], q.2)
  else if r.t = ⟨#[116, 105, 109, 101]⟩ then let q := r1.moment s calT; (.mk 7 q.1 0 ⟨#[]⟩ [] [] [], q.2)
  else if r.t = ⟨#[110, 117, 108, 108]⟩ ∧ f = 7 then (nulV, r1)
  else (nulV, r1.fail r.p 13)
theorem leaf_val {S : Nat → Prop} {w : World} (k v : Int) (hk : I64 k) (hv : I64 v) : IsVal S w ⟨k, v, 0, ⟨#[]⟩, none, 0, 0, none, 0, 0⟩ (.mk k v 0 ⟨#[]⟩ [] [] []) :=
  ⟨⟨rfl, rfl, rfl, rfl, ⟨hk, hv, by simp [I64], Nat.zero_le _, (show 0 * 88 ≤ 140737488351232 by decide), (show 0 * 104 ≤ 140737488351232 by decide), Nat.le_refl _, Nat.le_refl _⟩, rfl, rfl, rfl⟩, .inl rfl, .inl rfl⟩
theorem bt_of (a : ByteArray) (l : List UInt8) : (a.toList == l) = decide (a = ⟨l.toArray⟩) := by
  rw [ByteArray.toList_eq, Bool.eq_iff_iff, beq_iff_eq, decide_eq_true_eq]
  exact ⟨fun h => ByteArray.ext (Array.ext' h), fun h => by rw [h]⟩
theorem moment_i64 (s : ByteArray) (r : Rd) (f : List UInt8 → Int × Int) (h : ∀ l, I64 (f l).1) : I64 (r.moment s f).1 := by
  unfold Rd.moment
  dsimp only
  split
  · simp [I64]
  · exact h _
theorem daysF_i64 (y m d : Nat) : -719162 ≤ (daysF y m d).1 ∧ (daysF y m d).1 ≤ 2932896 := by
  by_cases h : (daysF y m d).2 = 0
  · exact daysF_bd h
  · unfold daysF at h ⊢
    split
    · simp
    · rename_i hn; rw [if_neg hn] at h; simp at h
theorem calP_i64 (l : List UInt8) : I64 (calP l).1 := by
  unfold calP
  split
  · rename_i y m d _
    have := daysF_i64 y m d
    unfold I64; omega
  · simp [I64]
theorem numD_lt {k : Nat} {l : List UInt8} {v : Nat} {r : List UInt8} (h : numD k 0 l = some (v, r)) : v < 10 ^ k := by have := (numD_bd k 0 l v r h).2; simpa using this
theorem frac_bd {r : List UInt8} {z : Nat} {rr : List UInt8} (h : fracF r = some (z, rr)) : z ≤ 999 := by
  unfold fracF at h
  split at h
  · split at h
    · rename_i n r' hn
      split at h
      · cases h
      · cases h
        have := numD_lt hn; omega
    · cases h
  · cases h; omega
theorem calT_i64 (l : List UInt8) : I64 (calT l).1 := by
  cases h : marksK [([], 4), ([45], 2), ([45], 2), ([84], 2), ([58], 2), ([58], 2)] l with
  | none => rw [calT_bad h]; simp [I64]
  | some q =>
    obtain ⟨ns, r⟩ := q
    obtain ⟨hl, h9, _⟩ := marks_bd _ _ _ _ (by decide) h
    obtain ⟨y, m, d, hh, i, s6, rfl⟩ := six_of hl
    rw [calT_six h]
    have h1 := h9 hh (by simp)
    have h2 := h9 i (by simp)
    have h3 := h9 s6 (by simp)
    have h4 := daysF_i64 y m d
    cases hf : fracF r with
    | none => simp [I64]
    | some p =>
      have h5 := frac_bd hf
      dsimp only
      split
      · simp [I64]
      split
      · simp [I64]
      · unfold I64; dsimp only; omega
section
attribute [-go_sem] loadCellsFrom storeCells
attribute [local go_sem] lcf0 lcf1 lcf2 lcf3 lcf4 lcf5 stc0 stc1
set_option maxRecDepth 100000 in
set_option maxHeartbeats 16000000 in
theorem named_call (f : Nat) (IH : ValIH f) (b : Nat) (s : ByteArray) (tk r1 : Rd) (dep : Int) (w : World) (h : IsRd w b s r1) (hI : RdI s r1) (htk : tk.Fit s) (hs : s.size ≤ 100000) (hTB : TB w b) (hdep : dep + 1 + f = 8) (hd0 : 0 ≤ dep) :
    Calls Tryz.prog 220 #[.pointer (some ⟨b, 0, none⟩), tokV tk, .int .i64 dep] w (ValPost w b s (namF s f tk r1)) := by
  obtain ⟨T, hT⟩ : ∃ T, T = w.heap.size := ⟨_, rfl⟩
  obtain ⟨N, hN⟩ : ∃ N, N = w.heap.size + 1 := ⟨_, rfl⟩
  have hbl := h.lt
  obtain ⟨Q, hQ⟩ : ∃ Q, Q = namF s f tk r1 := ⟨_, rfl⟩
  rw [← hQ]
  have HQ := hid hQ
  obtain ⟨w0, hw0⟩ : ∃ w0, w0 = (w.alloc (tokO tk)).alloc valZ := ⟨_, rfl⟩
  have hr0 : IsRd w0 b s r1 := by rw [hw0]; exact (h.alloc _).alloc _
  have hg0 : w.grownBy w0 (some b) := by rw [hw0]; exact (World.grownBy_alloc _ _ _).trans (World.grownBy_alloc _ _ _)
  have hz0 : w0.heap[N]? = some valZ := by rw [hw0, hN, ← World.size_alloc w (tokO tk)]; exact heap_alloc_new (w.alloc (tokO tk)) _
  have ht0 : w0.heap[T]? = some (tokO tk) := by rw [hw0, hT]; exact heapAlloc _ (heap_alloc_new w _)
  have HR := hid hr0
  have HG := hid hg0
  have HNZ := hid hz0
  have HTZ := hid ht0
  have HNB := hid (show N ≠ b ∧ T ≠ b ∧ w.heap.size ≤ N ∧ w.heap.size ≤ T ∧ b < N ∧ b < T ∧ N < w0.heap.size ∧ T ≠ N by have := ltOf hz0; omega)
  have HTB := hid (hTB.grown hg0 (.inr rfl))
  have HI := hid hI
  have HTT := hid (show tk.t.size ≤ 100000 by have := htk.t; omega)
  have HT := hid hT
  have HN := hid hN
  have HW := hid hw0
  have HIS := hid (is_call b s r1 ⟨#[40]⟩ w0 hr0)
  have hce : w0.cell? ⟨b, 10, none⟩ = some (.int .i64 r1.e) := cellOf hr0.at_ 10
  have hct : w0.cell? ⟨T, 2, none⟩ = some (.string tk.t) := cellOf ht0 2
  have hcp : w0.cell? ⟨T, 1, none⟩ = some (.int .i64 (tk.p : Int)) := cellOf ht0 1
  obtain ⟨q, hq⟩ : ∃ q : Bool, q = r1.is ⟨#[40]⟩ := ⟨_, rfl⟩
  rw [← hq] at HIS
  have HQq := hid hq
  -- a value is stored into the result and returned
  have HST := hid (fun (w2 : World) (x0 x1 x2 x3 x4 x5 : Value) (h1 : ∀ v ∈ [x0, x1, x2, x3, x4, x5], v.oneCell' = true) (hz : w2.heap[N]? = some valZ) =>
    (show (storeCells ⟨N, 0, none⟩ [x0, x1, x2, x3, x4, x5] 0).run Tryz.prog w2 = .ok () (w2.setRow N #[x0, x1, x2, x3, x4, x5]) ∧ (loadCellsFrom ⟨N, 0, none⟩ 0 6 #[]).run Tryz.prog (w2.setRow N #[x0, x1, x2, x3, x4, x5]) = .ok #[x0, x1, x2, x3, x4, x5] (w2.setRow N #[x0, x1, x2, x3, x4, x5]) from
      ⟨st6 hz rfl x0 x1 x2 x3 x4 x5 h1, ld6 (setRow_heap w2 N _ #[x0, x1, x2, x3, x4, x5] 43 (0, 0) hz)⟩))
  clear h hI htk hTB hQ hr0 hg0 hz0 ht0 hq hw0 hT hN
  go_enter Tryz.func220, Tryz.ntmps220
  go_upto_region 1 with (fail)
  dsimp only [tokO, tokA] at HW
  rw [← HW.out]
  rw [show w.heap.size + 1 = N from HN.out.symm, show w.heap.size = T from HT.out.symm]
  by_cases he : r1.e = 0
  · have HE := hid he
    have qe : (r1.e == 0) = true := by simp [he]
    have qe' : (r1.e != 0) = false := by simp [he]
    clear he
    cases q
    · obtain ⟨b1, hb1⟩ : ∃ b1, (tk.t.toList == [116, 114, 117, 101]) = b1 := ⟨_, rfl⟩
      obtain ⟨b2, hb2⟩ : ∃ b2, (tk.t.toList == [102, 97, 108, 115, 101]) = b2 := ⟨_, rfl⟩
      obtain ⟨b3, hb3⟩ : ∃ b3, (tk.t.toList == [100, 97, 116, 101]) = b3 := ⟨_, rfl⟩
      obtain ⟨b4, hb4⟩ : ∃ b4, (tk.t.toList == [116, 105, 109, 101]) = b4 := ⟨_, rfl⟩
      obtain ⟨b5, hb5⟩ : ∃ b5, (tk.t.toList == [110, 117, 108, 108]) = b5 := ⟨_, rfl⟩
      have HB1 := hid ((bt_of tk.t [116, 114, 117, 101]).symm.trans hb1)
      have HB2 := hid ((bt_of tk.t [102, 97, 108, 115, 101]).symm.trans hb2)
      have HB3_ := hid ((bt_of tk.t [100, 97, 116, 101]).symm.trans hb3)
      have HB4 := hid ((bt_of tk.t [116, 105, 109, 101]).symm.trans hb4)
      have HB5 := hid ((bt_of tk.t [110, 117, 108, 108]).symm.trans hb5)
      cases b1
      · cases b2
        · cases b3
          · cases b4
            · by_cases hnl : b5 = true ∧ dep = 0
              · obtain ⟨rfl, hdz⟩ := hnl
                have HF7 := hid (show f = 7 by omega)
                have qd : (dep == 0) = true := by simp [hdz]
                clear hdz
                go_upto_region 18 with (go_at_call 305; refine HIS.out.mono ?_; rintro e w2 ⟨rfl, hw2⟩; obtain rfl := hw2.symm)
                obtain ⟨hS1, hL2⟩ := HST.out w0 (.int .i64 0) (.int .i64 0) (.int .i64 0) (.string ⟨#[]⟩) (.slice none 0 0) (.slice none 0 0) (by simp [Value.oneCell']) HNZ.out
                go_wp2
                refine bodyPost_ret (v := .agg #[.int .i64 0, .int .i64 0, .int .i64 0, .string ⟨#[]⟩, .slice none 0 0, .slice none 0 0]) (by simp [results, Tryz.results220, go_sem, hL2]) rfl ?_
                have HSP := hid (show Q = (nulV, r1) by rw [HQ.out, namF, if_neg (by simp [HE.out]), if_neg (by rw [← HQq.out]; decide), if_neg (of_decide_eq_false HB1.out), if_neg (of_decide_eq_false HB2.out), if_neg (of_decide_eq_false HB3_.out), if_neg (of_decide_eq_false HB4.out), if_pos ⟨of_decide_eq_true HB5.out, HF7.out⟩])
                rw [HSP.out]
                exact ⟨⟨0, 0, 0, ⟨#[]⟩, none, 0, 0, none, 0, 0⟩, nulV, rfl, leaf_val 0 0 (by simp [I64]) (by simp [I64]), fun _ => rfl, isRd_setRow (HR.out) HNB.out.1, setRow_ext (HG.out) N _ HNB.out.2.2.1⟩
              · have HNL := hid (show ¬ (tk.t = ⟨#[110, 117, 108, 108]⟩ ∧ f = 7) from fun h => hnl ⟨by rw [← HB5.out]; exact decide_eq_true h.1, by omega⟩)
                have HFL := hid (fail_call b s r1 tk.p 13 w0 HR.out)
                have HSPF := hid (show Q = (nulV, r1.fail tk.p 13) by rw [HQ.out, namF, if_neg (by simp [HE.out]), if_neg (by rw [← HQq.out]; decide), if_neg (of_decide_eq_false HB1.out), if_neg (of_decide_eq_false HB2.out), if_neg (of_decide_eq_false HB3_.out), if_neg (of_decide_eq_false HB4.out), if_neg HNL.out])
                cases b5
                · go_upto_region 20 with (first
                    | (go_at_call 305; refine HIS.out.mono ?_; rintro e w2 ⟨rfl, hw2⟩; obtain rfl := hw2.symm)
                    | (go_at_call 214; refine HFL.out.mono ?_; rintro e w2 ⟨rfl, h2, hg2⟩; have H2R := hid h2; have HG2 := hid hg2; have HZ2 := hid (grownN hg2 HNZ.out HNB.out.1); clear h2 hg2))
                  obtain ⟨hS1, hL2⟩ := HST.out w2 (.int .i64 0) (.int .i64 0) (.int .i64 0) (.string ⟨#[]⟩) (.slice none 0 0) (.slice none 0 0) (by simp [Value.oneCell']) HZ2.out
                  go_wp2
                  refine bodyPost_ret (v := .agg #[.int .i64 0, .int .i64 0, .int .i64 0, .string ⟨#[]⟩, .slice none 0 0, .slice none 0 0]) (by simp [results, Tryz.results220, go_sem, hL2]) rfl ?_
                  have HSP := hid (HSPF.out)
                  rw [HSP.out]
                  exact ⟨⟨0, 0, 0, ⟨#[]⟩, none, 0, 0, none, 0, 0⟩, nulV, rfl, leaf_val 0 0 (by simp [I64]) (by simp [I64]), fun _ => rfl, isRd_setRow (H2R.out) HNB.out.1, setRow_ext (HG.out.trans HG2.out) N _ HNB.out.2.2.1⟩
                · have qd : (dep == 0) = false := by
                    rw [beq_eq_false_iff_ne]; intro e; exact hnl ⟨rfl, e⟩
                  clear hnl
                  go_upto_region 20 with (first
                    | (go_at_call 305; refine HIS.out.mono ?_; rintro e w2 ⟨rfl, hw2⟩; obtain rfl := hw2.symm)
                    | (go_at_call 214; refine HFL.out.mono ?_; rintro e w2 ⟨rfl, h2, hg2⟩; have H2R := hid h2; have HG2 := hid hg2; have HZ2 := hid (grownN hg2 HNZ.out HNB.out.1); clear h2 hg2))
                  obtain ⟨hS1, hL2⟩ := HST.out w2 (.int .i64 0) (.int .i64 0) (.int .i64 0) (.string ⟨#[]⟩) (.slice none 0 0) (.slice none 0 0) (by simp [Value.oneCell']) HZ2.out
                  go_wp2
                  refine bodyPost_ret (v := .agg #[.int .i64 0, .int .i64 0, .int .i64 0, .string ⟨#[]⟩, .slice none 0 0, .slice none 0 0]) (by simp [results, Tryz.results220, go_sem, hL2]) rfl ?_
                  have HSP := hid (HSPF.out)
                  rw [HSP.out]
                  exact ⟨⟨0, 0, 0, ⟨#[]⟩, none, 0, 0, none, 0, 0⟩, nulV, rfl, leaf_val 0 0 (by simp [I64]) (by simp [I64]), fun _ => rfl, isRd_setRow (H2R.out) HNB.out.1, setRow_ext (HG.out.trans HG2.out) N _ HNB.out.2.2.1⟩
            · have HMO := hid (moment_time b s r1 w0 HR.out HI.out.fit hs HTB.out)
              obtain ⟨m, hm⟩ : ∃ m, m = (r1.moment s calT).1 := ⟨_, rfl⟩
              obtain ⟨rm, hrm⟩ : ∃ rm, rm = (r1.moment s calT).2 := ⟨_, rfl⟩
              rw [← hm, ← hrm] at HMO
              have HMM := hid (show r1.moment s calT = (m, rm) by rw [hm, hrm])
              have HMI := hid (show I64 m by rw [hm]; exact moment_i64 s r1 calT calT_i64)
              clear hm hrm
              go_wp2_with (first
                | (go_at_call 305; refine HIS.out.mono ?_; rintro e w2 ⟨rfl, hw2⟩; obtain rfl := hw2.symm)
                | (go_at_call 313; refine (mkTime_call m w2).mono ?_; rintro e w3 ⟨rfl, hb3⟩; have HB3 := hid hb3; obtain ⟨hS1, hL2⟩ := HST.out w3 (.int .i64 7) (.int .i64 m) (.int .i64 0) (.string ⟨#[]⟩) (.slice none 0 0) (.slice none 0 0) (by simp [Value.oneCell']) (heapExt hb3 HZ2.out); clear hb3)
                | (go_at_call 311; refine HMO.out.mono ?_; rintro e w2 ⟨rfl, h2, hg2⟩; have H2R := hid h2; have HG2 := hid hg2; have HZ2 := hid (grownN hg2 HNZ.out HNB.out.1); clear h2 hg2))
              refine bodyPost_ret (v := .agg #[.int .i64 7, .int .i64 m, .int .i64 0, .string ⟨#[]⟩, .slice none 0 0, .slice none 0 0]) (by simp [results, Tryz.results220, go_sem, hL2]) rfl ?_
              have HSP := hid (show Q = (.mk 7 m 0 ⟨#[]⟩ [] [] [], rm) by rw [HQ.out, namF, if_neg (by simp [HE.out]), if_neg (by rw [← HQq.out]; decide), if_neg (of_decide_eq_false HB1.out), if_neg (of_decide_eq_false HB2.out), if_neg (of_decide_eq_false HB3_.out), if_pos (of_decide_eq_true HB4.out)]; dsimp only; rw [HMM.out])
              rw [HSP.out]
              exact ⟨⟨7, m, 0, ⟨#[]⟩, none, 0, 0, none, 0, 0⟩, _, rfl, leaf_val 7 m (by simp [I64]) HMI.out, fun _ => rfl, isRd_setRow (isRd_low H2R.out HB3.out (by have := ltOf H2R.out.at_; exact this)) HNB.out.1, setRow_ext ((HG.out.trans HG2.out).trans (grownOf HB3.out (some b))) N _ HNB.out.2.2.1⟩
          · have HMO := hid (moment_date b s r1 w0 HR.out HI.out.fit hs HTB.out)
            obtain ⟨m, hm⟩ : ∃ m, m = (r1.moment s calP).1 := ⟨_, rfl⟩
            obtain ⟨rm, hrm⟩ : ∃ rm, rm = (r1.moment s calP).2 := ⟨_, rfl⟩
            rw [← hm, ← hrm] at HMO
            have HMM := hid (show r1.moment s calP = (m, rm) by rw [hm, hrm])
            have HMI := hid (show I64 m by rw [hm]; exact moment_i64 s r1 calP calP_i64)
            clear hm hrm
            go_wp2_with (first
              | (go_at_call 305; refine HIS.out.mono ?_; rintro e w2 ⟨rfl, hw2⟩; obtain rfl := hw2.symm)
              | (go_at_call 310; refine (mkDate_call m w2).mono ?_; rintro e w3 ⟨rfl, hb3⟩; have HB3 := hid hb3; obtain ⟨hS1, hL2⟩ := HST.out w3 (.int .i64 6) (.int .i64 m) (.int .i64 0) (.string ⟨#[]⟩) (.slice none 0 0) (.slice none 0 0) (by simp [Value.oneCell']) (heapExt hb3 HZ2.out); clear hb3)
              | (go_at_call 311; refine HMO.out.mono ?_; rintro e w2 ⟨rfl, h2, hg2⟩; have H2R := hid h2; have HG2 := hid hg2; have HZ2 := hid (grownN hg2 HNZ.out HNB.out.1); clear h2 hg2))
            refine bodyPost_ret (v := .agg #[.int .i64 6, .int .i64 m, .int .i64 0, .string ⟨#[]⟩, .slice none 0 0, .slice none 0 0]) (by simp [results, Tryz.results220, go_sem, hL2]) rfl ?_
            have HSP := hid (show Q = (.mk 6 m 0 ⟨#[]⟩ [] [] [], rm) by rw [HQ.out, namF, if_neg (by simp [HE.out]), if_neg (by rw [← HQq.out]; decide), if_neg (of_decide_eq_false HB1.out), if_neg (of_decide_eq_false HB2.out), if_pos (of_decide_eq_true HB3_.out)]; dsimp only; rw [HMM.out])
            rw [HSP.out]
            exact ⟨⟨6, m, 0, ⟨#[]⟩, none, 0, 0, none, 0, 0⟩, _, rfl, leaf_val 6 m (by simp [I64]) HMI.out, fun _ => rfl, isRd_setRow (isRd_low H2R.out HB3.out (by have := ltOf H2R.out.at_; exact this)) HNB.out.1, setRow_ext ((HG.out.trans HG2.out).trans (grownOf HB3.out (some b))) N _ HNB.out.2.2.1⟩
        · go_wp2_with (first
            | (go_at_call 305; refine HIS.out.mono ?_; rintro e w2 ⟨rfl, hw2⟩; obtain rfl := hw2.symm)
            | (go_at_call 60; refine (mkFalse_call w0).mono ?_; rintro e w3 ⟨rfl, hb3⟩; have HB3 := hid hb3; obtain ⟨hS1, hL2⟩ := HST.out w3 (.int .i64 1) (.int .i64 0) (.int .i64 0) (.string ⟨#[]⟩) (.slice none 0 0) (.slice none 0 0) (by simp [Value.oneCell']) (heapExt hb3 HNZ.out); clear hb3))
          refine bodyPost_ret (v := .agg #[.int .i64 1, .int .i64 0, .int .i64 0, .string ⟨#[]⟩, .slice none 0 0, .slice none 0 0]) (by simp [results, Tryz.results220, go_sem, hL2]) rfl ?_
          have HSP := hid (show Q = (.mk 1 0 0 ⟨#[]⟩ [] [] [], r1) by rw [HQ.out, namF, if_neg (by simp [HE.out]), if_neg (by rw [← HQq.out]; decide), if_neg (of_decide_eq_false HB1.out), if_pos (of_decide_eq_true HB2.out)])
          rw [HSP.out]
          exact ⟨⟨1, 0, 0, ⟨#[]⟩, none, 0, 0, none, 0, 0⟩, _, rfl, leaf_val 1 0 (by simp [I64]) (by simp [I64]), fun _ => rfl, isRd_setRow (isRd_low HR.out HB3.out (by have := HNB.out; omega)) HNB.out.1, setRow_ext (HG.out.trans (grownOf HB3.out (some b))) N _ HNB.out.2.2.1⟩
      · go_wp2_with (first
          | (go_at_call 305; refine HIS.out.mono ?_; rintro e w2 ⟨rfl, hw2⟩; obtain rfl := hw2.symm)
          | (go_at_call 60; refine (mkTrue_call w0).mono ?_; rintro e w3 ⟨rfl, hb3⟩; have HB3 := hid hb3; obtain ⟨hS1, hL2⟩ := HST.out w3 (.int .i64 1) (.int .i64 1) (.int .i64 0) (.string ⟨#[]⟩) (.slice none 0 0) (.slice none 0 0) (by simp [Value.oneCell']) (heapExt hb3 HNZ.out); clear hb3))
        refine bodyPost_ret (v := .agg #[.int .i64 1, .int .i64 1, .int .i64 0, .string ⟨#[]⟩, .slice none 0 0, .slice none 0 0]) (by simp [results, Tryz.results220, go_sem, hL2]) rfl ?_
        have HSP := hid (show Q = (.mk 1 1 0 ⟨#[]⟩ [] [] [], r1) by rw [HQ.out, namF, if_neg (by simp [HE.out]), if_neg (by rw [← HQq.out]; decide), if_pos (of_decide_eq_true HB1.out)])
        rw [HSP.out]
        exact ⟨⟨1, 1, 0, ⟨#[]⟩, none, 0, 0, none, 0, 0⟩, _, rfl, leaf_val 1 1 (by simp [I64]) (by simp [I64]), fun _ => rfl, isRd_setRow (isRd_low HR.out HB3.out (by have := HNB.out; omega)) HNB.out.1, setRow_ext (HG.out.trans (grownOf HB3.out (some b))) N _ HNB.out.2.2.1⟩
    · have HQT := hid HQq.out.symm
      obtain ⟨nb, hnb⟩ : ∃ nb, nb = isNameB tk.t := ⟨_, rfl⟩
      have HIN := hid (fun w' => isName_call tk.t w' (by have := HTT.out; omega))
      rw [← hnb] at HIN
      have HNBm := hid hnb
      clear hnb
      cases nb
      · have HFL := hid (fun (w' : World) (h' : IsRd w' b s r1) => fail_call b s r1 tk.p 12 w' h')
        have HSPF := hid (show Q = (nulV, r1.fail tk.p 12) by rw [HQ.out, namF, if_neg (by simp [HE.out]), if_pos HQT.out, if_pos HNBm.out.symm])
        go_upto_region 5 with (first
          | (go_at_call 305; refine HIS.out.mono ?_; rintro e w2 ⟨rfl, hw2⟩; obtain rfl := hw2.symm)
          | (go_at_call 249; refine (HIN.out _).mono ?_; rintro e w2 ⟨rfl, hb2⟩; have HB2 := hid hb2; clear hb2))
        have HR2 := hid (isRd_low HR.out HB2.out (by have := HNB.out; omega))
        have HG2 := hid (HG.out.trans (grownOf HB2.out (some b)))
        have HZ2 := hid (heapExt HB2.out HNZ.out)
        have hcp2 : w2.cell? ⟨T, 1, none⟩ = some (.int .i64 (tk.p : Int)) := cellOf (heapExt HB2.out HTZ.out) 1
        go_upto_region 6 with (go_at_call 214; refine (HFL.out w2 HR2.out).mono ?_; rintro e w3 ⟨rfl, h3, hg3⟩; have H3R := hid h3; have HG3 := hid hg3; have HZ3 := hid (grownN hg3 HZ2.out HNB.out.1); clear h3 hg3)
        obtain ⟨hS1, hL2⟩ := HST.out w3 (.int .i64 0) (.int .i64 0) (.int .i64 0) (.string ⟨#[]⟩) (.slice none 0 0) (.slice none 0 0) (by simp [Value.oneCell']) HZ3.out
        go_wp2
        refine bodyPost_ret (v := .agg #[.int .i64 0, .int .i64 0, .int .i64 0, .string ⟨#[]⟩, .slice none 0 0, .slice none 0 0]) (by simp [results, Tryz.results220, go_sem, hL2]) rfl ?_
        have HSP := hid (HSPF.out)
        rw [HSP.out]
        exact ⟨⟨0, 0, 0, ⟨#[]⟩, none, 0, 0, none, 0, 0⟩, nulV, rfl, leaf_val 0 0 (by simp [I64]) (by simp [I64]), fun _ => rfl, isRd_setRow (H3R.out) HNB.out.1, setRow_ext (HG2.out.trans HG3.out) N _ HNB.out.2.2.1⟩
      · obtain ⟨ra, hra⟩ : ∃ ra, ra = r1.adv s := ⟨_, rfl⟩
        obtain ⟨q2, hq2⟩ : ∃ q2, q2 = rdV s f ra := ⟨_, rfl⟩
        have HSP := hid (show Q = (.mk 10 0 0 tk.t [q2.1] [] [], q2.2.expect s ⟨#[41]⟩) by rw [HQ.out, namF, if_neg (by simp [HE.out]), if_pos HQT.out, if_neg (by rw [← HNBm.out]; decide), hq2, hra])
        have HAI := hid (show RdI s ra by rw [hra]; exact rdI_adv HI.out)
        have HVI := hid (show RdI s q2.2 by rw [hq2]; exact (rdV_ok s f ra HAI.out).1)
        have HIH := hid (fun (w' : World) (h1 : IsRd w' b s ra) (h2 : TB w' b) => (show Calls Tryz.prog 136 #[.pointer (some ⟨b, 0, none⟩), .int .i64 (dep + 1)] w' (ValPost w' b s q2) from hq2 ▸ IH b s ra (dep + 1) w' h1 HAI.out hs h2 (by omega)))
        have HEX := hid (fun (w' : World) (h1 : IsRd w' b s q2.2) (h2 : TB w' b) => expect_call b s q2.2 ⟨#[41]⟩ w' h1 hs h2)
        have e1 : IntKind.i64.wrap (dep + 1) = dep + 1 := IntWalk.i64_in _ ⟨by omega, by omega⟩
        clear hq2
        go_upto_region 7 with (first
          | (go_at_call 305; refine HIS.out.mono ?_; rintro e w2 ⟨rfl, hw2⟩; obtain rfl := hw2.symm)
          | (go_at_call 249; refine (HIN.out _).mono ?_; rintro e w2 ⟨rfl, hb2⟩; have HB2 := hid hb2; clear hb2))
        have HR2 := hid (isRd_low HR.out HB2.out (by have := HNB.out; omega))
        have HG2 := hid (HG.out.trans (grownOf HB2.out (some b)))
        have HTB2 := hid (HTB.out.below HB2.out)
        have HZ2 := hid (heapExt HB2.out HNZ.out)
        have HT2 := hid (heapExt HB2.out HTZ.out)
        have HAD := hid (adv_call b s r1 w2 HR2.out hs HTB2.out)
        rw [← hra] at HAD
        clear hra
        go_upto_region 8 with (go_at_call 215; refine HAD.out.mono ?_; rintro e w3 ⟨rfl, h3, hg3⟩; have H3R := hid h3; have HG3 := hid (HG2.out.trans hg3); have HZ3 := hid (grownN hg3 HZ2.out HNB.out.1); have HT3 := hid (grownN hg3 HT2.out HNB.out.2.1); have HTB3 := hid (HTB2.out.grown hg3 (.inr rfl)); clear h3 hg3)
        have HSN := hid (fun (w4 : World) (c1 : VC) => st6New w4 #[.int .i64 0, .int .i64 0, .int .i64 0, .string ⟨#[]⟩, .slice none 0 0, .slice none 0 0] rfl (.int .i64 c1.k) (.int .i64 c1.i) (.int .i64 c1.s) (.string c1.t) (.slice c1.la c1.ll c1.lc) (.slice c1.fa c1.fl c1.fc) (by simp [Value.oneCell']))
        go_upto_region 9 with (go_at_call 136; refine (HIH.out w3 H3R.out HTB3.out).mono ?_; rintro e w4 ⟨c1, d1, rfl, hv4, hd4, hr4, hg4⟩; have H4R := hid hr4; have HV4 := hid hv4; have HD4 := hid hd4; have HG4 := hid (HG3.out.trans hg4); have HZ4 := hid (grownN hg4 HZ3.out HNB.out.1); have HT4 := hid (grownN hg4 HT3.out HNB.out.2.1); have HTB4 := hid (HTB3.out.grown hg4 (.inr rfl)); have HS4 := hid hg4.size; have hsn := HSN.out w4 c1; clear hv4 hd4 hr4 hg4)
        clear hsn
        obtain ⟨M, hM⟩ : ∃ M, M = w4.heap.size := ⟨_, rfl⟩
        obtain ⟨w5, hw5⟩ : ∃ w5, w5 = w4.alloc (vObj c1) := ⟨_, rfl⟩
        have HR5 := hid (show IsRd w5 b s q2.2 by rw [hw5]; exact H4R.out.alloc _)
        have HG5 := hid (show w.grownBy w5 (some b) by rw [hw5]; exact HG4.out.trans (World.grownBy_alloc _ _ _))
        have HZ5 := hid (show w5.heap[N]? = some valZ by rw [hw5]; exact heapAlloc _ HZ4.out)
        have HT5 := hid (show w5.heap[T]? = some (tokO tk) by rw [hw5]; exact heapAlloc _ HT4.out)
        have HM5 := hid (show w5.heap[M]? = some (vObj c1) by rw [hw5, hM]; exact heap_alloc_new w4 _)
        have HTB5 := hid (show TB w5 b by rw [hw5]; exact HTB4.out.grown (World.grownBy_alloc w4 (vObj c1) none) (.inl rfl))
        have HV5 := hid (show IsVal (fun i => w3.heap.size ≤ i ∧ i < w4.heap.size) w5 c1 d1 by rw [hw5]; exact HV4.out.same fun i hi => ⟨hi, Below.heap_alloc _ _ _ hi.2⟩)
        have HS5 := hid (show w4.heap.size < w5.heap.size ∧ M ≠ b ∧ b < w3.heap.size by
          refine ⟨by rw [hw5, World.size_alloc]; exact Nat.lt_succ_self _, ?_, H3R.out.lt⟩
          have := H4R.out.lt; omega)
        dsimp only [vObj] at hw5
        rw [← hw5, ← hM]
        have HMm := hid hM
        clear hw5 hM
        go_upto_region 10 with (go_at_call 306; refine (HEX.out w5 HR5.out HTB5.out).mono ?_; rintro e w6 ⟨rfl, h6, hg6⟩; have H6R := hid h6; have HG6 := hid hg6; clear h6 hg6)
        have HZ6 := hid (grownN HG6.out HZ5.out HNB.out.1)
        have hct6 : w6.cell? ⟨T, 2, none⟩ = some (.string tk.t) := cellOf (grownN HG6.out HT5.out HNB.out.2.1) 2
        have hl6 := ld6 (grownN HG6.out HM5.out HS5.out.2.1)
        have hv6 : IsVal (· < w6.heap.size) w6 c1 d1 := HV5.out.same fun i hi => ⟨by have := HG6.out.size; have := HS5.out.1; omega, HG6.out.block i (by have := HS5.out.1; omega) (by have := hi.1; have := HS5.out.2.2; simp; omega)⟩
        have HMV := hid (mkVariant_call tk.t (by have := HTT.out; omega) c1 d1 w6 hv6)
        clear hv6
        dsimp only [VC.v] at HMV
        go_wp2_with (go_at_call 309; refine HMV.out.mono ?_; rintro e w7 ⟨⟨c2, rfl, hv7⟩, hb7⟩; have HV7 := hid hv7; have HB7 := hid hb7; obtain ⟨hS1, hL2⟩ := HST.out w7 (.int .i64 c2.k) (.int .i64 c2.i) (.int .i64 c2.s) (.string c2.t) (.slice c2.la c2.ll c2.lc) (.slice c2.fa c2.fl c2.fc) (by simp [Value.oneCell']) (heapExt hb7 HZ6.out); clear hv7 hb7)
        refine bodyPost_ret (v := c2.v) (by simp [results, Tryz.results220, go_sem, hL2]) rfl ?_
        rw [HSP.out]
        refine ⟨c2, .mk 10 0 0 tk.t [d1] [] [], rfl, ?_, ?_, isRd_setRow (isRd_low H6R.out HB7.out H6R.out.lt) HNB.out.1, setRow_ext ((HG5.out.trans HG6.out).trans (grownOf HB7.out (some b))) N _ HNB.out.2.2.1⟩
        · have hss := HG6.out.size
          have hs5 := HS5.out.1
          have hs4 := HS4.out
          have hg3s := HG3.out.size
          have hnn := ltOf HZ6.out
          exact HV7.out.same fun i hi => ⟨⟨by omega, by rw [setRow_size]; exact hi.2⟩, setRow_other w7 N i _ (by omega)⟩
        · intro hx
          rw [HD4.out (expect_e hx)]
  · have qe : (r1.e == 0) = false := by simp [he]
    have qe' : (r1.e != 0) = true := by simp [he]
    have HE := hid he
    clear he
    obtain ⟨hS1, hL2⟩ := HST.out w0 (.int .i64 0) (.int .i64 0) (.int .i64 0) (.string ⟨#[]⟩) (.slice none 0 0) (.slice none 0 0) (by simp [Value.oneCell']) HNZ.out
    go_wp2
    refine bodyPost_ret (v := .agg #[.int .i64 0, .int .i64 0, .int .i64 0, .string ⟨#[]⟩, .slice none 0 0, .slice none 0 0]) (by simp [results, Tryz.results220, go_sem, hL2]) rfl ?_
    have HSP := hid (show Q = (nulV, r1) by rw [HQ.out, namF, if_pos HE.out])
    rw [HSP.out]
    exact ⟨⟨0, 0, 0, ⟨#[]⟩, none, 0, 0, none, 0, 0⟩, nulV, rfl, leaf_val 0 0 (by simp [I64]) (by simp [I64]), fun _ => rfl, isRd_setRow (HR.out) HNB.out.1, setRow_ext (HG.out) N _ HNB.out.2.2.1⟩
end
end Go.Proofs.YtkljbfaemahchaaGreatDoor
