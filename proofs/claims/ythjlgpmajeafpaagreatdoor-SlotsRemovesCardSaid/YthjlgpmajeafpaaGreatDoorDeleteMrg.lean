/-
  slices.Delete of one slot of a row: in place. Conditions: the row lies in one block and is full.
-/
import Derived.Test.YthjlgpmajeafpaaGreatDoorInsertMrg
import Derived.Test.YthjlgpmajeafpaaGreatDoorPutMrg
namespace Go.Proofs.YthjlgpmajeafpaaGreatDoor
open Go Go.RowKit Go.Shelf
set_option linter.unusedVariables false
set_option linter.unusedSimpArgs false

theorem del_list {q i : Nat} (cs : List SlC) (z : SlC) (hn : cs.length = q + 1) (hi : i ≤ q) :
    (cs.take i ++ cs.drop (i + 1) ++ cs.drop q).take q ++ List.replicate 1 z ++ (cs.take i ++ cs.drop (i + 1) ++ cs.drop q).drop (q + 1) = cs.take i ++ cs.drop (i + 1) ++ [z] := by
  have hl : (cs.take i ++ cs.drop (i + 1)).length = q := by simp only [List.length_append, List.length_take, List.length_drop]; omega
  have e2 : (cs.take i ++ cs.drop (i + 1) ++ cs.drop q).drop (q + 1) = [] := List.drop_eq_nil_of_le (by rw [List.length_append, hl, List.length_drop]; omega)
  rw [List.take_left' hl, e2]
  simp

set_option maxRecDepth 100000 in
set_option maxHeartbeats 4000000 in
theorem deleteS_call (g q i : Nat) (cs : List SlC) (w : World) (hrow : InRow slK 58 w g (q + 1) cs) (hn : cs.length = q + 1) (hiq : i ≤ q) (hb : q ≤ 100000) :
    Calls Tryz.prog 100 #[.slice (some ⟨g, 0, none⟩) (q + 1) (q + 1), .int .i64 i, .int .i64 ((i : Int) + 1)] w fun e w' => e = .returned (.slice (some ⟨g, 0, none⟩) q (q + 1)) ∧ Off g w w' ∧ InRow slK 58 w' g (q + 1) (cs.take i ++ cs.drop (i + 1) ++ [zeroC]) := by
  obtain ⟨ti, hi0, hz0, hz1, hz2⟩ := info_parts infoSlot
  have hcl : Cl slK w (some ⟨g, 0, none⟩) (q + 1) cs := by
    have h := hrow.cl 0 (q + 1) (by omega)
    rw [Nat.zero_mul, List.drop_zero, List.take_of_length_le (by omega)] at h
    exact h
  have HN := hid hn
  have HROW := hid (hrow.ext ((Below.refl _ w).drew))
  obtain ⟨A, hA, hAc⟩ : ∃ A : Addr, (if q = i then (some (⟨g, 0, none⟩ : Addr)) else some ⟨g, (i + 1) * 10, none⟩) = some A ∧ Hid (Cl slK w.drew (some A) (q - i) (cs.drop (i + 1))) := by
    by_cases h : q = i
    · refine ⟨⟨g, 0, none⟩, by rw [if_pos h], ⟨by rw [List.length_drop]; omega, .inl (by omega)⟩⟩
    · refine ⟨⟨g, (i + 1) * 10, none⟩, by rw [if_neg h], ?_⟩
      have h1 := cl_drop (hcl.ext ((Below.refl _ w).drew)) (i + 1) (by omega)
      rw [Nat.zero_add, show q + 1 - (i + 1) = q - i by omega] at h1
      exact h1
  have HCB := hAc
  have hne : ¬ (q + 1 = i) := by omega
  have hne2 : ¬ (i = q + 1) := by omega
  have hi1 : (0 : Int) ≤ (i : Int) := by omega
  have hi2 : (i : Int) ≤ (q : Int) := by omega
  have hi3 : (0 : Int) ≤ (i : Int) + 1 := by omega
  have hi4 : (i : Int) + 1 ≤ (q : Int) + 1 := by omega
  have hi5 : ((i : Int) + 1).toNat = i + 1 := by omega
  have hi6 : (i : Int) ≤ (i : Int) + 1 := by omega
  have hi7 : (i : Int) ≤ (q : Int) + 1 := by omega
  have hi8 : ¬ ((i : Int) = (i : Int) + 1) := by omega
  have hq1 : (q : Int) ≤ (q : Int) + 1 := by omega
  have hq2 : ((q : Int) + 1).toNat = q + 1 := by omega
  have hq3 : (0 : Int) ≤ (q : Int) + 1 := by omega
  clear hrow hcl hn hAc
  go_enter Tryz.func100, Tryz.ntmps100
  go_upto_region 5 with (fail)
  refine wp_region_split 8 (fun _ => True) (by kernel_rfl) (by kernel_rfl) (by kernel_rfl) (by decide) (trivial) (fun hS => ?_)
  simp only [List.take_succ_cons, List.take_zero, List.drop_succ_cons, List.drop_zero]
  refine wpAnyH_take (i := 0) (oi := _) (v := ?_) rfl (by kernel_rfl) (by kernel_rfl) (by kernel_rfl) (fun _ _ _ h => h) (Or.inl ⟨by rfl, ?_⟩) hS ?_
  rotate_left
  · intro w' hw'
    (try dsimp only at hw')
    go_simp
    (try with_reducible rfl)
  simp only [Act.put, List.getElem_toArray, List.getElem_cons_succ, List.getElem_cons_zero, List.setIfInBounds_toArray, List.set_cons_zero, List.set_cons_succ]
  refine wpAnyH_take (i := 1) (oi := _) (v := ?_) rfl (by kernel_rfl) (by kernel_rfl) (by kernel_rfl) (fun _ _ _ h => h) (Or.inl ⟨by rfl, ?_⟩) hS ?_
  rotate_left
  · intro w' hw'
    (try dsimp only at hw')
    go_simp
    (try with_reducible rfl)
  simp only [Act.put, List.getElem_toArray, List.getElem_cons_succ, List.getElem_cons_zero, List.setIfInBounds_toArray, List.set_cons_zero, List.set_cons_succ]
  refine wpAnyH_take (i := 2) (oi := _) (v := ?_) rfl (by kernel_rfl) (by kernel_rfl) (by kernel_rfl) (fun _ _ _ h => h) (Or.inl ⟨by rfl, ?_⟩) hS ?_
  rotate_left
  · intro w' hw'
    (try dsimp only at hw')
    go_simp
    (try with_reducible rfl)
  simp only [Act.put, List.getElem_toArray, List.getElem_cons_succ, List.getElem_cons_zero, List.setIfInBounds_toArray, List.set_cons_zero, List.set_cons_succ]
  refine wpAnyH_take (i := 3) (oi := _) (v := ?_) rfl (by kernel_rfl) (by kernel_rfl) (by kernel_rfl) (fun _ _ _ h => h) (Or.inl ⟨by rfl, ?_⟩) hS ?_
  rotate_left
  · intro w' hw'
    (try dsimp only at hw')
    go_simp
    (try with_reducible rfl)
  simp only [Act.put, List.getElem_toArray, List.getElem_cons_succ, List.getElem_cons_zero, List.setIfInBounds_toArray, List.set_cons_zero, List.set_cons_succ]
  refine wpAnyH_take (i := 4) (oi := _) (v := ?_) rfl (by kernel_rfl) (by kernel_rfl) (by kernel_rfl) (fun _ _ _ h => h) (Or.inl ⟨by rfl, ?_⟩) hS ?_
  rotate_left
  · intro w' hw'
    (try dsimp only at hw')
    go_simp
    (try with_reducible rfl)
  simp only [Act.put, List.getElem_toArray, List.getElem_cons_succ, List.getElem_cons_zero, List.setIfInBounds_toArray, List.set_cons_zero, List.set_cons_succ]
  refine wpAnyH_take (i := 5) (oi := _) (v := ?_) rfl (by kernel_rfl) (by kernel_rfl) (by kernel_rfl) (fun _ _ _ h => h) (Or.inl ⟨by rfl, ?_⟩) hS ?_
  rotate_left
  · intro w' hw'
    (try dsimp only at hw')
    go_simp
    (try with_reducible rfl)
  simp only [Act.put, List.getElem_toArray, List.getElem_cons_succ, List.getElem_cons_zero, List.setIfInBounds_toArray, List.set_cons_zero, List.set_cons_succ]
  refine wpAnyH_ready (rs := [6]) (by kernel_rfl) (by simp) ?_
  refine AllReadyH.cons (o := _) rfl (fun K hK => ?_) AllReadyH.nil
  obtain ⟨w1, hr1, hrow1, ho1⟩ := run_append_in (K := slK) (P := Tryz.prog) (w := w.drew) (t := 53) (ty := 53) Tryz.underlying53 hi0 (by rw [hz1]) one_sl HROW.out i (q - i) (q - i) HCB.out (by have := HN.out; omega) (fun _ => ⟨A, rfl⟩) (q + 1) (by omega)
  rw [show i + (q - i) = q by omega] at hr1 hrow1
  have HR1 := hid hrow1
  have HO1 := hid ho1
  clear hrow1 ho1
  refine step_append_run (by rfl) _ _ _ (by rfl) _ _ _ _ (by rfl) (by rfl) hr1 ?_
  clear hr1
  refine hK.out _ _ (trivial) (fun hS => ?_)
  clear hK K
  (try simp only [Act.put, List.getElem_toArray, List.getElem_cons_succ, List.getElem_cons_zero, List.setIfInBounds_toArray, List.set_cons_zero, List.set_cons_succ])
  refine wpAnyH_take (i := 7) (oi := _) (v := ?_) rfl (by kernel_rfl) (by kernel_rfl) (by kernel_rfl) (fun _ _ _ h => h) (Or.inl ⟨by rfl, ?_⟩) hS ?_
  rotate_left
  · intro w' hw'
    (try dsimp only at hw')
    go_simp
    (try with_reducible rfl)
  simp only [Act.put, List.getElem_toArray, List.getElem_cons_succ, List.getElem_cons_zero, List.setIfInBounds_toArray, List.set_cons_zero, List.set_cons_succ]
  refine wpAnyH_done (by kernel_rfl) ?_ _
  (try dsimp only)
  clear hS hA
  have hl1 : (cs.take i ++ cs.drop (i + 1) ++ cs.drop q).length = q + 1 := by have := HN.out; simp only [List.length_append, List.length_take, List.length_drop]; omega
  obtain ⟨w2, hr2, hrow2, ho2⟩ := run_clear_in (K := slK) (P := Tryz.prog) (w := w1) (t := 53) (ty := 0) Tryz.underlying53 hi0 hz0 zeroC rfl one_sl HR1.out q 1 1 (by omega) (by omega)
  have HR2 := hid hrow2
  have HO2 := hid ho2
  clear hrow2 ho2 hl1
  go_wp2_with (with_reducible refine wpList_clear_run' (by rfl) _ _ (by rfl) _ _ w2 (by rfl) hr2 ?_)
  go_ret
  refine ⟨rfl, ((Off.of ((Below.refl _ w).drew)).trans HO1.out).trans HO2.out, ?_⟩
  have h := HR2.out
  rw [del_list _ _ HN.out hiq] at h
  first | exact h | (rw [List.append_assoc] at h; exact h)
end Go.Proofs.YthjlgpmajeafpaaGreatDoor

/-
  slots.Remove. Conditions: the state and the key can be read as data; the keys increase.
-/
namespace Go.Proofs.YthjlgpmajeafpaaGreatDoor
open Go Go.RowKit Go.Shelf
set_option linter.unusedVariables false
set_option linter.unusedSimpArgs false

def RemPost (w : World) (d : Sta) (kd : Val) (e : Ending) (w' : World) : Prop := ∃ c' : StC, e = .returned (.tuple #[c'.v, .bool true]) ∧ Below w.heap.size w w' ∧ IsSta (fun b => w.heap.size ≤ b ∧ b < w'.heap.size) w' c' ⟨d.n, d.t, delL d.l kd⟩

set_option maxRecDepth 100000 in
set_option maxHeartbeats 8000000 in
theorem remT_call (c : StC) (d : Sta) (k : VC) (kd : Val) (w : World) (hs : Srt d.l) (hd : IsSta (· < w.heap.size) w c d) (hk : IsVal (· < w.heap.size) w k kd) (hpb : placeB d.l kd = true) (hlb : d.l.length ≤ 100000) : Calls Tryz.prog 53 #[c.v, k.v] w (RemPost w d kd) := by
  obtain ⟨sn, st, a, sl, sc⟩ := c
  have hbig : sl * 152 ≤ 140737488351232 := hd.l.big
  have HL := hid hd.l.len
  have HNT := hid (And.intro hd.rn hd.rt)
  have HD := hid hd
  dsimp only at HL
  obtain ⟨wb, hwb⟩ : ∃ wb, wb = ((w.alloc (.cells #[.int .i64 sn, .int .i64 st, .slice a sl sc] 55)).alloc (.cells #[.int .i64 k.k, .int .i64 k.i, .int .i64 k.s, .string k.t, .slice k.la k.ll k.lc, .slice k.fa k.fl k.fc] 28)).alloc (.cells #[.int .i64 0, .int .i64 0, .slice none 0 0] 55) := ⟨_, rfl⟩
  have hb0 : Below w.heap.size w wb := by rw [hwb]; exact (((Below.refl _ w).alloc (Nat.le_refl _) _).alloc (by simp) _).alloc (by simp; omega) _
  have hsb : wb.heap.size = w.heap.size + 3 := by rw [hwb]; simp
  have g1 : wb.heap[w.heap.size]? = some (.cells #[.int .i64 sn, .int .i64 st, .slice a sl sc] 55) := by rw [hwb]; exact heapAlloc _ (heapAlloc _ (heap_alloc_new w _))
  have g2 : wb.heap[w.heap.size + 1]? = some (.cells #[.int .i64 k.k, .int .i64 k.i, .int .i64 k.s, .string k.t, .slice k.la k.ll k.lc, .slice k.fa k.fl k.fc] 28) := by rw [hwb]; exact heapAlloc _ (heapNewAt _ _ _ (by simp))
  have g3 : wb.heap[w.heap.size + 2]? = some (.cells #[.int .i64 0, .int .i64 0, .slice none 0 0] 55) := by rw [hwb]; exact heapNewAt _ _ _ (by simp)
  have HC0 : Hid (∀ w', Below wb.heap.size wb w' → (w'.cell? ⟨w.heap.size, 0, none⟩ = some (.int .i64 sn) ∧ w'.cell? ⟨w.heap.size, 1, none⟩ = some (.int .i64 st) ∧ w'.cell? ⟨w.heap.size, 2, none⟩ = some (.slice a sl sc)) ∧ (w'.cell? ⟨w.heap.size + 1, 0, none⟩ = some (.int .i64 k.k) ∧ w'.cell? ⟨w.heap.size + 1, 1, none⟩ = some (.int .i64 k.i) ∧ w'.cell? ⟨w.heap.size + 1, 2, none⟩ = some (.int .i64 k.s) ∧ w'.cell? ⟨w.heap.size + 1, 3, none⟩ = some (.string k.t) ∧ w'.cell? ⟨w.heap.size + 1, 4, none⟩ = some (.slice k.la k.ll k.lc) ∧ w'.cell? ⟨w.heap.size + 1, 5, none⟩ = some (.slice k.fa k.fl k.fc))) := hid fun w' h => by
    have h1 := heapExt h g1
    have h2 := heapExt h g2
    exact ⟨⟨cellOf h1 0, cellOf h1 1, cellOf h1 2⟩, cellOf h2 0, cellOf h2 1, cellOf h2 2, cellOf h2 3, cellOf h2 4, cellOf h2 5⟩
  have G3 := hid g3
  have hfd := find_call ⟨sn, st, a, sl, sc⟩ d k kd wb (hd.same fun b q => ⟨Nat.lt_of_lt_of_le q hb0.size, hb0.block b q⟩) (hk.same fun b q => ⟨Nat.lt_of_lt_of_le q hb0.size, hb0.block b q⟩)
  obtain ⟨pi, hpi⟩ : ∃ p, p = placeI d.l kd := ⟨_, rfl⟩
  have hfd2 : Calls Tryz.prog 35 #[.agg #[.int .i64 sn, .int .i64 st, .slice a sl sc], .agg #[.int .i64 k.k, .int .i64 k.i, .int .i64 k.s, .string k.t, .slice k.la k.ll k.lc, .slice k.fa k.fl k.fc]] wb fun e w' => e = .returned (.tuple #[.int .i64 (pi : Nat), .bool true]) ∧ Below wb.heap.size wb w' := hfd.mono fun e w' h => by
    obtain ⟨h1, h2⟩ := h
    rw [findI_place hs, findB_place hs, ← hpi, hpb] at h1
    exact ⟨h1, h2⟩
  clear hfd
  have HPI := hid hpi
  have HPB := hid hpb
  have HB0 := hid hb0
  have HSB := hid hsb
  have HWB := hid hwb
  have HUP : Hid (∀ w', Below wb.heap.size wb w' → Below w.heap.size w w') := hid fun w' h => HB0.out.trans (h.mono HB0.out.size)
  have HCL : Hid (∀ w', Below wb.heap.size wb w' → Calls Tryz.prog 39 #[.agg #[.int .i64 sn, .int .i64 st, .slice a sl sc]] w' (StaPost2 w' d)) := hid fun w' h => by
    have hw := HUP.out w' h
    exact cloneSta2_call ⟨sn, st, a, sl, sc⟩ d w' (HD.out.same fun b q => ⟨Nat.lt_of_lt_of_le q hw.size, hw.block b q⟩)
  have hplt : pi < sl := by have := placeB_lt hpb; have := HL.out; omega
  have hsl : sl ≤ 100000 := by have := HL.out; omega
  obtain ⟨q, rfl⟩ : ∃ q, sl = q + 1 := ⟨sl - 1, by omega⟩
  have HPL := hid (show pi ≤ q by omega)
  have hq5 : q ≤ 100000 := by omega
  clear hplt hsl hlb
  obtain ⟨⟨s0, s1, s2⟩, x0, x1, x2, x3, x4, x5⟩ := HC0.out _ (Below.refl _ _)
  rw [hwb] at hfd2 s0 s1 s2 x0 x1 x2 x3 x4 x5
  have HFD := hid hfd2
  clear hwb hb0 hsb g1 g2 g3 hfd2 hpi hpb hd hk hs
  dsimp only [StC.v, VC.v]
  go_enter Tryz.func53, Tryz.ntmps53
  go_upto_region 5 with (first
  | (go_at_call 39; refine (HCL.out _ hb3).mono ?_; rintro e w4 ⟨g, n, cs, rfl, hr⟩; have e1 : q + 1 = n := (by have h1 := hr.num; have h2 := HL.out; omega); subst e1; have HR := hid hr; clear hr s0 s1 s2)
  | (go_at_call 35; refine HFD.out.mono ?_; rintro e w3 ⟨rfl, hb3⟩; rw [← HWB.out] at hb3; clear s0 s1 s2 x0 x1 x2 x3 x4 x5; obtain ⟨⟨s0, s1, s2⟩, _⟩ := HC0.out _ hb3))
  have hr := HR.out
  obtain ⟨w5, hw5⟩ : ∃ w5, w5 = w4.alloc (.cells #[.int .i64 d.n, .int .i64 d.t, .slice (some ⟨g, 0, none⟩) (q + 1) (q + 1)] 55) := ⟨_, rfl⟩
  rw [← hw5]
  have HB5 := hid (show Below w4.heap.size w4 w5 by rw [hw5]; exact (Below.refl _ w4).alloc (Nat.le_refl _) _)
  have HS5 := hid (show w5.heap.size = w4.heap.size + 1 by rw [hw5]; simp)
  have HG8 := hid (show w5.heap[w4.heap.size]? = some (.cells #[.int .i64 d.n, .int .i64 d.t, .slice (some ⟨g, 0, none⟩) (q + 1) (q + 1)] 55) by rw [hw5]; exact heap_alloc_new w4 _)
  have hb34 : Below wb.heap.size wb w4 := hb3.trans (hr.below.mono hb3.size)
  have HB35 := hid (show Below wb.heap.size wb w5 from hb34.trans (HB5.out.mono hb34.size))
  have HBX := hid (show wb.heap.size ≤ w3.heap.size from hb3.size)
  have HDE := hid (deleteS_call g q pi cs w5 (hr.row.ext HB5.out) hr.len HPL.out (by omega))
  have hpi0 : (0 : Int) ≤ (pi : Int) := by omega
  have hpiw : IntKind.i64.wrap ((pi : Int) + 1) = (pi : Int) + 1 := IntWalk.i64_in _ (by have := HPL.out; omega)
  have c2 := cellOf HG8.out 2
  have hg4 := hr.lt
  have hg3 := hr.ge
  clear hw5 hr hb3 hb34
  go_upto_region 6 with (go_at_call 100; refine HDE.out.mono ?_; rintro e w6 ⟨rfl, ho6, hr6⟩; have HO6 := hid ho6; have HR6 := hid hr6; have d8 := (ho6.block _ (by have := HS5.out; omega) (by omega)).trans HG8.out; have d2 := cellOf d8 2; have df2 := freeOf d8 2; (try dsimp only at d2); have HD8 := hid d8; clear ho6 hr6 d8)
  clear c2 d2 df2
  obtain ⟨w7, hw7⟩ : ∃ u, u = w6.setCell ⟨w4.heap.size, 2, none⟩ (.slice (some ⟨g, 0, none⟩) q (q + 1)) := ⟨_, rfl⟩
  rw [← hw7]
  have hsb := HSB.out
  have hbx := HBX.out
  have hs5 := HS5.out
  have hs6 := HO6.out.size
  have h34 := HR.out.below.size
  have hw7o : ∀ b, b ≠ w4.heap.size → w7.heap[b]? = w6.heap[b]? := fun b hb => by rw [hw7]; exact Below.heap_setCell _ _ _ _ hb
  have hw7s : w7.heap.size = w6.heap.size := by rw [hw7]; simp [World.setCell]
  have HG8' := hid (show w7.heap[w4.heap.size]? = some (.cells #[.int .i64 d.n, .int .i64 d.t, .slice (some ⟨g, 0, none⟩) q (q + 1)] 55) by
    rw [hw7]
    have h := heapSet (o := 2) (.slice (some ⟨g, 0, none⟩) q (q + 1)) HD8.out
    simpa only [List.setIfInBounds_toArray, List.set_cons_zero, List.set_cons_succ] using h)
  have HG2 := hid (show w7.heap[w.heap.size + 2]? = some (.cells #[.int .i64 0, .int .i64 0, .slice none 0 0] 55) from (hw7o _ (by omega)).trans ((HO6.out.block _ (by omega) (by omega)).trans (heapExt HB35.out G3.out)))
  have HBW := hid (show Below w.heap.size w w7 by rw [hw7]; exact ((HUP.out _ HB35.out).trans (HO6.out.below (by omega) (by omega))).setCell (p := ⟨w4.heap.size, 2, none⟩) (by dsimp only; omega) _)
  have hrow7 : InRow slK 58 w7 g (q + 1) (cs.take (placeI d.l kd) ++ cs.drop (placeI d.l kd + 1) ++ [zeroC]) := by
    rw [← HPI.out]
    have h := HR6.out
    rw [hw7]
    exact h.off (Off.set w4.heap.size 2 _ w6) (by omega)
  have HST := hid (del_sta (B0 := w.heap.size) (r := w.heap.size + 2) (m := q) (k := kd) HR.out HNT.out.1 HNT.out.2 hrow7 (by have := delL_len HPB.out; have := HL.out; omega) (by rw [← HPI.out]; have := HPL.out; omega) (by omega) (by omega) (by omega) (fun b h1 h2 => (hw7o b (by omega)).trans ((HO6.out.block b (by omega) h2).trans (HB5.out.block b h1))) (by omega))
  have e0 := cellOf HG8'.out 0; have e1 := cellOf HG8'.out 1; have e2 := cellOf HG8'.out 2
  have f0 := cellOf HG2.out 0; have ff0 := freeOf HG2.out 0; have f1 := cellOf HG2.out 1; have ff1 := freeOf HG2.out 1; have f2 := cellOf HG2.out 2; have ff2 := freeOf HG2.out 2
  (try dsimp only at e0 e1 e2 f0 f1 f2)
  clear hw7 hsb hbx hs5 hs6 h34 hw7o hw7s hg4 hg3 hrow7
  go_wp2
  clear e0 e1 e2 f0 f1 f2 ff0 ff1 ff2
  obtain ⟨h9, hI, hB⟩ := setThree (v0 := .int .i64 d.n) (v1 := .int .i64 d.t) (v2 := .slice (some ⟨g, 0, none⟩) q (q + 1)) HG2.out HST.out
  have hB9 := hB _ _ HBW.out (by omega)
  exact bodyPost_ret (v := .tuple #[.agg #[.int .i64 d.n, .int .i64 d.t, .slice (some ⟨g, 0, none⟩) q (q + 1)], .bool true]) (by simp [results, Tryz.results53, go_sem, cellOf h9]) rfl ⟨⟨d.n, d.t, some ⟨g, 0, none⟩, q, q + 1⟩, rfl, hB9, hI⟩
set_option maxRecDepth 100000 in
set_option maxHeartbeats 8000000 in
theorem remF_call (c : StC) (d : Sta) (k : VC) (kd : Val) (w : World) (hs : Srt d.l) (hd : IsSta (· < w.heap.size) w c d) (hk : IsVal (· < w.heap.size) w k kd) (hpb : placeB d.l kd = false) : Calls Tryz.prog 53 #[c.v, k.v] w fun e w' => e = .returned (.tuple #[.agg #[.int .i64 0, .int .i64 0, .slice none 0 0], .bool false]) ∧ Below w.heap.size w w' := by
  obtain ⟨sn, st, a, sl, sc⟩ := c
  have hbig : sl * 152 ≤ 140737488351232 := hd.l.big
  have HL := hid hd.l.len
  have HNT := hid (And.intro hd.rn hd.rt)
  have HD := hid hd
  dsimp only at HL
  obtain ⟨wb, hwb⟩ : ∃ wb, wb = ((w.alloc (.cells #[.int .i64 sn, .int .i64 st, .slice a sl sc] 55)).alloc (.cells #[.int .i64 k.k, .int .i64 k.i, .int .i64 k.s, .string k.t, .slice k.la k.ll k.lc, .slice k.fa k.fl k.fc] 28)).alloc (.cells #[.int .i64 0, .int .i64 0, .slice none 0 0] 55) := ⟨_, rfl⟩
  have hb0 : Below w.heap.size w wb := by rw [hwb]; exact (((Below.refl _ w).alloc (Nat.le_refl _) _).alloc (by simp) _).alloc (by simp; omega) _
  have hsb : wb.heap.size = w.heap.size + 3 := by rw [hwb]; simp
  have g1 : wb.heap[w.heap.size]? = some (.cells #[.int .i64 sn, .int .i64 st, .slice a sl sc] 55) := by rw [hwb]; exact heapAlloc _ (heapAlloc _ (heap_alloc_new w _))
  have g2 : wb.heap[w.heap.size + 1]? = some (.cells #[.int .i64 k.k, .int .i64 k.i, .int .i64 k.s, .string k.t, .slice k.la k.ll k.lc, .slice k.fa k.fl k.fc] 28) := by rw [hwb]; exact heapAlloc _ (heapNewAt _ _ _ (by simp))
  have g3 : wb.heap[w.heap.size + 2]? = some (.cells #[.int .i64 0, .int .i64 0, .slice none 0 0] 55) := by rw [hwb]; exact heapNewAt _ _ _ (by simp)
  have HC0 : Hid (∀ w', Below wb.heap.size wb w' → (w'.cell? ⟨w.heap.size, 0, none⟩ = some (.int .i64 sn) ∧ w'.cell? ⟨w.heap.size, 1, none⟩ = some (.int .i64 st) ∧ w'.cell? ⟨w.heap.size, 2, none⟩ = some (.slice a sl sc)) ∧ (w'.cell? ⟨w.heap.size + 1, 0, none⟩ = some (.int .i64 k.k) ∧ w'.cell? ⟨w.heap.size + 1, 1, none⟩ = some (.int .i64 k.i) ∧ w'.cell? ⟨w.heap.size + 1, 2, none⟩ = some (.int .i64 k.s) ∧ w'.cell? ⟨w.heap.size + 1, 3, none⟩ = some (.string k.t) ∧ w'.cell? ⟨w.heap.size + 1, 4, none⟩ = some (.slice k.la k.ll k.lc) ∧ w'.cell? ⟨w.heap.size + 1, 5, none⟩ = some (.slice k.fa k.fl k.fc))) := hid fun w' h => by
    have h1 := heapExt h g1
    have h2 := heapExt h g2
    exact ⟨⟨cellOf h1 0, cellOf h1 1, cellOf h1 2⟩, cellOf h2 0, cellOf h2 1, cellOf h2 2, cellOf h2 3, cellOf h2 4, cellOf h2 5⟩
  have G3 := hid g3
  have hfd := find_call ⟨sn, st, a, sl, sc⟩ d k kd wb (hd.same fun b q => ⟨Nat.lt_of_lt_of_le q hb0.size, hb0.block b q⟩) (hk.same fun b q => ⟨Nat.lt_of_lt_of_le q hb0.size, hb0.block b q⟩)
  obtain ⟨pi, hpi⟩ : ∃ p, p = placeI d.l kd := ⟨_, rfl⟩
  have hfd2 : Calls Tryz.prog 35 #[.agg #[.int .i64 sn, .int .i64 st, .slice a sl sc], .agg #[.int .i64 k.k, .int .i64 k.i, .int .i64 k.s, .string k.t, .slice k.la k.ll k.lc, .slice k.fa k.fl k.fc]] wb fun e w' => e = .returned (.tuple #[.int .i64 (pi : Nat), .bool false]) ∧ Below wb.heap.size wb w' := hfd.mono fun e w' h => by
    obtain ⟨h1, h2⟩ := h
    rw [findI_place hs, findB_place hs, ← hpi, hpb] at h1
    exact ⟨h1, h2⟩
  clear hfd
  have HPI := hid hpi
  have HPB := hid hpb
  have HB0 := hid hb0
  have HSB := hid hsb
  have HWB := hid hwb
  have HUP : Hid (∀ w', Below wb.heap.size wb w' → Below w.heap.size w w') := hid fun w' h => HB0.out.trans (h.mono HB0.out.size)
  have HCL : Hid (∀ w', Below wb.heap.size wb w' → Calls Tryz.prog 39 #[.agg #[.int .i64 sn, .int .i64 st, .slice a sl sc]] w' (StaPost2 w' d)) := hid fun w' h => by
    have hw := HUP.out w' h
    exact cloneSta2_call ⟨sn, st, a, sl, sc⟩ d w' (HD.out.same fun b q => ⟨Nat.lt_of_lt_of_le q hw.size, hw.block b q⟩)
  skip
  obtain ⟨⟨s0, s1, s2⟩, x0, x1, x2, x3, x4, x5⟩ := HC0.out _ (Below.refl _ _)
  rw [hwb] at hfd2 s0 s1 s2 x0 x1 x2 x3 x4 x5
  have HFD := hid hfd2
  clear hwb hb0 hsb g1 g2 g3 hfd2 hpi hpb hd hk hs
  dsimp only [StC.v, VC.v]
  go_enter Tryz.func53, Tryz.ntmps53
  go_wp2_with (go_at_call 35; refine HFD.out.mono ?_; rintro e w3 ⟨rfl, hb3⟩; rw [← HWB.out] at hb3; clear s0 s1 s2 x0 x1 x2 x3 x4 x5; have g3 := heapExt hb3 G3.out; have f0 := cellOf g3 0; have ff0 := freeOf g3 0; have f1 := cellOf g3 1; have ff1 := freeOf g3 1; have f2 := cellOf g3 2; have ff2 := freeOf g3 2; (try dsimp only at f0 f1 f2); have HG3 := hid g3; clear g3)
  clear f0 f1 f2 ff0 ff1 ff2
  have h9 := heapSet (o := 2) (.slice none 0 0) (heapSet (o := 1) (.int .i64 0) (heapSet (o := 0) (.int .i64 0) HG3.out))
  simp only [List.setIfInBounds_toArray, List.set_cons_zero, List.set_cons_succ] at h9
  exact bodyPost_ret (v := .tuple #[.agg #[.int .i64 0, .int .i64 0, .slice none 0 0], .bool false]) (by simp [results, Tryz.results53, go_sem, cellOf h9]) rfl ⟨rfl, (((HUP.out _ hb3).setCell (p := ⟨w.heap.size + 2, 0, none⟩) (by dsimp only; omega) _).setCell (p := ⟨w.heap.size + 2, 1, none⟩) (by dsimp only; omega) _).setCell (p := ⟨w.heap.size + 2, 2, none⟩) (by dsimp only; omega) _⟩
end Go.Proofs.YthjlgpmajeafpaaGreatDoor
