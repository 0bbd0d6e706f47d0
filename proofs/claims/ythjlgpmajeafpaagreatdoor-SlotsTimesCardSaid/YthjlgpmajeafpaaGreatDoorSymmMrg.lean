/-
  slots.Check returns the first error of a state. Conditions: the state can be read as data; Tabs.
-/
import Derived.Test.YthjlgpmajeafpaaGreatDoorSlotBMrg
import Derived.Test.YthjlgpmajeafpaaGreatDoorSizeMrg
import Derived.Test.YthjlgpmajeafpaaGreatDoorReflMrg
namespace Go.Proofs.YthjlgpmajeafpaaGreatDoor
open Go Go.RowKit Go.Shelf
set_option linter.unusedVariables false
set_option linter.unusedSimpArgs false

def cmpP : Option Val → Val → Int
  | none, _ => 1
  | some p, x => cmpV x p
def prevK (l : List Slot) : Nat → Option Val
  | 0 => none
  | k + 1 => (l[k]?).map (·.k)
theorem prevK_succ (l : List Slot) (k : Nat) (h : k < l.length) : prevK l (k + 1) = some l[k].k := by rw [prevK, List.getElem?_eq_getElem h]; rfl
/-- The first error of slots, given the key ahead, the items and the number of values that came ahead. -/
def slotsE : Option Val → List Msg → Nat → List Slot → Int
  | _, _, _, [] => 0
  | prev, acc, nv, x :: r => if chkVal x.k ≠ 0 ∧ isNullV x.k = false then chkVal x.k else if cmpP prev x.k = 0 then 7 else if cmpP prev x.k = -1 then 24
    else if (slotE acc nv x).1 ≠ 0 then (slotE acc nv x).1 else slotsE (some x.k) (slotE acc nv x).2.1 (slotE acc nv x).2.2 r
def checkE (d : Sta) : Int := if numE d.n d.t ≠ 0 then numE d.n d.t else if 1024 < d.l.length then 9 else slotsE none [] 0 d.l
theorem ChkAt.self {CT ME B cb : Nat} {w w' : World} {acc : List Msg} {nv : Nat} {iv : Value} (h : ChkAt CT ME B cb w w' acc nv iv) : ChkAt CT ME B cb w' w' acc nv iv := ⟨⟨Below.refl _ _, h.k.n, h.k.at'⟩, h.r, h.n, h.m, h.v⟩
theorem ChkAt.ext {CT ME B cb : Nat} {w w' w'' : World} {acc : List Msg} {nv : Nat} {iv : Value} (h : ChkAt CT ME B cb w w' acc nv iv) (hb : Below w'.heap.size w' w'') : ChkAt CT ME B cb w'' w'' acc nv iv :=
  ⟨⟨Below.refl _ _, Nat.le_trans h.k.n hb.size, fun p hp => heapExt hb (h.k.at' p hp)⟩, h.r.ext h.k.n hb, h.n, h.m, h.v⟩
def SlotPost' (B cb : Nat) (acc : List Msg) (nv : Nat) (d : Slot) (w : World) (v : Int) (e : Ending) (w' : World) : Prop :=
  e = .returned (.int .i64 v) ∧ Below B w w' ∧ B ≤ w'.heap.size ∧ (v = 0 → ∃ iv, ChkAt 111 30 B cb w w' (slotE acc nv d).2.1 (slotE acc nv d).2.2 iv)
theorem slotPost'_of {B cb : Nat} {acc : List Msg} {nv : Nat} {d : Slot} {w : World} {v : Int} {e : Ending} {w' : World} (h : SlotPost B cb acc nv d w e w') (hv : v = (slotE acc nv d).1) : SlotPost' B cb acc nv d w v e w' := by
  subst hv; exact h

set_option maxRecDepth 100000 in
set_option maxHeartbeats 16000000 in
theorem slotsCheck_call (c : StC) (d : Sta) (w : World) (hd : IsSta (· < w.heap.size) w c d) (hT : Tabs w) : Calls Tryz.prog 31 #[c.v] w fun e w' => e = .returned (.int .i64 (checkE d)) ∧ Below w.heap.size w w' := by
  obtain ⟨sn, st, a, sl, sc⟩ := c
  have hbig := hd.l.big
  have HL := hid hd.l.len
  have HDL := hid hd.l
  have HT := hid hT
  have HNT := hid (And.intro hd.n hd.t)
  dsimp only at hbig HL HDL HNT
  obtain ⟨wb, hwb⟩ : ∃ wb, wb = (w.alloc (.cells #[.int .i64 sn, .int .i64 st, .slice a sl sc] 55)).alloc (.cells #[.slice none 0 0, .int .i64 0] 111) := ⟨_, rfl⟩
  have hb0 : Below w.heap.size w wb := by rw [hwb]; exact ((Below.refl _ w).alloc (Nat.le_refl _) _).alloc (by simp) _
  have hsb : wb.heap.size = w.heap.size + 2 := by rw [hwb]; simp
  have g1 : wb.heap[w.heap.size]? = some (.cells #[.int .i64 sn, .int .i64 st, .slice a sl sc] 55) := by rw [hwb]; exact heapAlloc _ (heap_alloc_new w _)
  have g2 : wb.heap[w.heap.size + 1]? = some (.cells #[.slice none 0 0, .int .i64 0] 111) := by rw [hwb]; exact heapNewAt _ _ _ (by simp)
  have hck0 : ChkAt 111 30 (w.heap.size + 1) (w.heap.size + 1) wb wb [] 0 (.slice none 0 0) := ⟨⟨Below.refl _ _, by omega, fun p hp => by simp only [List.mem_cons, List.not_mem_nil, or_false] at hp; rw [hp]; exact g2⟩, Kept.nil _ _ _, (fun r e => by cases e), (by simp), (by omega)⟩
  have HBOX := hid (heap_alloc_new w (.cells #[.int .i64 sn, .int .i64 st, .slice a sl sc] 55))
  have HWB := hid hwb
  have HB0 := hid hb0
  have G1 := hid g1
  have HCK0 := hid hck0
  have HSB := hid hsb
  clear hd hT hwb hb0 hsb g1 g2 hck0
  have k0 := cellOf HBOX.out 0
  have k1 := cellOf HBOX.out 1
  have k2 := cellOf HBOX.out 2
  (try dsimp only at k0 k1 k2)
  dsimp only [StC.v]
  go_enter Tryz.func31, Tryz.ntmps31
  obtain ⟨u, hu⟩ : ∃ u, u = numE sn st := ⟨_, rfl⟩
  have HU := hid hu
  have HNU : Hid (∀ w', Calls Tryz.prog 74 #[.int .i64 sn, .int .i64 st] w' fun e w2 => e = .returned (.int .i64 u) ∧ w' = w2) := hid fun w' => by rw [hu]; exact numbers_call sn st w'
  clear hu
  by_cases hu0 : u = 0
  case neg =>
    have r := hid (show checkE d = u by rw [checkE, ← HNT.out.1, ← HNT.out.2, ← HU.out, if_pos hu0])
    go_wp2_with (go_at_call 74; refine (HNU.out _).mono ?_; rintro e w2 ⟨rfl, rfl⟩)
    go_ret
    exact ⟨retI r.out.symm, (Below.refl _ w).alloc (Nat.le_refl _) _⟩
  case pos =>
  subst hu0
  by_cases hbl : 1024 < sl
  · have hbl' : (1024 : Int) < (sl : Int) := by omega
    have r := hid (show checkE d = 9 by rw [checkE, ← HNT.out.1, ← HNT.out.2, ← HU.out, if_neg (by decide), if_pos (by rw [← HL.out]; exact hbl)])
    go_wp2_with (go_at_call 74; refine (HNU.out _).mono ?_; rintro e w2 ⟨rfl, rfl⟩)
    go_ret
    exact ⟨retI r.out.symm, (Below.refl _ w).alloc (Nat.le_refl _) _⟩
  have hbl' : ¬ (1024 : Int) < (sl : Int) := by omega
  have R0 := hid (show checkE d = slotsE none [] 0 d.l by rw [checkE, ← HNT.out.1, ← HNT.out.2, ← HU.out, if_neg (by decide), if_neg (by rw [← HL.out]; exact hbl)])
  go_wp2_with (go_at_call 74; refine (HNU.out _).mono ?_; rintro e w2 ⟨rfl, rfl⟩)
  clear k0 k1 k2 HNU HU HNT HBOX
  rw [← HWB.out]
  go_loopw [24] (fun i wr => ∃ (k : Nat) (acc : List Msg) (nv : Nat) (iv : Value), k ≤ sl ∧ i = .int .i64 k ∧ ChkAt 111 30 (w.heap.size + 1) (w.heap.size + 1) wr wr acc nv iv ∧ Below (w.heap.size + 1) wb wr ∧ slotsE none [] 0 d.l = slotsE (prevK d.l k) acc nv (d.l.drop k)) (fun i _ => sl - (intOf i).toNat)
  case atStart => exact ⟨0, [], 0, _, Nat.zero_le _, rfl, HCK0.out, Below.refl _ _, by rw [List.drop_zero]; rfl⟩
  case round =>
  obtain ⟨k, acc, nv, iv, hks, rfl, hck, hbwp, hit⟩ := hrel
  obtain ⟨wp, rfl⟩ : ∃ w1 : World, w1 = wr := ⟨_, rfl⟩
  have HIT := hid hit
  have HCK := hid hck
  have HBWP := hid hbwp
  have hsz : w.heap.size + 2 ≤ wp.heap.size := by have := HSB.out; have := hbwp.size; omega
  clear hit hck HCK0
  by_cases hlt : k < sl
  · have hkl : k < d.l.length := by have := HL.out; omega
    obtain ⟨b, o, rfl, hb, hx⟩ := HDL.out.slot (show 0 < sl by omega)
    obtain ⟨x, hxa, hxi⟩ := hx k hkl
    have hbw : Below w.heap.size w wp := HB0.out.trans (hbwp.mono (by omega))
    obtain ⟨x0, x1, x2, x3, x4, x5, x6, x7, x8, x9⟩ := (hxa.same (hbw.block b hb)).slot
    have hlt' : (k : Int) < (sl : Int) := by omega
    have hk0 : (0 : Int) ≤ (k : Int) := by omega
    have hsl : (sl : Int) ≤ 1024 := by omega
    have HB := hid hb
    have HX := hid hx
    have HXI := hid hxi
    have HBA := hid (show Below (w.heap.size + 1) wp (wp.alloc (.cells #[.int .i64 x.k.k, .int .i64 x.k.i, .int .i64 x.k.s, .string x.k.t, .slice x.k.la x.k.ll x.k.lc, .slice x.k.fa x.k.fl x.k.fc, .int .i64 x.n, .int .i64 x.t, .slice x.ia x.il x.ic, .slice x.va x.vl x.vc] 58)) from (Below.refl _ wp).alloc (by omega) _)
    have HBA2 := hid (show Below wp.heap.size wp (wp.alloc (.cells #[.int .i64 x.k.k, .int .i64 x.k.i, .int .i64 x.k.s, .string x.k.t, .slice x.k.la x.k.ll x.k.lc, .slice x.k.fa x.k.fl x.k.fc, .int .i64 x.n, .int .i64 x.t, .slice x.ia x.il x.ic, .slice x.va x.vl x.vc] 58)) from (Below.refl _ wp).alloc (Nat.le_refl _) _)
    have HSA := hid (show w.heap.size + 1 ≤ (wp.alloc (.cells #[.int .i64 x.k.k, .int .i64 x.k.i, .int .i64 x.k.s, .string x.k.t, .slice x.k.la x.k.ll x.k.lc, .slice x.k.fa x.k.fl x.k.fc, .int .i64 x.n, .int .i64 x.t, .slice x.ia x.il x.ic, .slice x.va x.vl x.vc] 58)).heap.size by simp; omega)
    have HC : Hid (∀ w', Below (wp.alloc (.cells #[.int .i64 x.k.k, .int .i64 x.k.i, .int .i64 x.k.s, .string x.k.t, .slice x.k.la x.k.ll x.k.lc, .slice x.k.fa x.k.fl x.k.fc, .int .i64 x.n, .int .i64 x.t, .slice x.ia x.il x.ic, .slice x.va x.vl x.vc] 58)).heap.size (wp.alloc (.cells #[.int .i64 x.k.k, .int .i64 x.k.i, .int .i64 x.k.s, .string x.k.t, .slice x.k.la x.k.ll x.k.lc, .slice x.k.fa x.k.fl x.k.fc, .int .i64 x.n, .int .i64 x.t, .slice x.ia x.il x.ic, .slice x.va x.vl x.vc] 58)) w' → (w'.cell? ⟨w.heap.size, 0, none⟩ = some (.int .i64 sn) ∧ w'.cell? ⟨w.heap.size, 1, none⟩ = some (.int .i64 st) ∧ w'.cell? ⟨w.heap.size, 2, none⟩ = some (.slice (some ⟨b, o, none⟩) sl sc)) ∧ (w'.cell? ⟨wp.heap.size, 0, none⟩ = some (.int .i64 x.k.k) ∧ w'.cell? ⟨wp.heap.size, 1, none⟩ = some (.int .i64 x.k.i) ∧ w'.cell? ⟨wp.heap.size, 2, none⟩ = some (.int .i64 x.k.s) ∧ w'.cell? ⟨wp.heap.size, 3, none⟩ = some (.string x.k.t) ∧ w'.cell? ⟨wp.heap.size, 4, none⟩ = some (.slice x.k.la x.k.ll x.k.lc) ∧ w'.cell? ⟨wp.heap.size, 5, none⟩ = some (.slice x.k.fa x.k.fl x.k.fc) ∧ w'.cell? ⟨wp.heap.size, 6, none⟩ = some (.int .i64 x.n) ∧ w'.cell? ⟨wp.heap.size, 7, none⟩ = some (.int .i64 x.t) ∧ w'.cell? ⟨wp.heap.size, 8, none⟩ = some (.slice x.ia x.il x.ic) ∧ w'.cell? ⟨wp.heap.size, 9, none⟩ = some (.slice x.va x.vl x.vc))) := hid fun w' h => by
      have h1 := heapExt h (heap_alloc_new wp (.cells #[.int .i64 x.k.k, .int .i64 x.k.i, .int .i64 x.k.s, .string x.k.t, .slice x.k.la x.k.ll x.k.lc, .slice x.k.fa x.k.fl x.k.fc, .int .i64 x.n, .int .i64 x.t, .slice x.ia x.il x.ic, .slice x.va x.vl x.vc] 58))
      have h2 := heapExt h (heapAlloc (.cells #[.int .i64 x.k.k, .int .i64 x.k.i, .int .i64 x.k.s, .string x.k.t, .slice x.k.la x.k.ll x.k.lc, .slice x.k.fa x.k.fl x.k.fc, .int .i64 x.n, .int .i64 x.t, .slice x.ia x.il x.ic, .slice x.va x.vl x.vc] 58) (heapBelow hbwp G1.out (by omega)))
      exact ⟨⟨cellOf h2 0, cellOf h2 1, cellOf h2 2⟩, cellOf h1 0, cellOf h1 1, cellOf h1 2, cellOf h1 3, cellOf h1 4, cellOf h1 5, cellOf h1 6, cellOf h1 7, cellOf h1 8, cellOf h1 9⟩
    have hbwa : Below w.heap.size w (wp.alloc (.cells #[.int .i64 x.k.k, .int .i64 x.k.i, .int .i64 x.k.s, .string x.k.t, .slice x.k.la x.k.ll x.k.lc, .slice x.k.fa x.k.fl x.k.fc, .int .i64 x.n, .int .i64 x.t, .slice x.ia x.il x.ic, .slice x.va x.vl x.vc] 58)) := hbw.alloc hbw.size _
    obtain ⟨v, hv⟩ : ∃ v, v = chkVal d.l[k].k := ⟨_, rfl⟩
    obtain ⟨z, hz⟩ : ∃ z, z = isNullV d.l[k].k := ⟨_, rfl⟩
    have HVC : Hid (Calls Tryz.prog 75 #[.agg #[.int .i64 x.k.k, .int .i64 x.k.i, .int .i64 x.k.s, .string x.k.t, .slice x.k.la x.k.ll x.k.lc, .slice x.k.fa x.k.fl x.k.fc]] (wp.alloc (.cells #[.int .i64 x.k.k, .int .i64 x.k.i, .int .i64 x.k.s, .string x.k.t, .slice x.k.la x.k.ll x.k.lc, .slice x.k.fa x.k.fl x.k.fc, .int .i64 x.n, .int .i64 x.t, .slice x.ia x.il x.ic, .slice x.va x.vl x.vc] 58)) fun e w' => e = .returned (.int .i64 v) ∧ Below (wp.alloc (.cells #[.int .i64 x.k.k, .int .i64 x.k.i, .int .i64 x.k.s, .string x.k.t, .slice x.k.la x.k.ll x.k.lc, .slice x.k.fa x.k.fl x.k.fc, .int .i64 x.n, .int .i64 x.t, .slice x.ia x.il x.ic, .slice x.va x.vl x.vc] 58)).heap.size (wp.alloc (.cells #[.int .i64 x.k.k, .int .i64 x.k.i, .int .i64 x.k.s, .string x.k.t, .slice x.k.la x.k.ll x.k.lc, .slice x.k.fa x.k.fl x.k.fc, .int .i64 x.n, .int .i64 x.t, .slice x.ia x.il x.ic, .slice x.va x.vl x.vc] 58)) w') := hid (by rw [hv]; exact check_call x.k _ _ (hxi.k.same fun b q => ⟨Nat.lt_of_lt_of_le q hbwa.size, hbwa.block b q⟩) (HT.out.below hbwa))
    have HIS : Hid (∀ w', Below (wp.alloc (.cells #[.int .i64 x.k.k, .int .i64 x.k.i, .int .i64 x.k.s, .string x.k.t, .slice x.k.la x.k.ll x.k.lc, .slice x.k.fa x.k.fl x.k.fc, .int .i64 x.n, .int .i64 x.t, .slice x.ia x.il x.ic, .slice x.va x.vl x.vc] 58)).heap.size (wp.alloc (.cells #[.int .i64 x.k.k, .int .i64 x.k.i, .int .i64 x.k.s, .string x.k.t, .slice x.k.la x.k.ll x.k.lc, .slice x.k.fa x.k.fl x.k.fc, .int .i64 x.n, .int .i64 x.t, .slice x.ia x.il x.ic, .slice x.va x.vl x.vc] 58)) w' → Calls Tryz.prog 76 #[.agg #[.int .i64 x.k.k, .int .i64 x.k.i, .int .i64 x.k.s, .string x.k.t, .slice x.k.la x.k.ll x.k.lc, .slice x.k.fa x.k.fl x.k.fc]] w' fun e w2 => e = .returned (.bool z) ∧ Below w'.heap.size w' w2) := hid fun w' _ => by rw [hz, isNullV_of hxi.k]; exact isNull_call _ _ _ _ _ _ _ _ _ _ w'
    have HV := hid hv
    have HZ := hid hz
    clear hxa hxi hx hb hbw hbwa hv hz hbwp
    obtain ⟨⟨q0, q1, q2⟩, m0, m1, m2, m3, m4, m5, m6, m7, m8, m9⟩ := HC.out _ (Below.refl _ _)
    by_cases hv0 : v = 0
    · subst hv0
      have HKEY := hid (show ¬ (chkVal d.l[k].k ≠ 0 ∧ isNullV d.l[k].k = false) from fun h => h.1 HV.out.symm)
      by_cases hkz : k = 0
      · have hkf : decide ((0 : Int) < (k : Int)) = false := by simp; omega
        have hkf2 : decide (0 < k) = false := by simp; omega
        have HKZ := hid (show prevK d.l k = none by rw [hkz, prevK])
        clear hkz
        have HNEXT := hid (show slotsE (prevK d.l k) acc nv (d.l.drop k) = if (slotE acc nv d.l[k]).1 ≠ 0 then (slotE acc nv d.l[k]).1 else slotsE (some d.l[k].k) (slotE acc nv d.l[k]).2.1 (slotE acc nv d.l[k]).2.2 (d.l.drop (k + 1)) by
          rw [List.drop_eq_getElem_cons hkl, slotsE, if_neg HKEY.out, if_neg (by rw [HKZ.out]; exact (show ¬ (1 : Int) = 0 by decide)), if_neg (by rw [HKZ.out]; exact (show ¬ (1 : Int) = -1 by decide))])
        obtain ⟨v2, hv2⟩ : ∃ v2, v2 = (slotE acc nv d.l[k]).1 := ⟨_, rfl⟩
        have HSL : Hid (∀ w', Below (wp.alloc (.cells #[.int .i64 x.k.k, .int .i64 x.k.i, .int .i64 x.k.s, .string x.k.t, .slice x.k.la x.k.ll x.k.lc, .slice x.k.fa x.k.fl x.k.fc, .int .i64 x.n, .int .i64 x.t, .slice x.ia x.il x.ic, .slice x.va x.vl x.vc] 58)).heap.size (wp.alloc (.cells #[.int .i64 x.k.k, .int .i64 x.k.i, .int .i64 x.k.s, .string x.k.t, .slice x.k.la x.k.ll x.k.lc, .slice x.k.fa x.k.fl x.k.fc, .int .i64 x.n, .int .i64 x.t, .slice x.ia x.il x.ic, .slice x.va x.vl x.vc] 58)) w' → Calls Tryz.prog 78 #[.pointer (some ⟨w.heap.size + 1, 0, none⟩), .agg #[.int .i64 x.k.k, .int .i64 x.k.i, .int .i64 x.k.s, .string x.k.t, .slice x.k.la x.k.ll x.k.lc, .slice x.k.fa x.k.fl x.k.fc, .int .i64 x.n, .int .i64 x.t, .slice x.ia x.il x.ic, .slice x.va x.vl x.vc]] w' (SlotPost' (w.heap.size + 1) (w.heap.size + 1) acc nv d.l[k] w' v2)) := hid fun w' h => (slot_call w HT.out (w.heap.size + 1) (w.heap.size + 1) x d.l[k] acc nv iv w' (HB0.out.trans ((HBWP.out.trans (HBA.out.trans (h.mono HSA.out))).mono (by omega))) (by omega) (Nat.le_refl _) (HXI.out.same fun b q => ⟨by omega, (HB0.out.trans ((HBWP.out.trans (HBA.out.trans (h.mono HSA.out))).mono (by omega))).block b q⟩) (HCK.out.ext (HBA2.out.trans (h.mono (by simp))))).mono fun e w2 h => slotPost'_of h hv2
        have HV2 := hid hv2
        clear hv2
        by_cases hv20 : v2 = 0
        · subst hv20
          have hnext := hid (HNEXT.out.trans (if_neg (fun h => h HV2.out.symm)))
          go_wp2_with (first
                      | (go_at_call 78; refine (HSL.out _ hb3).mono ?_; rintro e w5 ⟨rfl, hb5, hn5, hc5⟩)
                      | (go_at_call 75; refine HVC.out.mono ?_; rintro e w3 ⟨rfl, hb3⟩; clear q0 q1 q2 m0 m1 m2 m3 m4 m5 m6 m7 m8 m9; obtain ⟨⟨q0, q1, q2⟩, m0, m1, m2, m3, m4, m5, m6, m7, m8, m9⟩ := HC.out _ (hb3)))
          go_roundw
          case rel =>
            obtain ⟨iv5, hck5⟩ := hc5 (by first | rfl | trivial)
            exact ⟨k + 1, (slotE acc nv d.l[k]).2.1, (slotE acc nv d.l[k]).2.2, iv5, by omega, by go_num, hck5.self, HBWP.out.trans ((HBA.out.trans (hb3.mono HSA.out)).trans hb5), by rw [HIT.out, hnext.out, prevK_succ d.l k hkl]⟩
          case measure => simp [intOf]; omega
        · have r := hid (show checkE d = v2 by rw [R0.out, HIT.out, HNEXT.out, if_pos (by rw [← HV2.out]; exact hv20), HV2.out])
          go_wp2_with (first
                      | (go_at_call 78; refine (HSL.out _ hb3).mono ?_; rintro e w5 ⟨rfl, hb5, hn5, hc5⟩)
                      | (go_at_call 75; refine HVC.out.mono ?_; rintro e w3 ⟨rfl, hb3⟩; clear q0 q1 q2 m0 m1 m2 m3 m4 m5 m6 m7 m8 m9; obtain ⟨⟨q0, q1, q2⟩, m0, m1, m2, m3, m4, m5, m6, m7, m8, m9⟩ := HC.out _ (hb3)))
          go_ret
          exact ⟨retI r.out.symm, HB0.out.trans ((HBWP.out.trans ((HBA.out.trans (hb3.mono HSA.out)).trans hb5)).mono (by omega))⟩
      · obtain ⟨k1, hk1⟩ : ∃ k1, k = k1 + 1 := ⟨k - 1, by omega⟩
        have hwr : IntKind.i64.wrap ((k : Int) - 1) = (k : Int) - 1 := IntWalk.i64_in _ (by omega)
        have hk1' : (0 : Int) ≤ (k : Int) - 1 := by omega
        have hk1'' : (1 : Int) ≤ (k : Int) := by omega
        have hk1N : 1 ≤ k := by omega
        have hk2' : (k : Int) - 1 < (sl : Int) := by omega
        have hkt : k - 1 = k1 := by omega
        have hkf : decide ((0 : Int) < (k : Int)) = true := by simp; omega
        have hkf2 : decide (0 < k) = true := by simp; omega
        have hk1l : k1 < d.l.length := by omega
        obtain ⟨y, hya, hyi⟩ := HX.out k1 hk1l
        obtain ⟨cc, hcc⟩ : ∃ cc, cc = cmpV d.l[k].k d.l[k1].k := ⟨_, rfl⟩
        have HPK : prevK d.l k = some d.l[k1].k := by rw [show prevK d.l k = prevK d.l (k1 + 1) by rw [hk1]]; exact prevK_succ d.l k1 hk1l
        have HCC := hid (show cc = cmpP (prevK d.l k) d.l[k].k by rw [hcc, HPK]; rfl)
        clear HPK
        have HY : Hid (∀ w', Below (wp.alloc (.cells #[.int .i64 x.k.k, .int .i64 x.k.i, .int .i64 x.k.s, .string x.k.t, .slice x.k.la x.k.ll x.k.lc, .slice x.k.fa x.k.fl x.k.fc, .int .i64 x.n, .int .i64 x.t, .slice x.ia x.il x.ic, .slice x.va x.vl x.vc] 58)).heap.size (wp.alloc (.cells #[.int .i64 x.k.k, .int .i64 x.k.i, .int .i64 x.k.s, .string x.k.t, .slice x.k.la x.k.ll x.k.lc, .slice x.k.fa x.k.fl x.k.fc, .int .i64 x.n, .int .i64 x.t, .slice x.ia x.il x.ic, .slice x.va x.vl x.vc] 58)) w' → w'.cell? ⟨b, o + (k - 1) * 10, none⟩ = some (.int .i64 y.k.k) ∧ w'.cell? ⟨b, o + (k - 1) * 10 + 1, none⟩ = some (.int .i64 y.k.i) ∧ w'.cell? ⟨b, o + (k - 1) * 10 + 2, none⟩ = some (.int .i64 y.k.s) ∧ w'.cell? ⟨b, o + (k - 1) * 10 + 3, none⟩ = some (.string y.k.t) ∧ w'.cell? ⟨b, o + (k - 1) * 10 + 4, none⟩ = some (.slice y.k.la y.k.ll y.k.lc) ∧ w'.cell? ⟨b, o + (k - 1) * 10 + 5, none⟩ = some (.slice y.k.fa y.k.fl y.k.fc)) := hid fun w' h => by
          have hw := HB0.out.trans ((HBWP.out.trans (HBA.out.trans (h.mono HSA.out))).mono (by omega))
          rw [hkt]
          obtain ⟨y0, y1, y2, y3, y4, y5, _⟩ := (hya.same (hw.block b HB.out)).slot
          exact ⟨y0, y1, y2, y3, y4, y5⟩
        have HCMP : Hid (∀ w', Below (wp.alloc (.cells #[.int .i64 x.k.k, .int .i64 x.k.i, .int .i64 x.k.s, .string x.k.t, .slice x.k.la x.k.ll x.k.lc, .slice x.k.fa x.k.fl x.k.fc, .int .i64 x.n, .int .i64 x.t, .slice x.ia x.il x.ic, .slice x.va x.vl x.vc] 58)).heap.size (wp.alloc (.cells #[.int .i64 x.k.k, .int .i64 x.k.i, .int .i64 x.k.s, .string x.k.t, .slice x.k.la x.k.ll x.k.lc, .slice x.k.fa x.k.fl x.k.fc, .int .i64 x.n, .int .i64 x.t, .slice x.ia x.il x.ic, .slice x.va x.vl x.vc] 58)) w' → Calls Tryz.prog 77 #[.agg #[.int .i64 x.k.k, .int .i64 x.k.i, .int .i64 x.k.s, .string x.k.t, .slice x.k.la x.k.ll x.k.lc, .slice x.k.fa x.k.fl x.k.fc], .agg #[.int .i64 y.k.k, .int .i64 y.k.i, .int .i64 y.k.s, .string y.k.t, .slice y.k.la y.k.ll y.k.lc, .slice y.k.fa y.k.fl y.k.fc]] w' fun e w2 => e = .returned (.int .i64 cc) ∧ Below w'.heap.size w' w2) := hid fun w' h => by
          have hw := HB0.out.trans ((HBWP.out.trans (HBA.out.trans (h.mono HSA.out))).mono (by omega))
          have hs := hw.size
          rw [hcc]
          exact compare_call x.k y.k _ _ w' (HXI.out.k.same fun b q => ⟨by omega, hw.block b q⟩) (hyi.k.same fun b q => ⟨by omega, hw.block b q⟩)
        clear hya hyi hcc hk1 hkz hkt hk1l
        go_upto_region 14 with (go_at_call 75; refine HVC.out.mono ?_; rintro e w3 ⟨rfl, hb3⟩; clear q0 q1 q2 m0 m1 m2 m3 m4 m5 m6 m7 m8 m9; obtain ⟨⟨q0, q1, q2⟩, m0, m1, m2, m3, m4, m5, m6, m7, m8, m9⟩ := HC.out _ (hb3))
        have HC4 : Hid (∀ w', Below w3.heap.size w3 w' → (w'.cell? ⟨w.heap.size, 2, none⟩ = some (.slice (some ⟨b, o, none⟩) sl sc)) ∧ (w'.cell? ⟨wp.heap.size, 0, none⟩ = some (.int .i64 x.k.k) ∧ w'.cell? ⟨wp.heap.size, 1, none⟩ = some (.int .i64 x.k.i) ∧ w'.cell? ⟨wp.heap.size, 2, none⟩ = some (.int .i64 x.k.s) ∧ w'.cell? ⟨wp.heap.size, 3, none⟩ = some (.string x.k.t) ∧ w'.cell? ⟨wp.heap.size, 4, none⟩ = some (.slice x.k.la x.k.ll x.k.lc) ∧ w'.cell? ⟨wp.heap.size, 5, none⟩ = some (.slice x.k.fa x.k.fl x.k.fc) ∧ w'.cell? ⟨wp.heap.size, 6, none⟩ = some (.int .i64 x.n) ∧ w'.cell? ⟨wp.heap.size, 7, none⟩ = some (.int .i64 x.t) ∧ w'.cell? ⟨wp.heap.size, 8, none⟩ = some (.slice x.ia x.il x.ic) ∧ w'.cell? ⟨wp.heap.size, 9, none⟩ = some (.slice x.va x.vl x.vc)) ∧ (w'.cell? ⟨b, o + (k - 1) * 10, none⟩ = some (.int .i64 y.k.k) ∧ w'.cell? ⟨b, o + (k - 1) * 10 + 1, none⟩ = some (.int .i64 y.k.i) ∧ w'.cell? ⟨b, o + (k - 1) * 10 + 2, none⟩ = some (.int .i64 y.k.s) ∧ w'.cell? ⟨b, o + (k - 1) * 10 + 3, none⟩ = some (.string y.k.t) ∧ w'.cell? ⟨b, o + (k - 1) * 10 + 4, none⟩ = some (.slice y.k.la y.k.ll y.k.lc) ∧ w'.cell? ⟨b, o + (k - 1) * 10 + 5, none⟩ = some (.slice y.k.fa y.k.fl y.k.fc))) := hid fun w' h => by
          have h1 := HC.out w' (hb3.trans (h.mono hb3.size))
          obtain ⟨⟨q0, q1, q2⟩, m0, m1, m2, m3, m4, m5, m6, m7, m8, m9⟩ := h1
          have h2 := HY.out w' (hb3.trans (h.mono hb3.size))
          exact ⟨q2, ⟨m0, m1, m2, m3, m4, m5, m6, m7, m8, m9⟩, h2⟩
        have HCP : Hid (∀ w', Below w3.heap.size w3 w' → Calls Tryz.prog 77 #[.agg #[.int .i64 x.k.k, .int .i64 x.k.i, .int .i64 x.k.s, .string x.k.t, .slice x.k.la x.k.ll x.k.lc, .slice x.k.fa x.k.fl x.k.fc], .agg #[.int .i64 y.k.k, .int .i64 y.k.i, .int .i64 y.k.s, .string y.k.t, .slice y.k.la y.k.ll y.k.lc, .slice y.k.fa y.k.fl y.k.fc]] w' fun e w2 => e = .returned (.int .i64 cc) ∧ Below w'.heap.size w' w2) := hid fun w' h => HCMP.out w' (hb3.trans (h.mono hb3.size))
        clear q0 q1 q2 m0 m1 m2 m3 m4 m5 m6 m7 m8 m9
        refine wp_region_split 10 (fun w' => Below w3.heap.size w3 w') (by kernel_rfl) (by kernel_rfl) (by kernel_rfl) (by decide) ((Below.refl _ _).drew) (fun hS => ?_)
        simp only [List.take_succ_cons, List.take_zero, List.drop_succ_cons, List.drop_zero]
        refine wpAnyH_take (i := 0) (oi := _) (v := ?_) rfl (by kernel_rfl) (by kernel_rfl) (by kernel_rfl) (fun _ _ _ h => h) (Or.inl ⟨by rfl, ?_⟩) hS ?_
        rotate_left
        · intro w' hw'
          have hcells := HC4.out w' hw'
          go_simp
          (try with_reducible rfl)
        simp only [Act.put, List.getElem_toArray, List.getElem_cons_succ, List.getElem_cons_zero, List.setIfInBounds_toArray, List.set_cons_zero, List.set_cons_succ]
        refine wpAnyH_take (i := 1) (oi := _) (v := ?_) rfl (by kernel_rfl) (by kernel_rfl) (by kernel_rfl) (fun _ _ _ h => h) (Or.inl ⟨by rfl, ?_⟩) hS ?_
        rotate_left
        · intro w' hw'
          have hcells := HC4.out w' hw'
          go_simp
          (try with_reducible rfl)
        simp only [Act.put, List.getElem_toArray, List.getElem_cons_succ, List.getElem_cons_zero, List.setIfInBounds_toArray, List.set_cons_zero, List.set_cons_succ]
        refine wpAnyH_take (i := 2) (oi := _) (v := ?_) rfl (by kernel_rfl) (by kernel_rfl) (by kernel_rfl) (fun _ _ _ h => h) (Or.inl ⟨by rfl, ?_⟩) hS ?_
        rotate_left
        · intro w' hw'
          have hcells := HC4.out w' hw'
          go_simp
          (try with_reducible rfl)
        simp only [Act.put, List.getElem_toArray, List.getElem_cons_succ, List.getElem_cons_zero, List.setIfInBounds_toArray, List.set_cons_zero, List.set_cons_succ]
        refine wpAnyH_take (i := 3) (oi := _) (v := ?_) rfl (by kernel_rfl) (by kernel_rfl) (by kernel_rfl) (fun _ _ _ h => h) (Or.inl ⟨by rfl, ?_⟩) hS ?_
        rotate_left
        · intro w' hw'
          have hcells := HC4.out w' hw'
          go_simp
          (try with_reducible rfl)
        simp only [Act.put, List.getElem_toArray, List.getElem_cons_succ, List.getElem_cons_zero, List.setIfInBounds_toArray, List.set_cons_zero, List.set_cons_succ]
        refine wpAnyH_take (i := 4) (oi := _) (v := ?_) rfl (by kernel_rfl) (by kernel_rfl) (by kernel_rfl) (fun _ _ _ h => h) (Or.inl ⟨by rfl, ?_⟩) hS ?_
        rotate_left
        · intro w' hw'
          have hcells := HC4.out w' hw'
          go_simp
          (try with_reducible rfl)
        simp only [Act.put, List.getElem_toArray, List.getElem_cons_succ, List.getElem_cons_zero, List.setIfInBounds_toArray, List.set_cons_zero, List.set_cons_succ]
        refine wpAnyH_take (i := 5) (oi := _) (v := ?_) rfl (by kernel_rfl) (by kernel_rfl) (by kernel_rfl) (fun _ _ _ h => h) (Or.inl ⟨by rfl, ?_⟩) hS ?_
        rotate_left
        · intro w' hw'
          have hcells := HC4.out w' hw'
          go_simp
          (try with_reducible rfl)
        simp only [Act.put, List.getElem_toArray, List.getElem_cons_succ, List.getElem_cons_zero, List.setIfInBounds_toArray, List.set_cons_zero, List.set_cons_succ]
        refine wpAnyH_take (i := 6) (oi := _) (v := ?_) rfl (by kernel_rfl) (by kernel_rfl) (by kernel_rfl) (fun _ _ _ h => h) (Or.inl ⟨by rfl, ?_⟩) hS ?_
        rotate_left
        · intro w' hw'
          have hcells := HC4.out w' hw'
          go_simp
          (try with_reducible rfl)
        simp only [Act.put, List.getElem_toArray, List.getElem_cons_succ, List.getElem_cons_zero, List.setIfInBounds_toArray, List.set_cons_zero, List.set_cons_succ]
        refine wpAnyH_take (i := 7) (oi := _) (v := ?_) rfl (by kernel_rfl) (by kernel_rfl) (by kernel_rfl) (fun _ _ _ h => h) (Or.inl ⟨by rfl, ?_⟩) hS ?_
        rotate_left
        · intro w' hw'
          have hcells := HC4.out w' hw'
          go_simp
          (try with_reducible rfl)
        simp only [Act.put, List.getElem_toArray, List.getElem_cons_succ, List.getElem_cons_zero, List.setIfInBounds_toArray, List.set_cons_zero, List.set_cons_succ]
        refine wpAnyH_take (i := 8) (oi := _) (v := ?_) rfl (by kernel_rfl) (by kernel_rfl) (by kernel_rfl) (fun _ _ _ h => h) (Or.inl ⟨by rfl, ?_⟩) hS ?_
        rotate_left
        · intro w' hw'
          have hcells := HC4.out w' hw'
          go_simp
          (try with_reducible rfl)
        simp only [Act.put, List.getElem_toArray, List.getElem_cons_succ, List.getElem_cons_zero, List.setIfInBounds_toArray, List.set_cons_zero, List.set_cons_succ]
        refine wpAnyH_ready (rs := [9]) (by kernel_rfl) (by simp) ?_
        refine AllReadyH.cons (o := _) rfl (fun K hK => ?_) AllReadyH.nil
        go_simp; go_at_call 77; refine (HCP.out _ hS).mono ?_
        rintro e w4 ⟨rfl, hb4'⟩
        refine hK.out _ _ (hS.trans (hb4'.mono hS.size)) (fun hS => ?_)
        clear hK K
        (try simp only [Act.put, List.getElem_toArray, List.getElem_cons_succ, List.getElem_cons_zero, List.setIfInBounds_toArray, List.set_cons_zero, List.set_cons_succ])
        refine wpAnyH_done (by kernel_rfl) ?_ _
        (try dsimp only)
        have hb4 := hb3.trans (hS.mono hb3.size)
        have hc4 := HC.out _ hb4
        clear hS HC4 HCP hb4'
        obtain ⟨⟨q0, q1, q2⟩, m0, m1, m2, m3, m4, m5, m6, m7, m8, m9⟩ := hc4
        clear q0 q1 q2
        by_cases c0 : cc = 0
        · have c0' : (cc == 0) = true := by simp [c0]
          have r := hid (show checkE d = 7 by rw [R0.out, HIT.out, List.drop_eq_getElem_cons hkl, slotsE, if_neg HKEY.out, ← HCC.out, if_pos c0])
          go_wp2
          go_ret
          exact ⟨retI r.out.symm, HB0.out.trans ((HBWP.out.trans (HBA.out.trans (hb4.mono HSA.out))).mono (by omega))⟩
        by_cases c1 : cc = -1
        · have c1' : (cc == -1) = true := by simp [c1]
          have c0' : (cc == 0) = false := by simp [c0]
          have r := hid (show checkE d = 24 by rw [R0.out, HIT.out, List.drop_eq_getElem_cons hkl, slotsE, if_neg HKEY.out, ← HCC.out, if_neg c0, if_pos c1])
          go_wp2
          go_ret
          exact ⟨retI r.out.symm, HB0.out.trans ((HBWP.out.trans (HBA.out.trans (hb4.mono HSA.out))).mono (by omega))⟩
        have c0' : (cc == 0) = false := by simp [c0]
        have c1' : (cc == -1) = false := by simp [c1]
        have HNEXT := hid (show slotsE (prevK d.l k) acc nv (d.l.drop k) = if (slotE acc nv d.l[k]).1 ≠ 0 then (slotE acc nv d.l[k]).1 else slotsE (some d.l[k].k) (slotE acc nv d.l[k]).2.1 (slotE acc nv d.l[k]).2.2 (d.l.drop (k + 1)) by rw [List.drop_eq_getElem_cons hkl, slotsE, if_neg HKEY.out, ← HCC.out, if_neg c0, if_neg c1])
        obtain ⟨v2, hv2⟩ : ∃ v2, v2 = (slotE acc nv d.l[k]).1 := ⟨_, rfl⟩
        have HSL : Hid (∀ w', Below (wp.alloc (.cells #[.int .i64 x.k.k, .int .i64 x.k.i, .int .i64 x.k.s, .string x.k.t, .slice x.k.la x.k.ll x.k.lc, .slice x.k.fa x.k.fl x.k.fc, .int .i64 x.n, .int .i64 x.t, .slice x.ia x.il x.ic, .slice x.va x.vl x.vc] 58)).heap.size (wp.alloc (.cells #[.int .i64 x.k.k, .int .i64 x.k.i, .int .i64 x.k.s, .string x.k.t, .slice x.k.la x.k.ll x.k.lc, .slice x.k.fa x.k.fl x.k.fc, .int .i64 x.n, .int .i64 x.t, .slice x.ia x.il x.ic, .slice x.va x.vl x.vc] 58)) w' → Calls Tryz.prog 78 #[.pointer (some ⟨w.heap.size + 1, 0, none⟩), .agg #[.int .i64 x.k.k, .int .i64 x.k.i, .int .i64 x.k.s, .string x.k.t, .slice x.k.la x.k.ll x.k.lc, .slice x.k.fa x.k.fl x.k.fc, .int .i64 x.n, .int .i64 x.t, .slice x.ia x.il x.ic, .slice x.va x.vl x.vc]] w' (SlotPost' (w.heap.size + 1) (w.heap.size + 1) acc nv d.l[k] w' v2)) := hid fun w' h => (slot_call w HT.out (w.heap.size + 1) (w.heap.size + 1) x d.l[k] acc nv iv w' (HB0.out.trans ((HBWP.out.trans (HBA.out.trans (h.mono HSA.out))).mono (by omega))) (by omega) (Nat.le_refl _) (HXI.out.same fun b q => ⟨by omega, (HB0.out.trans ((HBWP.out.trans (HBA.out.trans (h.mono HSA.out))).mono (by omega))).block b q⟩) (HCK.out.ext (HBA2.out.trans (h.mono (by simp))))).mono fun e w2 h => slotPost'_of h hv2
        have HV2 := hid hv2
        clear hv2
        by_cases hv20 : v2 = 0
        · subst hv20
          have hnext := hid (HNEXT.out.trans (if_neg (fun h => h HV2.out.symm)))
          go_wp2_with (go_at_call 78; refine (HSL.out _ hb4).mono ?_; rintro e w5 ⟨rfl, hb5, hn5, hc5⟩)
          go_roundw
          case rel =>
            obtain ⟨iv5, hck5⟩ := hc5 (by first | rfl | trivial)
            exact ⟨k + 1, (slotE acc nv d.l[k]).2.1, (slotE acc nv d.l[k]).2.2, iv5, by omega, by go_num, hck5.self, HBWP.out.trans ((HBA.out.trans (hb4.mono HSA.out)).trans hb5), by rw [HIT.out, hnext.out, prevK_succ d.l k hkl]⟩
          case measure => simp [intOf]; omega
        · have r := hid (show checkE d = v2 by rw [R0.out, HIT.out, HNEXT.out, if_pos (by rw [← HV2.out]; exact hv20), HV2.out])
          go_wp2_with (go_at_call 78; refine (HSL.out _ hb4).mono ?_; rintro e w5 ⟨rfl, hb5, hn5, hc5⟩)
          go_ret
          exact ⟨retI r.out.symm, HB0.out.trans ((HBWP.out.trans ((HBA.out.trans (hb4.mono HSA.out)).trans hb5)).mono (by omega))⟩
    cases z with
    | false =>
      have r := hid (show checkE d = v by rw [R0.out, HIT.out, List.drop_eq_getElem_cons hkl, slotsE, if_pos ⟨by rw [← HV.out]; exact hv0, HZ.out.symm⟩, HV.out])
      go_wp2_with (first
                  | (go_at_call 76; refine (HIS.out _ hb2).mono ?_; rintro e w3 ⟨rfl, hb3'⟩; have hb3 := hb2.trans (hb3'.mono hb2.size))
                  | (go_at_call 75; refine HVC.out.mono ?_; rintro e w2 ⟨rfl, hb2⟩; clear q0 q1 q2 m0 m1 m2 m3 m4 m5 m6 m7 m8 m9; obtain ⟨⟨q0, q1, q2⟩, m0, m1, m2, m3, m4, m5, m6, m7, m8, m9⟩ := HC.out _ (hb2)))
      go_ret
      exact ⟨retI r.out.symm, HB0.out.trans ((HBWP.out.trans (HBA.out.trans (hb3.mono HSA.out))).mono (by omega))⟩
    | true =>
      have HKEY := hid (show ¬ (chkVal d.l[k].k ≠ 0 ∧ isNullV d.l[k].k = false) from fun h => by rw [← HZ.out] at h; cases h.2)
      by_cases hkz : k = 0
      · have hkf : decide ((0 : Int) < (k : Int)) = false := by simp; omega
        have hkf2 : decide (0 < k) = false := by simp; omega
        have HKZ := hid (show prevK d.l k = none by rw [hkz, prevK])
        clear hkz
        have HNEXT := hid (show slotsE (prevK d.l k) acc nv (d.l.drop k) = if (slotE acc nv d.l[k]).1 ≠ 0 then (slotE acc nv d.l[k]).1 else slotsE (some d.l[k].k) (slotE acc nv d.l[k]).2.1 (slotE acc nv d.l[k]).2.2 (d.l.drop (k + 1)) by
          rw [List.drop_eq_getElem_cons hkl, slotsE, if_neg HKEY.out, if_neg (by rw [HKZ.out]; exact (show ¬ (1 : Int) = 0 by decide)), if_neg (by rw [HKZ.out]; exact (show ¬ (1 : Int) = -1 by decide))])
        obtain ⟨v2, hv2⟩ : ∃ v2, v2 = (slotE acc nv d.l[k]).1 := ⟨_, rfl⟩
        have HSL : Hid (∀ w', Below (wp.alloc (.cells #[.int .i64 x.k.k, .int .i64 x.k.i, .int .i64 x.k.s, .string x.k.t, .slice x.k.la x.k.ll x.k.lc, .slice x.k.fa x.k.fl x.k.fc, .int .i64 x.n, .int .i64 x.t, .slice x.ia x.il x.ic, .slice x.va x.vl x.vc] 58)).heap.size (wp.alloc (.cells #[.int .i64 x.k.k, .int .i64 x.k.i, .int .i64 x.k.s, .string x.k.t, .slice x.k.la x.k.ll x.k.lc, .slice x.k.fa x.k.fl x.k.fc, .int .i64 x.n, .int .i64 x.t, .slice x.ia x.il x.ic, .slice x.va x.vl x.vc] 58)) w' → Calls Tryz.prog 78 #[.pointer (some ⟨w.heap.size + 1, 0, none⟩), .agg #[.int .i64 x.k.k, .int .i64 x.k.i, .int .i64 x.k.s, .string x.k.t, .slice x.k.la x.k.ll x.k.lc, .slice x.k.fa x.k.fl x.k.fc, .int .i64 x.n, .int .i64 x.t, .slice x.ia x.il x.ic, .slice x.va x.vl x.vc]] w' (SlotPost' (w.heap.size + 1) (w.heap.size + 1) acc nv d.l[k] w' v2)) := hid fun w' h => (slot_call w HT.out (w.heap.size + 1) (w.heap.size + 1) x d.l[k] acc nv iv w' (HB0.out.trans ((HBWP.out.trans (HBA.out.trans (h.mono HSA.out))).mono (by omega))) (by omega) (Nat.le_refl _) (HXI.out.same fun b q => ⟨by omega, (HB0.out.trans ((HBWP.out.trans (HBA.out.trans (h.mono HSA.out))).mono (by omega))).block b q⟩) (HCK.out.ext (HBA2.out.trans (h.mono (by simp))))).mono fun e w2 h => slotPost'_of h hv2
        have HV2 := hid hv2
        clear hv2
        by_cases hv20 : v2 = 0
        · subst hv20
          have hnext := hid (HNEXT.out.trans (if_neg (fun h => h HV2.out.symm)))
          go_wp2_with (first
                      | (go_at_call 78; refine (HSL.out _ hb3).mono ?_; rintro e w5 ⟨rfl, hb5, hn5, hc5⟩)
                      | (go_at_call 76; refine (HIS.out _ hb2).mono ?_; rintro e w3 ⟨rfl, hb3'⟩; have hb3 := hb2.trans (hb3'.mono hb2.size); clear q0 q1 q2 m0 m1 m2 m3 m4 m5 m6 m7 m8 m9; obtain ⟨⟨q0, q1, q2⟩, m0, m1, m2, m3, m4, m5, m6, m7, m8, m9⟩ := HC.out _ (hb3))
                      | (go_at_call 75; refine HVC.out.mono ?_; rintro e w2 ⟨rfl, hb2⟩; clear q0 q1 q2 m0 m1 m2 m3 m4 m5 m6 m7 m8 m9; obtain ⟨⟨q0, q1, q2⟩, m0, m1, m2, m3, m4, m5, m6, m7, m8, m9⟩ := HC.out _ (hb2)))
          go_roundw
          case rel =>
            obtain ⟨iv5, hck5⟩ := hc5 (by first | rfl | trivial)
            exact ⟨k + 1, (slotE acc nv d.l[k]).2.1, (slotE acc nv d.l[k]).2.2, iv5, by omega, by go_num, hck5.self, HBWP.out.trans ((HBA.out.trans (hb3.mono HSA.out)).trans hb5), by rw [HIT.out, hnext.out, prevK_succ d.l k hkl]⟩
          case measure => simp [intOf]; omega
        · have r := hid (show checkE d = v2 by rw [R0.out, HIT.out, HNEXT.out, if_pos (by rw [← HV2.out]; exact hv20), HV2.out])
          go_wp2_with (first
                      | (go_at_call 78; refine (HSL.out _ hb3).mono ?_; rintro e w5 ⟨rfl, hb5, hn5, hc5⟩)
                      | (go_at_call 76; refine (HIS.out _ hb2).mono ?_; rintro e w3 ⟨rfl, hb3'⟩; have hb3 := hb2.trans (hb3'.mono hb2.size); clear q0 q1 q2 m0 m1 m2 m3 m4 m5 m6 m7 m8 m9; obtain ⟨⟨q0, q1, q2⟩, m0, m1, m2, m3, m4, m5, m6, m7, m8, m9⟩ := HC.out _ (hb3))
                      | (go_at_call 75; refine HVC.out.mono ?_; rintro e w2 ⟨rfl, hb2⟩; clear q0 q1 q2 m0 m1 m2 m3 m4 m5 m6 m7 m8 m9; obtain ⟨⟨q0, q1, q2⟩, m0, m1, m2, m3, m4, m5, m6, m7, m8, m9⟩ := HC.out _ (hb2)))
          go_ret
          exact ⟨retI r.out.symm, HB0.out.trans ((HBWP.out.trans ((HBA.out.trans (hb3.mono HSA.out)).trans hb5)).mono (by omega))⟩
      · obtain ⟨k1, hk1⟩ : ∃ k1, k = k1 + 1 := ⟨k - 1, by omega⟩
        have hwr : IntKind.i64.wrap ((k : Int) - 1) = (k : Int) - 1 := IntWalk.i64_in _ (by omega)
        have hk1' : (0 : Int) ≤ (k : Int) - 1 := by omega
        have hk1'' : (1 : Int) ≤ (k : Int) := by omega
        have hk1N : 1 ≤ k := by omega
        have hk2' : (k : Int) - 1 < (sl : Int) := by omega
        have hkt : k - 1 = k1 := by omega
        have hkf : decide ((0 : Int) < (k : Int)) = true := by simp; omega
        have hkf2 : decide (0 < k) = true := by simp; omega
        have hk1l : k1 < d.l.length := by omega
        obtain ⟨y, hya, hyi⟩ := HX.out k1 hk1l
        obtain ⟨cc, hcc⟩ : ∃ cc, cc = cmpV d.l[k].k d.l[k1].k := ⟨_, rfl⟩
        have HPK : prevK d.l k = some d.l[k1].k := by rw [show prevK d.l k = prevK d.l (k1 + 1) by rw [hk1]]; exact prevK_succ d.l k1 hk1l
        have HCC := hid (show cc = cmpP (prevK d.l k) d.l[k].k by rw [hcc, HPK]; rfl)
        clear HPK
        have HY : Hid (∀ w', Below (wp.alloc (.cells #[.int .i64 x.k.k, .int .i64 x.k.i, .int .i64 x.k.s, .string x.k.t, .slice x.k.la x.k.ll x.k.lc, .slice x.k.fa x.k.fl x.k.fc, .int .i64 x.n, .int .i64 x.t, .slice x.ia x.il x.ic, .slice x.va x.vl x.vc] 58)).heap.size (wp.alloc (.cells #[.int .i64 x.k.k, .int .i64 x.k.i, .int .i64 x.k.s, .string x.k.t, .slice x.k.la x.k.ll x.k.lc, .slice x.k.fa x.k.fl x.k.fc, .int .i64 x.n, .int .i64 x.t, .slice x.ia x.il x.ic, .slice x.va x.vl x.vc] 58)) w' → w'.cell? ⟨b, o + (k - 1) * 10, none⟩ = some (.int .i64 y.k.k) ∧ w'.cell? ⟨b, o + (k - 1) * 10 + 1, none⟩ = some (.int .i64 y.k.i) ∧ w'.cell? ⟨b, o + (k - 1) * 10 + 2, none⟩ = some (.int .i64 y.k.s) ∧ w'.cell? ⟨b, o + (k - 1) * 10 + 3, none⟩ = some (.string y.k.t) ∧ w'.cell? ⟨b, o + (k - 1) * 10 + 4, none⟩ = some (.slice y.k.la y.k.ll y.k.lc) ∧ w'.cell? ⟨b, o + (k - 1) * 10 + 5, none⟩ = some (.slice y.k.fa y.k.fl y.k.fc)) := hid fun w' h => by
          have hw := HB0.out.trans ((HBWP.out.trans (HBA.out.trans (h.mono HSA.out))).mono (by omega))
          rw [hkt]
          obtain ⟨y0, y1, y2, y3, y4, y5, _⟩ := (hya.same (hw.block b HB.out)).slot
          exact ⟨y0, y1, y2, y3, y4, y5⟩
        have HCMP : Hid (∀ w', Below (wp.alloc (.cells #[.int .i64 x.k.k, .int .i64 x.k.i, .int .i64 x.k.s, .string x.k.t, .slice x.k.la x.k.ll x.k.lc, .slice x.k.fa x.k.fl x.k.fc, .int .i64 x.n, .int .i64 x.t, .slice x.ia x.il x.ic, .slice x.va x.vl x.vc] 58)).heap.size (wp.alloc (.cells #[.int .i64 x.k.k, .int .i64 x.k.i, .int .i64 x.k.s, .string x.k.t, .slice x.k.la x.k.ll x.k.lc, .slice x.k.fa x.k.fl x.k.fc, .int .i64 x.n, .int .i64 x.t, .slice x.ia x.il x.ic, .slice x.va x.vl x.vc] 58)) w' → Calls Tryz.prog 77 #[.agg #[.int .i64 x.k.k, .int .i64 x.k.i, .int .i64 x.k.s, .string x.k.t, .slice x.k.la x.k.ll x.k.lc, .slice x.k.fa x.k.fl x.k.fc], .agg #[.int .i64 y.k.k, .int .i64 y.k.i, .int .i64 y.k.s, .string y.k.t, .slice y.k.la y.k.ll y.k.lc, .slice y.k.fa y.k.fl y.k.fc]] w' fun e w2 => e = .returned (.int .i64 cc) ∧ Below w'.heap.size w' w2) := hid fun w' h => by
          have hw := HB0.out.trans ((HBWP.out.trans (HBA.out.trans (h.mono HSA.out))).mono (by omega))
          have hs := hw.size
          rw [hcc]
          exact compare_call x.k y.k _ _ w' (HXI.out.k.same fun b q => ⟨by omega, hw.block b q⟩) (hyi.k.same fun b q => ⟨by omega, hw.block b q⟩)
        clear hya hyi hcc hk1 hkz hkt hk1l
        go_upto_region 14 with (first
                      | (go_at_call 76; refine (HIS.out _ hb2).mono ?_; rintro e w3 ⟨rfl, hb3'⟩; have hb3 := hb2.trans (hb3'.mono hb2.size); clear q0 q1 q2 m0 m1 m2 m3 m4 m5 m6 m7 m8 m9; obtain ⟨⟨q0, q1, q2⟩, m0, m1, m2, m3, m4, m5, m6, m7, m8, m9⟩ := HC.out _ (hb3))
                      | (go_at_call 75; refine HVC.out.mono ?_; rintro e w2 ⟨rfl, hb2⟩; clear q0 q1 q2 m0 m1 m2 m3 m4 m5 m6 m7 m8 m9; obtain ⟨⟨q0, q1, q2⟩, m0, m1, m2, m3, m4, m5, m6, m7, m8, m9⟩ := HC.out _ (hb2)))
        have HC4 : Hid (∀ w', Below w3.heap.size w3 w' → (w'.cell? ⟨w.heap.size, 2, none⟩ = some (.slice (some ⟨b, o, none⟩) sl sc)) ∧ (w'.cell? ⟨wp.heap.size, 0, none⟩ = some (.int .i64 x.k.k) ∧ w'.cell? ⟨wp.heap.size, 1, none⟩ = some (.int .i64 x.k.i) ∧ w'.cell? ⟨wp.heap.size, 2, none⟩ = some (.int .i64 x.k.s) ∧ w'.cell? ⟨wp.heap.size, 3, none⟩ = some (.string x.k.t) ∧ w'.cell? ⟨wp.heap.size, 4, none⟩ = some (.slice x.k.la x.k.ll x.k.lc) ∧ w'.cell? ⟨wp.heap.size, 5, none⟩ = some (.slice x.k.fa x.k.fl x.k.fc) ∧ w'.cell? ⟨wp.heap.size, 6, none⟩ = some (.int .i64 x.n) ∧ w'.cell? ⟨wp.heap.size, 7, none⟩ = some (.int .i64 x.t) ∧ w'.cell? ⟨wp.heap.size, 8, none⟩ = some (.slice x.ia x.il x.ic) ∧ w'.cell? ⟨wp.heap.size, 9, none⟩ = some (.slice x.va x.vl x.vc)) ∧ (w'.cell? ⟨b, o + (k - 1) * 10, none⟩ = some (.int .i64 y.k.k) ∧ w'.cell? ⟨b, o + (k - 1) * 10 + 1, none⟩ = some (.int .i64 y.k.i) ∧ w'.cell? ⟨b, o + (k - 1) * 10 + 2, none⟩ = some (.int .i64 y.k.s) ∧ w'.cell? ⟨b, o + (k - 1) * 10 + 3, none⟩ = some (.string y.k.t) ∧ w'.cell? ⟨b, o + (k - 1) * 10 + 4, none⟩ = some (.slice y.k.la y.k.ll y.k.lc) ∧ w'.cell? ⟨b, o + (k - 1) * 10 + 5, none⟩ = some (.slice y.k.fa y.k.fl y.k.fc))) := hid fun w' h => by
          have h1 := HC.out w' (hb3.trans (h.mono hb3.size))
          obtain ⟨⟨q0, q1, q2⟩, m0, m1, m2, m3, m4, m5, m6, m7, m8, m9⟩ := h1
          have h2 := HY.out w' (hb3.trans (h.mono hb3.size))
          exact ⟨q2, ⟨m0, m1, m2, m3, m4, m5, m6, m7, m8, m9⟩, h2⟩
        have HCP : Hid (∀ w', Below w3.heap.size w3 w' → Calls Tryz.prog 77 #[.agg #[.int .i64 x.k.k, .int .i64 x.k.i, .int .i64 x.k.s, .string x.k.t, .slice x.k.la x.k.ll x.k.lc, .slice x.k.fa x.k.fl x.k.fc], .agg #[.int .i64 y.k.k, .int .i64 y.k.i, .int .i64 y.k.s, .string y.k.t, .slice y.k.la y.k.ll y.k.lc, .slice y.k.fa y.k.fl y.k.fc]] w' fun e w2 => e = .returned (.int .i64 cc) ∧ Below w'.heap.size w' w2) := hid fun w' h => HCMP.out w' (hb3.trans (h.mono hb3.size))
        clear q0 q1 q2 m0 m1 m2 m3 m4 m5 m6 m7 m8 m9
        refine wp_region_split 10 (fun w' => Below w3.heap.size w3 w') (by kernel_rfl) (by kernel_rfl) (by kernel_rfl) (by decide) ((Below.refl _ _).drew) (fun hS => ?_)
        simp only [List.take_succ_cons, List.take_zero, List.drop_succ_cons, List.drop_zero]
        refine wpAnyH_take (i := 0) (oi := _) (v := ?_) rfl (by kernel_rfl) (by kernel_rfl) (by kernel_rfl) (fun _ _ _ h => h) (Or.inl ⟨by rfl, ?_⟩) hS ?_
        rotate_left
        · intro w' hw'
          have hcells := HC4.out w' hw'
          go_simp
          (try with_reducible rfl)
        simp only [Act.put, List.getElem_toArray, List.getElem_cons_succ, List.getElem_cons_zero, List.setIfInBounds_toArray, List.set_cons_zero, List.set_cons_succ]
        refine wpAnyH_take (i := 1) (oi := _) (v := ?_) rfl (by kernel_rfl) (by kernel_rfl) (by kernel_rfl) (fun _ _ _ h => h) (Or.inl ⟨by rfl, ?_⟩) hS ?_
        rotate_left
        · intro w' hw'
          have hcells := HC4.out w' hw'
          go_simp
          (try with_reducible rfl)
        simp only [Act.put, List.getElem_toArray, List.getElem_cons_succ, List.getElem_cons_zero, List.setIfInBounds_toArray, List.set_cons_zero, List.set_cons_succ]
        refine wpAnyH_take (i := 2) (oi := _) (v := ?_) rfl (by kernel_rfl) (by kernel_rfl) (by kernel_rfl) (fun _ _ _ h => h) (Or.inl ⟨by rfl, ?_⟩) hS ?_
        rotate_left
        · intro w' hw'
          have hcells := HC4.out w' hw'
          go_simp
          (try with_reducible rfl)
        simp only [Act.put, List.getElem_toArray, List.getElem_cons_succ, List.getElem_cons_zero, List.setIfInBounds_toArray, List.set_cons_zero, List.set_cons_succ]
        refine wpAnyH_take (i := 3) (oi := _) (v := ?_) rfl (by kernel_rfl) (by kernel_rfl) (by kernel_rfl) (fun _ _ _ h => h) (Or.inl ⟨by rfl, ?_⟩) hS ?_
        rotate_left
        · intro w' hw'
          have hcells := HC4.out w' hw'
          go_simp
          (try with_reducible rfl)
        simp only [Act.put, List.getElem_toArray, List.getElem_cons_succ, List.getElem_cons_zero, List.setIfInBounds_toArray, List.set_cons_zero, List.set_cons_succ]
        refine wpAnyH_take (i := 4) (oi := _) (v := ?_) rfl (by kernel_rfl) (by kernel_rfl) (by kernel_rfl) (fun _ _ _ h => h) (Or.inl ⟨by rfl, ?_⟩) hS ?_
        rotate_left
        · intro w' hw'
          have hcells := HC4.out w' hw'
          go_simp
          (try with_reducible rfl)
        simp only [Act.put, List.getElem_toArray, List.getElem_cons_succ, List.getElem_cons_zero, List.setIfInBounds_toArray, List.set_cons_zero, List.set_cons_succ]
        refine wpAnyH_take (i := 5) (oi := _) (v := ?_) rfl (by kernel_rfl) (by kernel_rfl) (by kernel_rfl) (fun _ _ _ h => h) (Or.inl ⟨by rfl, ?_⟩) hS ?_
        rotate_left
        · intro w' hw'
          have hcells := HC4.out w' hw'
          go_simp
          (try with_reducible rfl)
        simp only [Act.put, List.getElem_toArray, List.getElem_cons_succ, List.getElem_cons_zero, List.setIfInBounds_toArray, List.set_cons_zero, List.set_cons_succ]
        refine wpAnyH_take (i := 6) (oi := _) (v := ?_) rfl (by kernel_rfl) (by kernel_rfl) (by kernel_rfl) (fun _ _ _ h => h) (Or.inl ⟨by rfl, ?_⟩) hS ?_
        rotate_left
        · intro w' hw'
          have hcells := HC4.out w' hw'
          go_simp
          (try with_reducible rfl)
        simp only [Act.put, List.getElem_toArray, List.getElem_cons_succ, List.getElem_cons_zero, List.setIfInBounds_toArray, List.set_cons_zero, List.set_cons_succ]
        refine wpAnyH_take (i := 7) (oi := _) (v := ?_) rfl (by kernel_rfl) (by kernel_rfl) (by kernel_rfl) (fun _ _ _ h => h) (Or.inl ⟨by rfl, ?_⟩) hS ?_
        rotate_left
        · intro w' hw'
          have hcells := HC4.out w' hw'
          go_simp
          (try with_reducible rfl)
        simp only [Act.put, List.getElem_toArray, List.getElem_cons_succ, List.getElem_cons_zero, List.setIfInBounds_toArray, List.set_cons_zero, List.set_cons_succ]
        refine wpAnyH_take (i := 8) (oi := _) (v := ?_) rfl (by kernel_rfl) (by kernel_rfl) (by kernel_rfl) (fun _ _ _ h => h) (Or.inl ⟨by rfl, ?_⟩) hS ?_
        rotate_left
        · intro w' hw'
          have hcells := HC4.out w' hw'
          go_simp
          (try with_reducible rfl)
        simp only [Act.put, List.getElem_toArray, List.getElem_cons_succ, List.getElem_cons_zero, List.setIfInBounds_toArray, List.set_cons_zero, List.set_cons_succ]
        refine wpAnyH_ready (rs := [9]) (by kernel_rfl) (by simp) ?_
        refine AllReadyH.cons (o := _) rfl (fun K hK => ?_) AllReadyH.nil
        go_simp; go_at_call 77; refine (HCP.out _ hS).mono ?_
        rintro e w4 ⟨rfl, hb4'⟩
        refine hK.out _ _ (hS.trans (hb4'.mono hS.size)) (fun hS => ?_)
        clear hK K
        (try simp only [Act.put, List.getElem_toArray, List.getElem_cons_succ, List.getElem_cons_zero, List.setIfInBounds_toArray, List.set_cons_zero, List.set_cons_succ])
        refine wpAnyH_done (by kernel_rfl) ?_ _
        (try dsimp only)
        have hb4 := hb3.trans (hS.mono hb3.size)
        have hc4 := HC.out _ hb4
        clear hS HC4 HCP hb4'
        obtain ⟨⟨q0, q1, q2⟩, m0, m1, m2, m3, m4, m5, m6, m7, m8, m9⟩ := hc4
        clear q0 q1 q2
        by_cases c0 : cc = 0
        · have c0' : (cc == 0) = true := by simp [c0]
          have r := hid (show checkE d = 7 by rw [R0.out, HIT.out, List.drop_eq_getElem_cons hkl, slotsE, if_neg HKEY.out, ← HCC.out, if_pos c0])
          go_wp2
          go_ret
          exact ⟨retI r.out.symm, HB0.out.trans ((HBWP.out.trans (HBA.out.trans (hb4.mono HSA.out))).mono (by omega))⟩
        by_cases c1 : cc = -1
        · have c1' : (cc == -1) = true := by simp [c1]
          have c0' : (cc == 0) = false := by simp [c0]
          have r := hid (show checkE d = 24 by rw [R0.out, HIT.out, List.drop_eq_getElem_cons hkl, slotsE, if_neg HKEY.out, ← HCC.out, if_neg c0, if_pos c1])
          go_wp2
          go_ret
          exact ⟨retI r.out.symm, HB0.out.trans ((HBWP.out.trans (HBA.out.trans (hb4.mono HSA.out))).mono (by omega))⟩
        have c0' : (cc == 0) = false := by simp [c0]
        have c1' : (cc == -1) = false := by simp [c1]
        have HNEXT := hid (show slotsE (prevK d.l k) acc nv (d.l.drop k) = if (slotE acc nv d.l[k]).1 ≠ 0 then (slotE acc nv d.l[k]).1 else slotsE (some d.l[k].k) (slotE acc nv d.l[k]).2.1 (slotE acc nv d.l[k]).2.2 (d.l.drop (k + 1)) by rw [List.drop_eq_getElem_cons hkl, slotsE, if_neg HKEY.out, ← HCC.out, if_neg c0, if_neg c1])
        obtain ⟨v2, hv2⟩ : ∃ v2, v2 = (slotE acc nv d.l[k]).1 := ⟨_, rfl⟩
        have HSL : Hid (∀ w', Below (wp.alloc (.cells #[.int .i64 x.k.k, .int .i64 x.k.i, .int .i64 x.k.s, .string x.k.t, .slice x.k.la x.k.ll x.k.lc, .slice x.k.fa x.k.fl x.k.fc, .int .i64 x.n, .int .i64 x.t, .slice x.ia x.il x.ic, .slice x.va x.vl x.vc] 58)).heap.size (wp.alloc (.cells #[.int .i64 x.k.k, .int .i64 x.k.i, .int .i64 x.k.s, .string x.k.t, .slice x.k.la x.k.ll x.k.lc, .slice x.k.fa x.k.fl x.k.fc, .int .i64 x.n, .int .i64 x.t, .slice x.ia x.il x.ic, .slice x.va x.vl x.vc] 58)) w' → Calls Tryz.prog 78 #[.pointer (some ⟨w.heap.size + 1, 0, none⟩), .agg #[.int .i64 x.k.k, .int .i64 x.k.i, .int .i64 x.k.s, .string x.k.t, .slice x.k.la x.k.ll x.k.lc, .slice x.k.fa x.k.fl x.k.fc, .int .i64 x.n, .int .i64 x.t, .slice x.ia x.il x.ic, .slice x.va x.vl x.vc]] w' (SlotPost' (w.heap.size + 1) (w.heap.size + 1) acc nv d.l[k] w' v2)) := hid fun w' h => (slot_call w HT.out (w.heap.size + 1) (w.heap.size + 1) x d.l[k] acc nv iv w' (HB0.out.trans ((HBWP.out.trans (HBA.out.trans (h.mono HSA.out))).mono (by omega))) (by omega) (Nat.le_refl _) (HXI.out.same fun b q => ⟨by omega, (HB0.out.trans ((HBWP.out.trans (HBA.out.trans (h.mono HSA.out))).mono (by omega))).block b q⟩) (HCK.out.ext (HBA2.out.trans (h.mono (by simp))))).mono fun e w2 h => slotPost'_of h hv2
        have HV2 := hid hv2
        clear hv2
        by_cases hv20 : v2 = 0
        · subst hv20
          have hnext := hid (HNEXT.out.trans (if_neg (fun h => h HV2.out.symm)))
          go_wp2_with (go_at_call 78; refine (HSL.out _ hb4).mono ?_; rintro e w5 ⟨rfl, hb5, hn5, hc5⟩)
          go_roundw
          case rel =>
            obtain ⟨iv5, hck5⟩ := hc5 (by first | rfl | trivial)
            exact ⟨k + 1, (slotE acc nv d.l[k]).2.1, (slotE acc nv d.l[k]).2.2, iv5, by omega, by go_num, hck5.self, HBWP.out.trans ((HBA.out.trans (hb4.mono HSA.out)).trans hb5), by rw [HIT.out, hnext.out, prevK_succ d.l k hkl]⟩
          case measure => simp [intOf]; omega
        · have r := hid (show checkE d = v2 by rw [R0.out, HIT.out, HNEXT.out, if_pos (by rw [← HV2.out]; exact hv20), HV2.out])
          go_wp2_with (go_at_call 78; refine (HSL.out _ hb4).mono ?_; rintro e w5 ⟨rfl, hb5, hn5, hc5⟩)
          go_ret
          exact ⟨retI r.out.symm, HB0.out.trans ((HBWP.out.trans ((HBA.out.trans (hb4.mono HSA.out)).trans hb5)).mono (by omega))⟩
  · obtain rfl : k = sl := by omega
    have r := hid (show checkE d = 0 by rw [R0.out, HIT.out, show k = d.l.length from HL.out, List.drop_length]; cases prevK d.l d.l.length <;> rfl)
    go_wp2
    go_ret
    exact ⟨retI r.out.symm, HB0.out.trans (hbwp.mono (by omega))⟩
end Go.Proofs.YthjlgpmajeafpaaGreatDoor

/-
  Plain: whether two values, or two messages, compare as equal does not hang on their order. No program in sight.
-/
namespace Go.Proofs.YthjlgpmajeafpaaGreatDoor
open Go Go.RowKit
set_option linter.unusedVariables false
set_option linter.unusedSimpArgs false

theorem orL_cons (x : Int) (r : List Int) : orL (x :: r) = 0 ↔ x = 0 ∧ orL r = 0 := by
  rw [orL]
  by_cases h : x = 0
  · simp [h]
  · simp [h]
theorem cmpB_zero : ∀ {xs ys : List UInt8}, Lib.compareBytes xs ys = 0 → xs = ys
  | [], [], _ => rfl
  | [], _ :: _, h => by simp [Lib.compareBytes] at h
  | _ :: _, [], h => by simp [Lib.compareBytes] at h
  | a :: r, b :: q, h => by
    rw [Lib.compareBytes] at h
    split at h
    · simp at h
    · rename_i h1
      split at h
      · simp at h
      · rename_i h2
        have hab : a = b := UInt8.le_antisymm (UInt8.not_lt.1 h2) (UInt8.not_lt.1 h1)
        rw [hab, cmpB_zero h]
mutual
theorem cmpV_symm : ∀ (d d2 : Val), cmpV d d2 = 0 → cmpV d2 d = 0
  | .mk k i s t l ns fs, .mk k' i' s' t' l' ns' fs', h => by
    rw [cmpV] at h ⊢
    simp only [orL_cons] at h ⊢
    obtain ⟨h1, h2, h3, h4, h5, h6, h7⟩ := h
    refine ⟨?_, ?_, ?_, ?_, cmpVs_symm l l' h5, cmpFs_symm fs ns ns' fs' h6, h7⟩
    · rw [cmpInt_zero h1, cmpInt_refl]
    · rw [cmpInt_zero h2, cmpInt_refl]
    · rw [cmpInt_zero h3, cmpInt_refl]
    · rw [cmpB_zero h4, cmpB_refl]
theorem cmpVs_symm : ∀ (l l' : List Val), cmpVs l l' = 0 → cmpVs l' l = 0
  | [], [], _ => rfl
  | [], _ :: _, h => by rw [cmpVs] at h; cases h
  | _ :: _, [], h => by rw [cmpVs] at h; cases h
  | d :: l, d' :: l', h => by
    rw [cmpVs] at h ⊢
    by_cases h1 : cmpV d d' = 0
    · rw [if_neg (by simpa using h1)] at h
      rw [if_neg (by simpa using cmpV_symm d d' h1)]
      exact cmpVs_symm l l' h
    · rw [if_pos h1] at h
      exact absurd h h1
theorem cmpFs_symm : ∀ (l : List Val) (ns ns' : List ByteArray) (l' : List Val), cmpFs ns l ns' l' = 0 → cmpFs ns' l' ns l = 0
  | [], ns, ns', [], _ => by rw [cmpFs]
  | [], ns, ns', _ :: _, h => by rw [cmpFs] at h; cases h
  | _ :: _, ns, ns', [], h => by rw [cmpFs] at h; cases h
  | d :: l, ns, ns', d' :: l', h => by
    rw [cmpFs] at h ⊢
    by_cases h1 : orL [Lib.compareBytes (ns.headD ByteArray.empty).data.toList (ns'.headD ByteArray.empty).data.toList, cmpV d d'] = 0
    · rw [if_neg (by simpa using h1)] at h
      simp only [orL_cons] at h1
      obtain ⟨h2, h3, h4⟩ := h1
      have h5 : orL [Lib.compareBytes (ns'.headD ByteArray.empty).data.toList (ns.headD ByteArray.empty).data.toList, cmpV d' d] = 0 := by
        simp only [orL_cons]
        exact ⟨by rw [cmpB_zero h2, cmpB_refl], cmpV_symm d d' h3, h4⟩
      rw [if_neg (fun h => h h5)]
      exact cmpFs_symm l ns.tail ns'.tail l' h
    · rw [if_pos h1] at h
      exact absurd h h1
end
theorem msgEqB_symm (d d2 : Msg) : msgEqB d d2 = msgEqB d2 d := by
  have hv : (cmpV d.b d2.b == 0) = (cmpV d2.b d.b == 0) := by
    rw [Bool.eq_iff_iff]
    simp only [beq_iff_eq]
    exact ⟨cmpV_symm _ _, cmpV_symm _ _⟩
  have hs : stEqB d.st d2.st = stEqB d2.st d.st := by
    rw [stEqB, stEqB, decide_eq_decide]
    exact ⟨fun h => ⟨h.1.symm, h.2.symm⟩, fun h => ⟨h.1.symm, h.2.symm⟩⟩
  have hm : decide (d.m = d2.m) = decide (d2.m = d.m) := by rw [decide_eq_decide]; exact eq_comm
  have he : decide (d.es = d2.es) = decide (d2.es = d.es) := by rw [decide_eq_decide]; exact eq_comm
  rw [msgEqB, msgEqB, hv, hs, hm, he]
end Go.Proofs.YthjlgpmajeafpaaGreatDoor
