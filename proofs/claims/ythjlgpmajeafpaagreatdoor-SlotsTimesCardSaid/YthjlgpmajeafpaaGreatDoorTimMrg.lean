/-
  slots.Due returns the least time of a slot that has one. Condition: the state can be read as data.
-/
import Derived.Test.YthjlgpmajeafpaaGreatDoorSlotFMrg
import Derived.Test.YthjlgpmajeafpaaGreatDoorSlEqMrg
import Derived.Test.YthjlgpmajeafpaaGreatDoorInsSMrg
import Derived.Test.YthjlgpmajeafpaaGreatDoorKptMrg
namespace Go.Proofs.YthjlgpmajeafpaaGreatDoor
open Go Go.RowKit Go.Shelf
set_option linter.unusedVariables false
set_option linter.unusedSimpArgs false

def dueS (acc : Int) (x : Slot) : Int := if 0 < x.t ∧ (acc = 0 ∨ x.t < acc) then x.t else acc
def dueL (l : List Slot) : Int := l.foldl dueS 0
theorem dueL_take {l : List Slot} {k : Nat} (h : k < l.length) : dueL (l.take (k + 1)) = dueS (dueL (l.take k)) l[k] := by
  rw [List.take_succ_eq_append_getElem h, dueL, List.foldl_append]
  rfl
/-- Behind k slots: the least time is z, and whether there is one. -/
structure DueR (l : List Slot) (z : Int) (fb : Bool) (k : Nat) : Prop where
  eq : z = dueL (l.take k)
  pos : 0 ≤ z
  fb : fb = decide (0 < z)
theorem DueR.take {l : List Slot} {z t : Int} {fb : Bool} {k : Nat} (h : DueR l z fb k) (hk : k < l.length) (ht : t = l[k].t) (h0 : 0 < t) (h1 : z = 0 ∨ t < z) : DueR l t true (k + 1) := by
  subst ht
  refine ⟨?_, by omega, (decide_eq_true h0).symm⟩
  rw [dueL_take hk, ← h.eq, dueS, if_pos ⟨h0, h1⟩]
theorem DueR.keep {l : List Slot} {z : Int} {fb : Bool} {k : Nat} (h : DueR l z fb k) (hk : k < l.length) (h1 : ¬ (0 < l[k].t ∧ (z = 0 ∨ l[k].t < z))) : DueR l z fb (k + 1) := by
  refine ⟨?_, h.pos, h.fb⟩
  rw [dueL_take hk, ← h.eq, dueS, if_neg h1]
def DuePost (w : World) (l : List Slot) (e : Ending) (w' : World) : Prop := e = .returned (.tuple #[.int .i64 (dueL l), .bool (decide (0 < dueL l))]) ∧ Below w.heap.size w w'
set_option maxRecDepth 100000 in
set_option maxHeartbeats 4000000 in
theorem due_call (c : StC) (d : Sta) (w : World) (hd : IsSta (· < w.heap.size) w c d) (hb : d.l.length ≤ 100000) : Calls Tryz.prog 54 #[c.v] w (DuePost w d.l) := by
  obtain ⟨sn, st, a, sl, sc⟩ := c
  have HL := hid hd.l.len
  have HD := hid hd.l
  dsimp only at HL HD
  have hsl : sl ≤ 100000 := by have := HL.out; omega
  obtain ⟨wb, hwb⟩ : ∃ u, u = w.alloc (.cells #[.int .i64 sn, .int .i64 st, .slice a sl sc] 55) := ⟨_, rfl⟩
  have HB0 := hid (show Below w.heap.size w wb by rw [hwb]; exact (Below.refl _ w).alloc (Nat.le_refl _) _)
  have g0 : wb.heap[w.heap.size]? = some (.cells #[.int .i64 sn, .int .i64 st, .slice a sl sc] 55) := by rw [hwb]; exact heap_alloc_new w _
  have k2 := cellOf g0 2
  (try dsimp only at k2)
  rw [hwb] at k2
  have HWB := hid hwb
  clear hd g0 hwb hb
  dsimp only [StC.v]
  go_enter Tryz.func54, Tryz.ntmps54
  go_wp2
  rw [← HWB.out]
  clear k2
  go_loopw [2, 3, 9] (fun tv fv i wr => ∃ (k : Nat) (z : Int) (fb : Bool), tv = .int .i64 z ∧ fv = .bool fb ∧ k ≤ sl ∧ i = .int .i64 k ∧ DueR d.l z fb k ∧ Below wb.heap.size wb wr) (fun _ _ i _ => sl - (intOf i).toNat)
  case atStart => exact ⟨0, 0, false, rfl, rfl, Nat.zero_le _, rfl, ⟨rfl, Int.le_refl _, rfl⟩, Below.refl _ _⟩
  case round =>
  obtain ⟨k, z, fb, rfl, rfl, hk, rfl, hr, hbr⟩ := hrel
  obtain ⟨wq, hwq⟩ : ∃ wq, wq = wr := ⟨_, rfl⟩
  rw [← hwq] at hbr ⊢
  clear hwq
  have HR := hid hr
  have HBR := hid hbr
  by_cases hlt : k < sl
  · have hkl : k < d.l.length := by have := HL.out; omega
    obtain ⟨b, o, rfl, hb, hy⟩ := HD.out.slot (show 0 < sl by omega)
    obtain ⟨y, hya, hyi⟩ := hy k hkl
    have HDM : Hid (∀ (h : k < d.l.length), (d.l[k]'h).t = y.t) := hid fun h => hyi.t.symm
    have HYT := hid (show y.t = y.t from rfl)
    have hbw : Below w.heap.size w wq := HB0.out.trans (hbr.mono HB0.out.size)
    obtain ⟨y0, y1, y2, y3, y4, y5, y6, y7, y8, y9⟩ := (hya.same (hbw.block b hb)).slot
    have hlt' : (k : Int) < (sl : Int) := by omega
    have hk0 : (0 : Int) ≤ (k : Int) := by omega
    have HKL := hid hkl
    have HEX := hid ((Below.refl _ wq).alloc (Nat.le_refl _) (.cells #[.int .i64 y.k.k, .int .i64 y.k.i, .int .i64 y.k.s, .string y.k.t, .slice y.k.la y.k.ll y.k.lc, .slice y.k.fa y.k.fl y.k.fc, .int .i64 y.n, .int .i64 y.t, .slice y.ia y.il y.ic, .slice y.va y.vl y.vc] 58))
    clear hr hbr hyi hya hy hb hkl hbw
    by_cases hc1 : 0 < y.t
    · cases fb with
      | false =>
        have HR2 := hid (show DueR d.l y.t true (k + 1) from HR.out.take HKL.out (by rw [HDM.out]) hc1 (.inl (by have h1 := HR.out.fb; have h2 := HR.out.pos; have h3 := of_decide_eq_false h1.symm; omega)))
        go_wp2
        go_roundw
        case rel => exact ⟨k + 1, y.t, true, rfl, rfl, by omega, by go_num, HR2.out, HBR.out.trans (HEX.out.mono HBR.out.size)⟩
        case measure => simp [intOf]; omega
      | true =>
        by_cases hc2 : y.t < z
        · have HR2 := hid (show DueR d.l y.t true (k + 1) from HR.out.take HKL.out (by rw [HDM.out]) hc1 (.inr hc2))
          go_wp2
          go_roundw
          case rel => exact ⟨k + 1, y.t, true, rfl, rfl, by omega, by go_num, HR2.out, HBR.out.trans (HEX.out.mono HBR.out.size)⟩
          case measure => simp [intOf]; omega
        · have HR2 := hid (show DueR d.l z true (k + 1) from HR.out.keep HKL.out (by rw [HDM.out]; have h1 := of_decide_eq_true HR.out.fb.symm; omega))
          go_wp2
          go_roundw
          case rel => exact ⟨k + 1, z, true, rfl, rfl, by omega, by go_num, HR2.out, HBR.out.trans (HEX.out.mono HBR.out.size)⟩
          case measure => simp [intOf]; omega
    · have HR2 := hid (show DueR d.l z fb (k + 1) from HR.out.keep HKL.out (by rw [HDM.out]; omega))
      go_wp2
      go_roundw
      case rel => exact ⟨k + 1, z, fb, rfl, rfl, by omega, by go_num, HR2.out, HBR.out.trans (HEX.out.mono HBR.out.size)⟩
      case measure => simp [intOf]; omega
  · obtain rfl : sl = k := by omega
    have HZ := hid (show z = dueL d.l by have h := HR.out.eq; rw [show sl = d.l.length from HL.out, List.take_length] at h; exact h)
    clear hr hbr
    go_wp2
    go_ret2
    refine ⟨?_, HB0.out.trans (HBR.out.mono HB0.out.size)⟩
    rw [← HZ.out, ← HR.out.fb]
    rfl
end Go.Proofs.YthjlgpmajeafpaaGreatDoor

/-
  slices.MinFunc over slots by their numbers, and slots.Oldest. Condition: the slots can be read as data.
-/
namespace Go.Proofs.YthjlgpmajeafpaaGreatDoor
open Go Go.RowKit Go.Shelf
set_option linter.unusedVariables false
set_option linter.unusedSimpArgs false

def nOf (l : List Slot) (j : Nat) : Int := match l[j]? with
  | some x => x.n
  | none => 0
/-- The first with the least number among the first k. -/
def oldI (l : List Slot) : Nat → Nat
  | 0 => 0
  | k + 1 => if nOf l k < nOf l (oldI l k) then k else oldI l k
theorem oldI_lt (l : List Slot) : ∀ k, 0 < k → oldI l k < k
  | 0, h => by omega
  | 1, _ => by simp [oldI]
  | k + 2, _ => by
    rw [oldI]
    have := oldI_lt l (k + 1) (by omega)
    split <;> omega
theorem nOf_get {l : List Slot} {j : Nat} (h : j < l.length) : nOf l j = l[j].n := by rw [nOf, List.getElem?_eq_getElem h]
theorem oldI_less {l : List Slot} {k : Nat} (h : nOf l k < nOf l (oldI l k)) : oldI l (k + 1) = k := by rw [oldI, if_pos h]
theorem oldI_keep {l : List Slot} {k : Nat} (h : ¬ nOf l k < nOf l (oldI l k)) : oldI l (k + 1) = oldI l k := by rw [oldI, if_neg h]
theorem cmpInt_neg {x y : Int} : Lib.compareInt x y < 0 ↔ x < y := by unfold Lib.compareInt; split <;> (try split) <;> omega
def slO (c : SlC) : Obj := (.cells #[.int .i64 c.k.k, .int .i64 c.k.i, .int .i64 c.k.s, .string c.k.t, .slice c.k.la c.k.ll c.k.lc, .slice c.k.fa c.k.fl c.k.fc, .int .i64 c.n, .int .i64 c.t, .slice c.ia c.il c.ic, .slice c.va c.vl c.vc] 58)
theorem num1_call (x y : SlC) (d e : Slot) (w : World) (hd : IsSl (· < w.heap.size) w x d) (he : IsSl (· < w.heap.size) w y e) : Calls Tryz.prog 104 #[x.v, y.v] w fun r w' => r = .returned (.int .i64 (Lib.compareInt d.n e.n)) ∧ Below w.heap.size w w' := by
  have hb : Below w.heap.size w ((w.alloc (slO x)).alloc (slO y)) := ((Below.refl _ w).alloc (Nat.le_refl _) _).alloc (by simp) _
  rw [← hd.n, ← he.n]
  have g1 := heapAlloc (slO y) (heap_alloc_new w (slO x))
  have x6 := cellOf g1 6
  (try dsimp only [slO] at x6)
  have HB := hid hb
  clear hb hd he g1
  dsimp only [slO, SlC.v] at HB x6 ⊢
  go_enter Tryz.func104, Tryz.ntmps104
  go_wp2_with (go_at_call 96; refine (Tryz.cmp_Compare_int _ _ _).mono ?_; rintro e w2 ⟨rfl, rfl⟩)
  go_ret
  exact ⟨rfl, HB.out⟩
def MinPost (w : World) (l : List Slot) (n : Nat) (e : Ending) (w' : World) : Prop := ∃ x : SlC, e = .returned x.v ∧ Below w.heap.size w w' ∧ ∀ (h : oldI l n < l.length), IsSl (· < w.heap.size) w x l[oldI l n]
set_option maxRecDepth 100000 in
set_option maxHeartbeats 8000000 in
theorem min_call (a : Option Addr) (n c : Nat) (l : List Slot) (w : World) (hd : IsRow slK (· < w.heap.size) w a n c l) (hn : 0 < n) (hb : n ≤ 100000) : Calls Tryz.prog 103 #[.slice a n c, .func (.func 104) #[] #[]] w (MinPost w l n) := by
  have hen : ∀ args w, (callFunc 104 args).run Tryz.prog w = .ok (.enter 104 args) w := enters_of Tryz.func104 (by kernel_rfl) rfl
  have HL := hid hd.len
  have HD := hid hd
  obtain ⟨b, o, rfl, hbb, hx⟩ := hd.slot hn
  obtain ⟨x0, hxa, hxi⟩ := hx 0 (by have := HL.out; omega)
  simp only [Nat.zero_mul, Nat.add_zero] at hxa
  have HBB := hid hbb
  have HXI0 := hid hxi
  obtain ⟨wb, hwb⟩ : ∃ u, u = (w.alloc (.cells #[.int .i64 0, .int .i64 0, .int .i64 0, .string ⟨#[]⟩, .slice none 0 0, .slice none 0 0, .int .i64 0, .int .i64 0, .slice none 0 0, .slice none 0 0] 58)).alloc (.cells #[.int .i64 x0.k.k, .int .i64 x0.k.i, .int .i64 x0.k.s, .string x0.k.t, .slice x0.k.la x0.k.ll x0.k.lc, .slice x0.k.fa x0.k.fl x0.k.fc, .int .i64 x0.n, .int .i64 x0.t, .slice x0.ia x0.il x0.ic, .slice x0.va x0.vl x0.vc] 58) := ⟨_, rfl⟩
  have HB0 := hid (show Below w.heap.size w wb by rw [hwb]; exact ((Below.refl _ w).alloc (Nat.le_refl _) _).alloc (by simp) _)
  have HZ := hid (show wb.heap[w.heap.size]? = some (.cells #[.int .i64 0, .int .i64 0, .int .i64 0, .string ⟨#[]⟩, .slice none 0 0, .slice none 0 0, .int .i64 0, .int .i64 0, .slice none 0 0, .slice none 0 0] 58) by rw [hwb]; exact heapAlloc _ (heap_alloc_new w _))
  have HX := hid (show wb.heap[w.heap.size + 1]? = some (.cells #[.int .i64 x0.k.k, .int .i64 x0.k.i, .int .i64 x0.k.s, .string x0.k.t, .slice x0.k.la x0.k.ll x0.k.lc, .slice x0.k.fa x0.k.fl x0.k.fc, .int .i64 x0.n, .int .i64 x0.t, .slice x0.ia x0.il x0.ic, .slice x0.va x0.vl x0.vc] 58) by rw [hwb]; exact heapNewAt _ _ _ (by simp))
  have hA : Below w.heap.size w (w.alloc (.cells #[.int .i64 0, .int .i64 0, .int .i64 0, .string ⟨#[]⟩, .slice none 0 0, .slice none 0 0, .int .i64 0, .int .i64 0, .slice none 0 0, .slice none 0 0] 58)) := (Below.refl _ w).alloc (Nat.le_refl _) _
  obtain ⟨z0, z1, z2, z3, z4, z5, z6, z7, z8, z9⟩ := (hxa.same (hA.block b hbb)).slot
  have HWB := hid hwb
  have hn1 : (0 : Int) < (n : Int) := by omega
  have hn2 : ¬ (n : Int) < 1 := by omega
  clear hd hx hxa hxi hbb hwb hA
  go_enter Tryz.func103, Tryz.ntmps103
  go_wp2
  rw [← HWB.out]
  clear z0 z1 z2 z3 z4 z5 z6 z7 z8 z9
  go_loopw [6] (fun i wr => ∃ (k : Nat) (x : SlC), 1 ≤ k ∧ k ≤ n ∧ i = .int .i64 k ∧ wr.heap[w.heap.size]? = some (.cells #[.int .i64 0, .int .i64 0, .int .i64 0, .string ⟨#[]⟩, .slice none 0 0, .slice none 0 0, .int .i64 0, .int .i64 0, .slice none 0 0, .slice none 0 0] 58) ∧ wr.heap[w.heap.size + 1]? = some (.cells #[.int .i64 x.k.k, .int .i64 x.k.i, .int .i64 x.k.s, .string x.k.t, .slice x.k.la x.k.ll x.k.lc, .slice x.k.fa x.k.fl x.k.fc, .int .i64 x.n, .int .i64 x.t, .slice x.ia x.il x.ic, .slice x.va x.vl x.vc] 58) ∧ Below w.heap.size w wr ∧ ∀ (h : oldI l k < l.length), IsSl (· < w.heap.size) w x l[oldI l k]) (fun i _ => n - (intOf i).toNat)
  case atStart => exact ⟨1, x0, Nat.le_refl _, hn, rfl, HZ.out, HX.out, HB0.out, fun h => by
    have e : oldI l 1 = 0 := by simp [oldI]
    have e2 : l[oldI l 1] = l[0]'(by have := HL.out; omega) := by congr 1
    rw [e2]; exact HXI0.out⟩
  case round =>
  obtain ⟨k, x, hk1, hk, rfl, hz0, hx1, hup, hxi⟩ := hrel
  obtain ⟨wz, hwz⟩ : ∃ u, u = wr := ⟨_, rfl⟩
  rw [← hwz] at hz0 hx1 hup ⊢
  clear hwz HZ HX HB0 HXI0 HWB
  have HZ0 := hid hz0
  have HX1 := hid hx1
  have HUP := hid hup
  have HXI := hid hxi
  by_cases hlt : k < n
  · have hkl : k < l.length := by have := HL.out; omega
    obtain ⟨b', o', hab, hb', hy⟩ := HD.out.slot hn
    obtain ⟨rfl, rfl⟩ : b = b' ∧ o = o' := by injection hab with h; injection h with h1 h2; exact ⟨h1, h2⟩
    obtain ⟨y, hya, hyi⟩ := hy k hkl
    have hol : oldI l k < l.length := by have := oldI_lt l k hk1; omega
    obtain ⟨cc, hcc⟩ : ∃ cc, cc = Lib.compareInt l[k].n l[oldI l k].n := ⟨_, rfl⟩
    have HCC := hid (show cc < 0 ↔ nOf l k < nOf l (oldI l k) by rw [hcc, cmpInt_neg, nOf_get hkl, nOf_get hol])
    have HC7 : Hid (∀ w', Below wz.heap.size wz w' → (w'.cell? ⟨b, o + k * 10, none⟩ = some (.int .i64 y.k.k) ∧ w'.cell? ⟨b, o + k * 10 + 1, none⟩ = some (.int .i64 y.k.i) ∧ w'.cell? ⟨b, o + k * 10 + 2, none⟩ = some (.int .i64 y.k.s) ∧ w'.cell? ⟨b, o + k * 10 + 3, none⟩ = some (.string y.k.t) ∧ w'.cell? ⟨b, o + k * 10 + 4, none⟩ = some (.slice y.k.la y.k.ll y.k.lc) ∧ w'.cell? ⟨b, o + k * 10 + 5, none⟩ = some (.slice y.k.fa y.k.fl y.k.fc) ∧ w'.cell? ⟨b, o + k * 10 + 6, none⟩ = some (.int .i64 y.n) ∧ w'.cell? ⟨b, o + k * 10 + 7, none⟩ = some (.int .i64 y.t) ∧ w'.cell? ⟨b, o + k * 10 + 8, none⟩ = some (.slice y.ia y.il y.ic) ∧ w'.cell? ⟨b, o + k * 10 + 9, none⟩ = some (.slice y.va y.vl y.vc)) ∧ (w'.cell? ⟨w.heap.size + 1, 0, none⟩ = some (.int .i64 x.k.k) ∧ w'.cell? ⟨w.heap.size + 1, 1, none⟩ = some (.int .i64 x.k.i) ∧ w'.cell? ⟨w.heap.size + 1, 2, none⟩ = some (.int .i64 x.k.s) ∧ w'.cell? ⟨w.heap.size + 1, 3, none⟩ = some (.string x.k.t) ∧ w'.cell? ⟨w.heap.size + 1, 4, none⟩ = some (.slice x.k.la x.k.ll x.k.lc) ∧ w'.cell? ⟨w.heap.size + 1, 5, none⟩ = some (.slice x.k.fa x.k.fl x.k.fc) ∧ w'.cell? ⟨w.heap.size + 1, 6, none⟩ = some (.int .i64 x.n) ∧ w'.cell? ⟨w.heap.size + 1, 7, none⟩ = some (.int .i64 x.t) ∧ w'.cell? ⟨w.heap.size + 1, 8, none⟩ = some (.slice x.ia x.il x.ic) ∧ w'.cell? ⟨w.heap.size + 1, 9, none⟩ = some (.slice x.va x.vl x.vc))) := hid fun w' h => by
      have h1 := heapExt h HX1.out
      have h2 := HUP.out.trans (h.mono HUP.out.size)
      exact ⟨(hya.same (h2.block b HBB.out)).slot, cellOf h1 0, cellOf h1 1, cellOf h1 2, cellOf h1 3, cellOf h1 4, cellOf h1 5, cellOf h1 6, cellOf h1 7, cellOf h1 8, cellOf h1 9⟩
    have HCM : Hid (∀ w', Below wz.heap.size wz w' → Calls Tryz.prog 104 #[.agg #[.int .i64 y.k.k, .int .i64 y.k.i, .int .i64 y.k.s, .string y.k.t, .slice y.k.la y.k.ll y.k.lc, .slice y.k.fa y.k.fl y.k.fc, .int .i64 y.n, .int .i64 y.t, .slice y.ia y.il y.ic, .slice y.va y.vl y.vc], .agg #[.int .i64 x.k.k, .int .i64 x.k.i, .int .i64 x.k.s, .string x.k.t, .slice x.k.la x.k.ll x.k.lc, .slice x.k.fa x.k.fl x.k.fc, .int .i64 x.n, .int .i64 x.t, .slice x.ia x.il x.ic, .slice x.va x.vl x.vc]] w' fun e w2 => e = .returned (.int .i64 cc) ∧ Below w'.heap.size w' w2) := hid fun w' h => by
      have h2 := HUP.out.trans (h.mono HUP.out.size)
      rw [hcc]
      exact num1_call y x _ _ w' (hyi.same fun b q => ⟨Nat.lt_of_lt_of_le q h2.size, h2.block b q⟩) ((HXI.out hol).same fun b q => ⟨Nat.lt_of_lt_of_le q h2.size, h2.block b q⟩)
    have HYI := hid (show ∀ (h : k < l.length), IsSl (· < w.heap.size) w y l[k] from fun _ => hyi)
    have hlt' : (k : Int) < (n : Int) := by omega
    have hk0 : (0 : Int) ≤ (k : Int) := by omega
    clear hz0 hx1 hup hxi hab hb' hy hya hyi hkl hol hcc
    by_cases hcn : cc < 0
    · have HN2 := hid (show oldI l (k + 1) = k from oldI_less (HCC.out.1 hcn))
      have hcn' : ¬ (0 : Int) ≤ cc := by omega
      go_upto_region 7 with (fail)
      refine wp_region_split 8 (fun w' => Below wz.heap.size wz w') (by kernel_rfl) (by kernel_rfl) (by kernel_rfl) (by decide) ((Below.refl _ _).drew) (fun hS => ?_)
      simp only [List.take_succ_cons, List.take_zero, List.drop_succ_cons, List.drop_zero]
      refine wpAnyH_take (i := 0) (oi := _) (v := ?_) rfl (by kernel_rfl) (by kernel_rfl) (by kernel_rfl) (fun _ _ _ h => h) (Or.inl ⟨by rfl, ?_⟩) hS ?_
      rotate_left
      · intro w' hw'
        have hcells := HC7.out w' hw'
        go_simp
        (try with_reducible rfl)
      simp only [Act.put, List.getElem_toArray, List.getElem_cons_succ, List.getElem_cons_zero, List.setIfInBounds_toArray, List.set_cons_zero, List.set_cons_succ]
      refine wpAnyH_take (i := 1) (oi := _) (v := ?_) rfl (by kernel_rfl) (by kernel_rfl) (by kernel_rfl) (fun _ _ _ h => h) (Or.inl ⟨by rfl, ?_⟩) hS ?_
      rotate_left
      · intro w' hw'
        have hcells := HC7.out w' hw'
        go_simp
        (try with_reducible rfl)
      simp only [Act.put, List.getElem_toArray, List.getElem_cons_succ, List.getElem_cons_zero, List.setIfInBounds_toArray, List.set_cons_zero, List.set_cons_succ]
      refine wpAnyH_take (i := 2) (oi := _) (v := ?_) rfl (by kernel_rfl) (by kernel_rfl) (by kernel_rfl) (fun _ _ _ h => h) (Or.inl ⟨by rfl, ?_⟩) hS ?_
      rotate_left
      · intro w' hw'
        have hcells := HC7.out w' hw'
        go_simp
        (try with_reducible rfl)
      simp only [Act.put, List.getElem_toArray, List.getElem_cons_succ, List.getElem_cons_zero, List.setIfInBounds_toArray, List.set_cons_zero, List.set_cons_succ]
      refine wpAnyH_take (i := 3) (oi := _) (v := ?_) rfl (by kernel_rfl) (by kernel_rfl) (by kernel_rfl) (fun _ _ _ h => h) (Or.inl ⟨by rfl, ?_⟩) hS ?_
      rotate_left
      · intro w' hw'
        have hcells := HC7.out w' hw'
        go_simp
        (try with_reducible rfl)
      simp only [Act.put, List.getElem_toArray, List.getElem_cons_succ, List.getElem_cons_zero, List.setIfInBounds_toArray, List.set_cons_zero, List.set_cons_succ]
      refine wpAnyH_take (i := 4) (oi := _) (v := ?_) rfl (by kernel_rfl) (by kernel_rfl) (by kernel_rfl) (fun _ _ _ h => h) (Or.inl ⟨by rfl, ?_⟩) hS ?_
      rotate_left
      · intro w' hw'
        have hcells := HC7.out w' hw'
        go_simp
        (try with_reducible rfl)
      simp only [Act.put, List.getElem_toArray, List.getElem_cons_succ, List.getElem_cons_zero, List.setIfInBounds_toArray, List.set_cons_zero, List.set_cons_succ]
      refine wpAnyH_take (i := 5) (oi := _) (v := ?_) rfl (by kernel_rfl) (by kernel_rfl) (by kernel_rfl) (fun _ _ _ h => h) (Or.inl ⟨by rfl, ?_⟩) hS ?_
      rotate_left
      · intro w' hw'
        have hcells := HC7.out w' hw'
        go_simp
        (try with_reducible rfl)
      simp only [Act.put, List.getElem_toArray, List.getElem_cons_succ, List.getElem_cons_zero, List.setIfInBounds_toArray, List.set_cons_zero, List.set_cons_succ]
      refine wpAnyH_ready (rs := [6]) (by kernel_rfl) (by simp) ?_
      refine AllReadyH.cons (o := _) rfl (fun K hK => ?_) AllReadyH.nil
      go_simp; go_at_call 104; refine (HCM.out _ hS).mono ?_
      rintro e w4 ⟨rfl, hb4⟩
      refine hK.out _ _ (hS.trans (hb4.mono hS.size)) (fun hS => ?_)
      clear hK K
      (try simp only [Act.put, List.getElem_toArray, List.getElem_cons_succ, List.getElem_cons_zero, List.setIfInBounds_toArray, List.set_cons_zero, List.set_cons_succ])
      refine wpAnyH_take (i := 7) (oi := _) (v := ?_) rfl (by kernel_rfl) (by kernel_rfl) (by kernel_rfl) (fun _ _ _ h => h) (Or.inl ⟨by rfl, ?_⟩) hS ?_
      rotate_left
      · intro w' hw'
        have hcells := HC7.out w' hw'
        go_simp
        (try with_reducible rfl)
      simp only [Act.put, List.getElem_toArray, List.getElem_cons_succ, List.getElem_cons_zero, List.setIfInBounds_toArray, List.set_cons_zero, List.set_cons_succ]
      refine wpAnyH_done (by kernel_rfl) ?_ _
      (try dsimp only)
      have HBZ := hid hS
      clear hS
      obtain ⟨wv, hwv⟩ : ∃ wv, wv = w4 := ⟨_, rfl⟩
      rw [← hwv] at HBZ ⊢
      clear hwv
      have HG0 := hid (heapExt HBZ.out HZ0.out)
      have HG1 := hid (heapExt HBZ.out HX1.out)
      have HUV := hid (HUP.out.trans (HBZ.out.mono HUP.out.size))
      obtain ⟨⟨u0, u1, u2, u3, u4, u5, u6, u7, u8, u9⟩, _⟩ := HC7.out _ HBZ.out
      have q0 := cellOf HG1.out 0; have qf0 := freeOf HG1.out 0; have q1 := cellOf HG1.out 1; have qf1 := freeOf HG1.out 1; have q2 := cellOf HG1.out 2; have qf2 := freeOf HG1.out 2; have q3 := cellOf HG1.out 3; have qf3 := freeOf HG1.out 3; have q4 := cellOf HG1.out 4; have qf4 := freeOf HG1.out 4; have q5 := cellOf HG1.out 5; have qf5 := freeOf HG1.out 5; have q6 := cellOf HG1.out 6; have qf6 := freeOf HG1.out 6; have q7 := cellOf HG1.out 7; have qf7 := freeOf HG1.out 7; have q8 := cellOf HG1.out 8; have qf8 := freeOf HG1.out 8; have q9 := cellOf HG1.out 9; have qf9 := freeOf HG1.out 9
      (try dsimp only at q0 q1 q2 q3 q4 q5 q6 q7 q8 q9)
      go_upto_region 6 with (fail)
      clear u0 u1 u2 u3 u4 u5 u6 u7 u8 u9 q0 q1 q2 q3 q4 q5 q6 q7 q8 q9 qf0 qf1 qf2 qf3 qf4 qf5 qf6 qf7 qf8 qf9
      obtain ⟨wx, hwx⟩ : ∃ u, u = (putTen wv (w.heap.size + 1) (.int .i64 y.k.k) (.int .i64 y.k.i) (.int .i64 y.k.s) (.string y.k.t) (.slice y.k.la y.k.ll y.k.lc) (.slice y.k.fa y.k.fl y.k.fc) (.int .i64 y.n) (.int .i64 y.t) (.slice y.ia y.il y.ic) (.slice y.va y.vl y.vc)) := ⟨_, rfl⟩
      have hwx' := hwx
      simp only [putTen] at hwx'
      rw [← hwx']
      clear hwx'
      have HX2 := hid (show wx.heap[w.heap.size + 1]? = some (.cells #[.int .i64 y.k.k, .int .i64 y.k.i, .int .i64 y.k.s, .string y.k.t, .slice y.k.la y.k.ll y.k.lc, .slice y.k.fa y.k.fl y.k.fc, .int .i64 y.n, .int .i64 y.t, .slice y.ia y.il y.ic, .slice y.va y.vl y.vc] 58) by rw [hwx]; exact putTen_heap HG1.out)
      have HX0 := hid (show wx.heap[w.heap.size]? = some (.cells #[.int .i64 0, .int .i64 0, .int .i64 0, .string ⟨#[]⟩, .slice none 0 0, .slice none 0 0, .int .i64 0, .int .i64 0, .slice none 0 0, .slice none 0 0] 58) by rw [hwx]; exact (putTen_other _ _ _ _ _ _ _ _ _ _ _ _ _ (by omega)).trans HG0.out)
      have HUX := hid (show Below w.heap.size w wx by rw [hwx]; exact HUV.out.trans (putTen_below _ _ _ _ _ _ _ _ _ _ _ _ _ (by omega)))
      clear hwx
      go_wp2
      go_roundw
      case rel => exact ⟨k + 1, y, by omega, by omega, by go_num, HX0.out, HX2.out, HUX.out, by rw [HN2.out]; exact HYI.out⟩
      case measure => simp [intOf]; omega
    · have HN2 := hid (show oldI l (k + 1) = oldI l k from oldI_keep fun h => hcn (HCC.out.2 h))
      have hcn' : (0 : Int) ≤ cc := by omega
      go_upto_region 7 with (fail)
      refine wp_region_split 8 (fun w' => Below wz.heap.size wz w') (by kernel_rfl) (by kernel_rfl) (by kernel_rfl) (by decide) ((Below.refl _ _).drew) (fun hS => ?_)
      simp only [List.take_succ_cons, List.take_zero, List.drop_succ_cons, List.drop_zero]
      refine wpAnyH_take (i := 0) (oi := _) (v := ?_) rfl (by kernel_rfl) (by kernel_rfl) (by kernel_rfl) (fun _ _ _ h => h) (Or.inl ⟨by rfl, ?_⟩) hS ?_
      rotate_left
      · intro w' hw'
        have hcells := HC7.out w' hw'
        go_simp
        (try with_reducible rfl)
      simp only [Act.put, List.getElem_toArray, List.getElem_cons_succ, List.getElem_cons_zero, List.setIfInBounds_toArray, List.set_cons_zero, List.set_cons_succ]
      refine wpAnyH_take (i := 1) (oi := _) (v := ?_) rfl (by kernel_rfl) (by kernel_rfl) (by kernel_rfl) (fun _ _ _ h => h) (Or.inl ⟨by rfl, ?_⟩) hS ?_
      rotate_left
      · intro w' hw'
        have hcells := HC7.out w' hw'
        go_simp
        (try with_reducible rfl)
      simp only [Act.put, List.getElem_toArray, List.getElem_cons_succ, List.getElem_cons_zero, List.setIfInBounds_toArray, List.set_cons_zero, List.set_cons_succ]
      refine wpAnyH_take (i := 2) (oi := _) (v := ?_) rfl (by kernel_rfl) (by kernel_rfl) (by kernel_rfl) (fun _ _ _ h => h) (Or.inl ⟨by rfl, ?_⟩) hS ?_
      rotate_left
      · intro w' hw'
        have hcells := HC7.out w' hw'
        go_simp
        (try with_reducible rfl)
      simp only [Act.put, List.getElem_toArray, List.getElem_cons_succ, List.getElem_cons_zero, List.setIfInBounds_toArray, List.set_cons_zero, List.set_cons_succ]
      refine wpAnyH_take (i := 3) (oi := _) (v := ?_) rfl (by kernel_rfl) (by kernel_rfl) (by kernel_rfl) (fun _ _ _ h => h) (Or.inl ⟨by rfl, ?_⟩) hS ?_
      rotate_left
      · intro w' hw'
        have hcells := HC7.out w' hw'
        go_simp
        (try with_reducible rfl)
      simp only [Act.put, List.getElem_toArray, List.getElem_cons_succ, List.getElem_cons_zero, List.setIfInBounds_toArray, List.set_cons_zero, List.set_cons_succ]
      refine wpAnyH_take (i := 4) (oi := _) (v := ?_) rfl (by kernel_rfl) (by kernel_rfl) (by kernel_rfl) (fun _ _ _ h => h) (Or.inl ⟨by rfl, ?_⟩) hS ?_
      rotate_left
      · intro w' hw'
        have hcells := HC7.out w' hw'
        go_simp
        (try with_reducible rfl)
      simp only [Act.put, List.getElem_toArray, List.getElem_cons_succ, List.getElem_cons_zero, List.setIfInBounds_toArray, List.set_cons_zero, List.set_cons_succ]
      refine wpAnyH_take (i := 5) (oi := _) (v := ?_) rfl (by kernel_rfl) (by kernel_rfl) (by kernel_rfl) (fun _ _ _ h => h) (Or.inl ⟨by rfl, ?_⟩) hS ?_
      rotate_left
      · intro w' hw'
        have hcells := HC7.out w' hw'
        go_simp
        (try with_reducible rfl)
      simp only [Act.put, List.getElem_toArray, List.getElem_cons_succ, List.getElem_cons_zero, List.setIfInBounds_toArray, List.set_cons_zero, List.set_cons_succ]
      refine wpAnyH_ready (rs := [6]) (by kernel_rfl) (by simp) ?_
      refine AllReadyH.cons (o := _) rfl (fun K hK => ?_) AllReadyH.nil
      go_simp; go_at_call 104; refine (HCM.out _ hS).mono ?_
      rintro e w4 ⟨rfl, hb4⟩
      refine hK.out _ _ (hS.trans (hb4.mono hS.size)) (fun hS => ?_)
      clear hK K
      (try simp only [Act.put, List.getElem_toArray, List.getElem_cons_succ, List.getElem_cons_zero, List.setIfInBounds_toArray, List.set_cons_zero, List.set_cons_succ])
      refine wpAnyH_take (i := 7) (oi := _) (v := ?_) rfl (by kernel_rfl) (by kernel_rfl) (by kernel_rfl) (fun _ _ _ h => h) (Or.inl ⟨by rfl, ?_⟩) hS ?_
      rotate_left
      · intro w' hw'
        have hcells := HC7.out w' hw'
        go_simp
        (try with_reducible rfl)
      simp only [Act.put, List.getElem_toArray, List.getElem_cons_succ, List.getElem_cons_zero, List.setIfInBounds_toArray, List.set_cons_zero, List.set_cons_succ]
      refine wpAnyH_done (by kernel_rfl) ?_ _
      (try dsimp only)
      have HBZ := hid hS
      clear hS
      obtain ⟨wv, hwv⟩ : ∃ wv, wv = w4 := ⟨_, rfl⟩
      rw [← hwv] at HBZ ⊢
      clear hwv
      have HG0 := hid (heapExt HBZ.out HZ0.out)
      have HG1 := hid (heapExt HBZ.out HX1.out)
      have HUV := hid (HUP.out.trans (HBZ.out.mono HUP.out.size))
      go_wp2
      go_roundw
      case rel => exact ⟨k + 1, x, by omega, by omega, by go_num, HG0.out, HG1.out, HUV.out, by rw [HN2.out]; exact HXI.out⟩
      case measure => simp [intOf]; omega
  · obtain rfl : n = k := by omega
    clear hlt
    have q0 := cellOf hx1 0; have z0 := cellOf hz0 0; have zf0 := freeOf hz0 0; have q1 := cellOf hx1 1; have z1 := cellOf hz0 1; have zf1 := freeOf hz0 1; have q2 := cellOf hx1 2; have z2 := cellOf hz0 2; have zf2 := freeOf hz0 2; have q3 := cellOf hx1 3; have z3 := cellOf hz0 3; have zf3 := freeOf hz0 3; have q4 := cellOf hx1 4; have z4 := cellOf hz0 4; have zf4 := freeOf hz0 4; have q5 := cellOf hx1 5; have z5 := cellOf hz0 5; have zf5 := freeOf hz0 5; have q6 := cellOf hx1 6; have z6 := cellOf hz0 6; have zf6 := freeOf hz0 6; have q7 := cellOf hx1 7; have z7 := cellOf hz0 7; have zf7 := freeOf hz0 7; have q8 := cellOf hx1 8; have z8 := cellOf hz0 8; have zf8 := freeOf hz0 8; have q9 := cellOf hx1 9; have z9 := cellOf hz0 9; have zf9 := freeOf hz0 9
    (try dsimp only at q0 q1 q2 q3 q4 q5 q6 q7 q8 q9 z0 z1 z2 z3 z4 z5 z6 z7 z8 z9)
    clear hz0 hx1 hup hxi
    go_wp2
    clear q0 q1 q2 q3 q4 q5 q6 q7 q8 q9 z0 z1 z2 z3 z4 z5 z6 z7 z8 z9 zf0 zf1 zf2 zf3 zf4 zf5 zf6 zf7 zf8 zf9
    have h1 := putTen_heap (B := w.heap.size) (w := wz) (v0 := .int .i64 x.k.k) (v1 := .int .i64 x.k.i) (v2 := .int .i64 x.k.s) (v3 := .string x.k.t) (v4 := .slice x.k.la x.k.ll x.k.lc) (v5 := .slice x.k.fa x.k.fl x.k.fc) (v6 := .int .i64 x.n) (v7 := .int .i64 x.t) (v8 := .slice x.ia x.il x.ic) (v9 := .slice x.va x.vl x.vc) HZ0.out
    have hB := HUP.out.trans (putTen_below (.int .i64 x.k.k) (.int .i64 x.k.i) (.int .i64 x.k.s) (.string x.k.t) (.slice x.k.la x.k.ll x.k.lc) (.slice x.k.fa x.k.fl x.k.fc) (.int .i64 x.n) (.int .i64 x.t) (.slice x.ia x.il x.ic) (.slice x.va x.vl x.vc) wz w.heap.size w.heap.size (Nat.le_refl _))
    dsimp only [putTen] at h1 hB
    exact bodyPost_ret (v := SlC.v x) (by simp [results, Tryz.results103, go_sem, cellOf h1]) rfl ⟨x, rfl, hB, HXI.out⟩
def OldPost (w : World) (l : List Slot) (e : Ending) (w' : World) : Prop := ∃ x : SlC, e = .returned (.tuple #[x.v, .bool true]) ∧ Below w.heap.size w w' ∧ ∀ (h : oldI l l.length < l.length), IsSl (· < w'.heap.size) w' x l[oldI l l.length]
set_option maxRecDepth 100000 in
set_option maxHeartbeats 8000000 in
theorem oldest_call (c : StC) (d : Sta) (w : World) (hd : IsSta (· < w.heap.size) w c d) (hn : 0 < d.l.length) (hb : d.l.length ≤ 100000) : Calls Tryz.prog 56 #[c.v] w (OldPost w d.l) := by
  obtain ⟨sn, st, a, sl, sc⟩ := c
  have HL := hid hd.l.len
  dsimp only at HL
  have hsl : 0 < sl := by have := HL.out; omega
  have hsi : ¬ (sl : Int) = 0 := by omega
  obtain ⟨wb, hwb⟩ : ∃ u, u = (w.alloc (.cells #[.int .i64 sn, .int .i64 st, .slice a sl sc] 55)).alloc (.cells #[.int .i64 0, .int .i64 0, .int .i64 0, .string ⟨#[]⟩, .slice none 0 0, .slice none 0 0, .int .i64 0, .int .i64 0, .slice none 0 0, .slice none 0 0] 58) := ⟨_, rfl⟩
  have HB0 := hid (show Below w.heap.size w wb by rw [hwb]; exact ((Below.refl _ w).alloc (Nat.le_refl _) _).alloc (by simp) _)
  have g0 : wb.heap[w.heap.size]? = some (.cells #[.int .i64 sn, .int .i64 st, .slice a sl sc] 55) := by rw [hwb]; exact heapAlloc _ (heap_alloc_new w _)
  have HZ := hid (show wb.heap[w.heap.size + 1]? = some (.cells #[.int .i64 0, .int .i64 0, .int .i64 0, .string ⟨#[]⟩, .slice none 0 0, .slice none 0 0, .int .i64 0, .int .i64 0, .slice none 0 0, .slice none 0 0] 58) by rw [hwb]; exact heapNewAt _ _ _ (by simp))
  have hm := min_call a sl sc d.l wb (hd.l.same fun b q => ⟨Nat.lt_of_lt_of_le q HB0.out.size, HB0.out.block b q⟩) hsl (by have := HL.out; omega)
  have k2 := cellOf g0 2
  (try dsimp only at k2)
  rw [hwb] at k2 hm
  have HM := hid hm
  have HWB := hid hwb
  have hol : oldI d.l sl < d.l.length := by have := oldI_lt d.l sl hsl; have := HL.out; omega
  have HOL := hid hol
  obtain ⟨dm, hdm⟩ : ∃ dm, dm = d.l[oldI d.l sl] := ⟨_, rfl⟩
  have HDM : Hid (∀ (h : oldI d.l d.l.length < d.l.length), d.l[oldI d.l d.l.length] = dm) := hid fun h => by
    rw [hdm]
    congr 1
    rw [HL.out]
  have HDM2 : Hid (∀ (h : oldI d.l sl < d.l.length), d.l[oldI d.l sl] = dm) := hid fun h => hdm.symm
  clear hd g0 hm hwb hol hdm hn hb
  dsimp only [StC.v]
  go_enter Tryz.func56, Tryz.ntmps56
  go_wp2_with (first
    | (go_at_call 84; refine HCS.out.mono ?_; rintro e w4 ⟨c4, rfl, hb4, hi4⟩; have HI4 := hid hi4; have HB4 := hid hb4; have g4 := heapExt (hb3.trans (hb4.mono hb3.size)) HZ.out; have z0 := cellOf g4 0; have zf0 := freeOf g4 0; have z1 := cellOf g4 1; have zf1 := freeOf g4 1; have z2 := cellOf g4 2; have zf2 := freeOf g4 2; have z3 := cellOf g4 3; have zf3 := freeOf g4 3; have z4 := cellOf g4 4; have zf4 := freeOf g4 4; have z5 := cellOf g4 5; have zf5 := freeOf g4 5; have z6 := cellOf g4 6; have zf6 := freeOf g4 6; have z7 := cellOf g4 7; have zf7 := freeOf g4 7; have z8 := cellOf g4 8; have zf8 := freeOf g4 8; have z9 := cellOf g4 9; have zf9 := freeOf g4 9; (try dsimp only at z0 z1 z2 z3 z4 z5 z6 z7 z8 z9); have HG4 := hid g4; clear g4 hi4)
    | (go_at_call 103; refine HM.out.mono ?_; rintro e w3 ⟨x, rfl, hb3, hx3⟩; rw [← HWB.out] at hb3 hx3; have hx4 := hx3 HOL.out; rw [HDM2.out] at hx4; have HCS : Hid (Calls Tryz.prog 84 #[.agg #[.int .i64 x.k.k, .int .i64 x.k.i, .int .i64 x.k.s, .string x.k.t, .slice x.k.la x.k.ll x.k.lc, .slice x.k.fa x.k.fl x.k.fc, .int .i64 x.n, .int .i64 x.t, .slice x.ia x.il x.ic, .slice x.va x.vl x.vc]] w3 (SlPost w3 dm)) := hid (cloneSlot_call x dm w3 (hx4.same fun b q => ⟨Nat.lt_of_lt_of_le q hb3.size, hb3.block b q⟩)); clear hx3 hx4))
  clear z0 z1 z2 z3 z4 z5 z6 z7 z8 z9 zf0 zf1 zf2 zf3 zf4 zf5 zf6 zf7 zf8 zf9
  have h1 := putTen_heap (B := w.heap.size + 1) (w := w4) (v0 := .int .i64 c4.k.k) (v1 := .int .i64 c4.k.i) (v2 := .int .i64 c4.k.s) (v3 := .string c4.k.t) (v4 := .slice c4.k.la c4.k.ll c4.k.lc) (v5 := .slice c4.k.fa c4.k.fl c4.k.fc) (v6 := .int .i64 c4.n) (v7 := .int .i64 c4.t) (v8 := .slice c4.ia c4.il c4.ic) (v9 := .slice c4.va c4.vl c4.vc) HG4.out
  have hB := ((HB0.out.trans (hb3.mono HB0.out.size)).trans (HB4.out.mono (by have := HB0.out.size; have := hb3.size; omega))).trans (putTen_below (.int .i64 c4.k.k) (.int .i64 c4.k.i) (.int .i64 c4.k.s) (.string c4.k.t) (.slice c4.k.la c4.k.ll c4.k.lc) (.slice c4.k.fa c4.k.fl c4.k.fc) (.int .i64 c4.n) (.int .i64 c4.t) (.slice c4.ia c4.il c4.ic) (.slice c4.va c4.vl c4.vc) w4 (w.heap.size + 1) w.heap.size (by omega))
  have hne : w.heap.size + 1 < w3.heap.size := by have := ltOf (heapExt hb3 HZ.out); exact this
  have hI := hid (HI4.out.same (S' := fun b => b < (putTen w4 (w.heap.size + 1) (.int .i64 c4.k.k) (.int .i64 c4.k.i) (.int .i64 c4.k.s) (.string c4.k.t) (.slice c4.k.la c4.k.ll c4.k.lc) (.slice c4.k.fa c4.k.fl c4.k.fc) (.int .i64 c4.n) (.int .i64 c4.t) (.slice c4.ia c4.il c4.ic) (.slice c4.va c4.vl c4.vc)).heap.size) (w' := (putTen w4 (w.heap.size + 1) (.int .i64 c4.k.k) (.int .i64 c4.k.i) (.int .i64 c4.k.s) (.string c4.k.t) (.slice c4.k.la c4.k.ll c4.k.lc) (.slice c4.k.fa c4.k.fl c4.k.fc) (.int .i64 c4.n) (.int .i64 c4.t) (.slice c4.ia c4.il c4.ic) (.slice c4.va c4.vl c4.vc))) fun b q => ⟨by rw [putTen_size]; exact q.2, putTen_other _ _ _ _ _ _ _ _ _ _ _ _ _ (by omega)⟩)
  dsimp only [putTen] at h1 hB hI
  exact bodyPost_ret (v := .tuple #[SlC.v c4, .bool true]) (by simp [results, Tryz.results56, go_sem, cellOf h1]) rfl ⟨c4, rfl, hB, fun h => by rw [HDM.out]; exact hI.out⟩
set_option maxRecDepth 100000 in
set_option maxHeartbeats 4000000 in
theorem oldest0_call (c : StC) (w : World) (h0 : c.l = 0) : Calls Tryz.prog 56 #[c.v] w fun e w' => e = .returned (.tuple #[.agg #[.int .i64 0, .int .i64 0, .int .i64 0, .string ⟨#[]⟩, .slice none 0 0, .slice none 0 0, .int .i64 0, .int .i64 0, .slice none 0 0, .slice none 0 0], .bool false]) ∧ Below w.heap.size w w' := by
  obtain ⟨sn, st, a, sl, sc⟩ := c
  obtain rfl : sl = 0 := h0
  obtain ⟨wb, hwb⟩ : ∃ u, u = (w.alloc (.cells #[.int .i64 sn, .int .i64 st, .slice a 0 sc] 55)).alloc (.cells #[.int .i64 0, .int .i64 0, .int .i64 0, .string ⟨#[]⟩, .slice none 0 0, .slice none 0 0, .int .i64 0, .int .i64 0, .slice none 0 0, .slice none 0 0] 58) := ⟨_, rfl⟩
  have HB0 := hid (show Below w.heap.size w wb by rw [hwb]; exact ((Below.refl _ w).alloc (Nat.le_refl _) _).alloc (by simp) _)
  have g0 : wb.heap[w.heap.size]? = some (.cells #[.int .i64 sn, .int .i64 st, .slice a 0 sc] 55) := by rw [hwb]; exact heapAlloc _ (heap_alloc_new w _)
  have HZ := hid (show wb.heap[w.heap.size + 1]? = some (.cells #[.int .i64 0, .int .i64 0, .int .i64 0, .string ⟨#[]⟩, .slice none 0 0, .slice none 0 0, .int .i64 0, .int .i64 0, .slice none 0 0, .slice none 0 0] 58) by rw [hwb]; exact heapNewAt _ _ _ (by simp))
  have k2 := cellOf g0 2
  (try dsimp only at k2)
  rw [hwb] at k2
  have HWB := hid hwb
  clear g0 hwb
  dsimp only [StC.v]
  go_enter Tryz.func56, Tryz.ntmps56
  go_wp2
  rw [← HWB.out]
  have h1 := HZ.out
  exact bodyPost_ret (v := .tuple #[.agg #[.int .i64 0, .int .i64 0, .int .i64 0, .string ⟨#[]⟩, .slice none 0 0, .slice none 0 0, .int .i64 0, .int .i64 0, .slice none 0 0, .slice none 0 0], .bool false]) (by simp [results, Tryz.results56, go_sem, cellOf h1]) rfl ⟨rfl, HB0.out⟩
end Go.Proofs.YthjlgpmajeafpaaGreatDoor

/-
  Plain: rows of the call's own, cut and joined; the slots whose time has come, in order. No program in sight.
-/
namespace Go.Proofs.YthjlgpmajeafpaaGreatDoor
open Go Go.RowKit
set_option linter.unusedVariables false
set_option linter.unusedSimpArgs false

section
variable {C D : Type} {K : Kit C D}
theorem flat_take (cs : List C) (p : Nat) (h : p ≤ cs.length) : (cs.flatMap K.cs).take (p * K.n) = (cs.take p).flatMap K.cs := by
  have e : cs.flatMap K.cs = (cs.take p).flatMap K.cs ++ (cs.drop p).flatMap K.cs := by rw [← List.flatMap_append, List.take_append_drop]
  have hl : ((cs.take p).flatMap K.cs).length = p * K.n := by rw [flat_len, List.length_take, Nat.min_eq_left h]
  rw [e, List.take_left' hl]
theorem keptTake {T B : Nat} {w : World} {a : Option Addr} {m cap : Nat} {l : List D} (h : Kept K T B w (.slice a m cap) m l) (p : Nat) (hp : p ≤ m) : Kept K T B w (.slice a p cap) p (l.take p) := by
  obtain ⟨cs, h1, h0, ⟨hl, h2⟩, h3⟩ := h
  refine ⟨cs.take p, by rw [List.length_take]; omega, by rw [List.length_take]; omega, ⟨by rw [flat_len, List.length_take]; congr 1; omega, ?_⟩, take_els h3 p⟩
  rcases h2 with ⟨e, h4⟩ | ⟨g, cap', cur, e, hB, hg, hc, hm, hs, ht⟩
  · simp only [Value.slice.injEq] at e
    obtain ⟨rfl, _, rfl⟩ := e
    obtain rfl : p = 0 := by omega
    exact .inl ⟨rfl, rfl⟩
  · simp only [Value.slice.injEq] at e
    obtain ⟨rfl, _, rfl⟩ := e
    refine .inr ⟨g, cap, cur, rfl, hB, hg, by omega, hm, hs, ?_⟩
    rw [← flat_take cs p (by omega), ← ht, List.take_take]
    congr 1
    exact (Nat.min_eq_left (Nat.mul_le_mul_right _ hp)).symm
theorem keptKept {T B : Nat} {w w' : World} {v : Value} {k : Nat} {l : List D} {row : Option Nat} (h : Kept K T B w v k l) (hg : w.grownBy w' row) (hne : v.ownBlock = none ∨ v.ownBlock ≠ row) (hr : ∀ r, row = some r → B ≤ r) (hB : B ≤ w.heap.size) : Kept K T B w' v k l := by
  obtain ⟨cs, h1, h0, h2, h3⟩ := h
  exact ⟨cs, h1, h0, h2.kept hg hne, fun j hj hj' => K.same (fun b q => ⟨q, hg.block b (by omega) (fun e => by have := hr b e.symm; omega)⟩) (h3 j hj hj')⟩
theorem keptSome {T B : Nat} {w : World} {a : Option Addr} {k cap : Nat} {l : List D} (h : Kept K T B w (.slice a k cap) k l) (hk : 0 < k) : ∃ g, a = some ⟨g, 0, none⟩ := by
  obtain ⟨cs, h1, h0, ⟨hl, h2⟩, h3⟩ := h
  rcases h2 with ⟨e, h4⟩ | ⟨g, cap', cur, e, _⟩
  · omega
  · exact ⟨g, by injection e⟩
theorem keptCl {T B : Nat} {w : World} {a : Option Addr} {k cap : Nat} {l : List D} (h : Kept K T B w (.slice a k cap) k l) : ∃ cs : List C, Cl K w a k cs ∧ ∀ j (h1 : j < cs.length) (h2 : j < l.length), K.Is (· < B) w cs[j] l[j] := by
  obtain ⟨cs, h1, h0, h2, h3⟩ := h
  refine ⟨cs, ⟨h1, ?_⟩, h3⟩
  rcases h2.2 with ⟨e, h4⟩ | ⟨g, cap', cur, e, hB, hg, _⟩
  · exact .inl h4
  · simp only [Value.slice.injEq] at e
    obtain ⟨rfl, _, rfl⟩ := e
    exact .inr ⟨_, rfl, fun t u hu => h2.cells (g := g) rfl t u hu⟩
theorem keptLen {T B : Nat} {w : World} {v : Value} {k : Nat} {l : List D} (h : Kept K T B w v k l) : l.length = k := by
  obtain ⟨_, _, h0, _⟩ := h; exact h0
theorem keptOne {T B : Nat} {w : World} {c : C} {d : D} (hB : B ≤ w.heap.size) (hc : K.Is (· < B) w c d) : Kept K T B (w.alloc (.cells (K.cs c).toArray T)) (.slice (some ⟨w.heap.size, 0, none⟩) 1 1) 1 [d] := by
  have hl := K.len c
  refine ⟨[c], rfl, rfl, ⟨by simp [hl], .inr ⟨w.heap.size, 1, _, rfl, hB, heap_alloc_new w _, Nat.le_refl _, by unfold maxLen; omega, by simp [hl], by simp [← hl]⟩⟩, fun j h1 h2 => ?_⟩
  obtain rfl : j = 0 := by simp at h1; omega
  exact K.same (fun b q => ⟨q, Below.heap_alloc _ _ _ (by omega)⟩) hc
end
theorem sortT_append {α : Type} (lt : α → α → Bool) (A r : List α) : ∀ i, i ≤ A.length → sortT lt (A ++ r) i = sortT lt A i
  | 0, _ => rfl
  | i + 1, h => by
    rw [sortT, sortT, List.getElem?_append_left (by omega), sortT_append lt A r i (by omega)]
def wantL (now : Int) (l : List Slot) (k : Nat) : List Slot := sortT ltDS (expL now (l.take k)) (expL now (l.take k)).length
theorem wantL_len (now : Int) (l : List Slot) (k : Nat) : (wantL now l k).length = (expL now (l.take k)).length := sortT_len _ _ _ (Nat.le_refl _)
theorem wantL_come {now : Int} {l : List Slot} {k : Nat} (h : k < l.length) (hc : hasCome now l[k] = true) : wantL now l (k + 1) = insL ltDS (wantL now l k) l[k] := by
  have e := expL_take (now := now) h
  rw [if_pos hc] at e
  rw [wantL, e, List.length_append, List.length_singleton, sortT_succ _ _ _ (by rw [List.length_append, List.length_singleton]; omega), sortT_append _ _ _ _ (Nat.le_refl _)]
  congr 1
  rw [List.getElem_append_right (Nat.le_refl _)]
  simp
theorem wantL_keep {now : Int} {l : List Slot} {k : Nat} (h : k < l.length) (hc : hasCome now l[k] = false) : wantL now l (k + 1) = wantL now l k ∧ (expL now (l.take (k + 1))).length = (expL now (l.take k)).length := by
  have e := expL_take (now := now) h
  rw [if_neg (by rw [hc]; decide), List.append_nil] at e
  rw [wantL, wantL, e]
  exact ⟨rfl, rfl⟩
theorem ltDS_iff {x y : Slot} : ltDS x y = true ↔ x.t < y.t := by rw [ltDS, decide_eq_true_eq, cmpInt_neg]
structure TimR (l : List Slot) (now : Int) (z : Int) (j m k : Nat) : Prop where
  hz : z = dueL (l.take k)
  hp : 0 ≤ z
  hj : j = oldI l k
  hm : m = (expL now (l.take k)).length
/-- The law's own row. -/
structure WantR (B N : Nat) (w : World) (v : Value) (m : Nat) (L : List Slot) : Prop where
  sh : (m = 0 ∧ v = .slice none 0 0) ∨ ∃ g cap, v = .slice (some ⟨g, 0, none⟩) m cap ∧ 1 ≤ m
  kept : Kept slK 58 B w v m L
  own : ∀ r, v.ownBlock = some r → N ≤ r
theorem WantR.ext {B N : Nat} {w w' : World} {v : Value} {m : Nat} {L : List Slot} (h : WantR B N w v m L) (hn : B ≤ w.heap.size) (hb : Below w.heap.size w w') : WantR B N w' v m L := ⟨h.sh, h.kept.ext hn hb, h.own⟩
theorem dueL_nonneg (l : List Slot) (k : Nat) : 0 ≤ dueL (l.take k) := by
  induction k with
  | zero => exact Int.le_refl _
  | succ k ih =>
    rcases Nat.lt_or_ge k l.length with h | h
    · rw [dueL_take h, dueS]
      split
      · omega
      · exact ih
    · rw [List.take_of_length_le (by omega)]
      rw [List.take_of_length_le h] at ih
      exact ih
end Go.Proofs.YthjlgpmajeafpaaGreatDoor
