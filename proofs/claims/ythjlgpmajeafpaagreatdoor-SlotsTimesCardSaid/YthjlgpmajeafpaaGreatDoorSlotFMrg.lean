/-
  slots.Find and slots.Get: a binary search over the slots' keys. Condition: the state and the key can be read as data.
-/
import Derived.Test.YthjlgpmajeafpaaGreatDoorSlotDMrg
import Derived.Test.YthjlgpmajeafpaaGreatDoorSizeMrg
namespace Go.Proofs.YthjlgpmajeafpaaGreatDoor
open Go Go.RowKit Go.Shelf
set_option linter.unusedVariables false
set_option linter.unusedSimpArgs false

def bsearch (c : Nat → Int) : Nat → Nat → Nat → Nat
  | 0, i, _ => i
  | f + 1, i, j => if i < j then (if c ((i + j) / 2) < 0 then bsearch c f ((i + j) / 2 + 1) j else bsearch c f i ((i + j) / 2)) else i
def keyC (l : List Slot) (k : Val) (j : Nat) : Int := match l[j]? with
  | some x => cmpV x.k k
  | none => 0
def findI (l : List Slot) (k : Val) : Nat := bsearch (keyC l k) (l.length + 1) 0 l.length
def findB (l : List Slot) (k : Val) : Bool := decide (findI l k < l.length) && (keyC l k (findI l k) == 0)
theorem keyC_get (l : List Slot) (k : Val) (j : Nat) (h : j < l.length) : keyC l k j = cmpV l[j].k k := by rw [keyC, List.getElem?_eq_getElem h]
def FindPost (w : World) (l : List Slot) (k : Val) (e : Ending) (w' : World) : Prop := e = .returned (.tuple #[.int .i64 (findI l k : Nat), .bool (findB l k)]) ∧ Below w.heap.size w w'

set_option maxRecDepth 100000 in
theorem find1_call (x : SlC) (d : Slot) (c : VC) (kd : Val) (w : World) (hd : IsSl (· < w.heap.size) w x d) (hk : IsVal (· < w.heap.size) w c kd) : Calls Tryz.prog 83 #[x.v, c.v] w fun e w' => e = .returned (.int .i64 (cmpV d.k kd)) ∧ Below w.heap.size w w' := by
  have hb : Below w.heap.size w ((w.alloc (.cells #[.int .i64 x.k.k, .int .i64 x.k.i, .int .i64 x.k.s, .string x.k.t, .slice x.k.la x.k.ll x.k.lc, .slice x.k.fa x.k.fl x.k.fc, .int .i64 x.n, .int .i64 x.t, .slice x.ia x.il x.ic, .slice x.va x.vl x.vc] 58)).alloc (.cells #[.int .i64 c.k, .int .i64 c.i, .int .i64 c.s, .string c.t, .slice c.la c.ll c.lc, .slice c.fa c.fl c.fc] 28)) := ((Below.refl _ w).alloc (Nat.le_refl _) _).alloc (by simp) _
  have hc := compare_call x.k c d.k kd _ (hd.k.same fun b q => ⟨Nat.lt_of_lt_of_le q hb.size, hb.block b q⟩) (hk.same fun b q => ⟨Nat.lt_of_lt_of_le q hb.size, hb.block b q⟩)
  have g1 := heapAlloc (.cells #[.int .i64 c.k, .int .i64 c.i, .int .i64 c.s, .string c.t, .slice c.la c.ll c.lc, .slice c.fa c.fl c.fc] 28) (heap_alloc_new w (.cells #[.int .i64 x.k.k, .int .i64 x.k.i, .int .i64 x.k.s, .string x.k.t, .slice x.k.la x.k.ll x.k.lc, .slice x.k.fa x.k.fl x.k.fc, .int .i64 x.n, .int .i64 x.t, .slice x.ia x.il x.ic, .slice x.va x.vl x.vc] 58))
  have HC := hid hc
  have HB := hid hb
  have e0 := cellOf g1 0; have e1 := cellOf g1 1; have e2 := cellOf g1 2; have e3 := cellOf g1 3; have e4 := cellOf g1 4; have e5 := cellOf g1 5
  (try dsimp only at e0 e1 e2 e3 e4 e5)
  clear hc hb hd hk g1
  dsimp only [SlC.v, VC.v] at HC ⊢
  go_enter Tryz.func83, Tryz.ntmps83
  go_wp2_with (go_at_call 77; refine HC.out.mono ?_; rintro e w2 ⟨rfl, hb2⟩)
  go_ret
  exact ⟨rfl, HB.out.trans (hb2.mono HB.out.size)⟩

set_option maxRecDepth 100000 in
set_option maxHeartbeats 8000000 in
theorem bs_call (a : Option Addr) (n cp : Nat) (l : List Slot) (c : VC) (kd : Val) (w : World) (hd : IsRow slK (· < w.heap.size) w a n cp l) (hk : IsVal (· < w.heap.size) w c kd) :
    Calls Tryz.prog 82 #[.slice a n cp, c.v, .func (.func 83) #[] #[]] w (FindPost w l kd) := by
  have hen : ∀ args w, (callFunc 83 args).run Tryz.prog w = .ok (.enter 83 args) w := enters_of Tryz.func83 (by kernel_rfl) rfl
  have hbig : n * 152 ≤ 140737488351232 := hd.big
  have hn62 : n < 4611686018427387904 := by omega
  have HL := hid hd.len
  have HD := hid hd
  have HK := hid hk
  clear hd hk hbig
  obtain ⟨wb, hwb⟩ : ∃ wb, wb = w.alloc (.cells #[.int .i64 c.k, .int .i64 c.i, .int .i64 c.s, .string c.t, .slice c.la c.ll c.lc, .slice c.fa c.fl c.fc] 28) := ⟨_, rfl⟩
  have HB0 := hid (show Below w.heap.size w wb by rw [hwb]; exact (Below.refl _ w).alloc (Nat.le_refl _) _)
  have G1 := hid (show wb.heap[w.heap.size]? = some (.cells #[.int .i64 c.k, .int .i64 c.i, .int .i64 c.s, .string c.t, .slice c.la c.ll c.lc, .slice c.fa c.fl c.fc] 28) by rw [hwb]; exact heap_alloc_new w _)
  have HWB := hid hwb
  clear hwb
  obtain ⟨cc, hcc⟩ : ∃ cc, cc = keyC l kd := ⟨_, rfl⟩
  obtain ⟨fi, hfi⟩ : ∃ fi, fi = findI l kd := ⟨_, rfl⟩
  have HFI := hid hfi
  have HCC := hid hcc
  have HBT0 := hid (show fi = bsearch cc (n + 1) 0 n by rw [hfi, hcc, findI, HL.out])
  clear hcc hfi
  dsimp only [VC.v]
  go_enter Tryz.func82, Tryz.ntmps82
  go_wp2
  rw [← HWB.out]
  go_loopw [9, 10] (fun s9 s10 wr => ∃ lo hi f : Nat, s9 = .int .i64 lo ∧ s10 = .int .i64 hi ∧ lo ≤ hi ∧ hi ≤ n ∧ hi - lo < f ∧ fi = bsearch cc f lo hi ∧ Below wb.heap.size wb wr) (fun s9 s10 _ => (intOf s10).toNat - (intOf s9).toNat)
  case atStart => exact ⟨0, n, n + 1, rfl, rfl, Nat.zero_le _, Nat.le_refl _, by omega, HBT0.out, Below.refl _ _⟩
  case round =>
  obtain ⟨lo, hi, f, rfl, rfl, hlh, hin, hf, hbt, hbr⟩ := hrel
  obtain ⟨wp, rfl⟩ : ∃ w1 : World, w1 = wr := ⟨_, rfl⟩
  obtain ⟨g, hg⟩ : ∃ g, f = g + 1 := ⟨f - 1, by omega⟩
  have HBT := hid (show fi = bsearch cc (g + 1) lo hi by rw [← hg]; exact hbt)
  have HF := hid (show hi - lo < g + 1 by omega)
  clear hf hg
  have HBR := hid hbr
  have HBW := hid (HB0.out.trans (hbr.mono HB0.out.size))
  clear hbt hbr HBT0
  by_cases hlt : lo < hi
  · have hkl : (lo + hi) / 2 < l.length := by have := HL.out; omega
    obtain ⟨b, o, rfl, hb, hx⟩ := HD.out.slot (show 0 < n by omega)
    obtain ⟨x, hxa, hxi⟩ := hx ((lo + hi) / 2) hkl
    have HB := hid hb
    obtain ⟨u, hu⟩ : ∃ u, u = cmpV l[(lo + hi) / 2].k kd := ⟨_, rfl⟩
    have HU := hid (show cc ((lo + hi) / 2) = u by rw [hu, HCC.out, keyC_get l kd _ hkl])
    have HC : Hid (∀ w', Below wp.heap.size wp w' → (w'.cell? ⟨w.heap.size, 0, none⟩ = some (.int .i64 c.k) ∧ w'.cell? ⟨w.heap.size, 1, none⟩ = some (.int .i64 c.i) ∧ w'.cell? ⟨w.heap.size, 2, none⟩ = some (.int .i64 c.s) ∧ w'.cell? ⟨w.heap.size, 3, none⟩ = some (.string c.t) ∧ w'.cell? ⟨w.heap.size, 4, none⟩ = some (.slice c.la c.ll c.lc) ∧ w'.cell? ⟨w.heap.size, 5, none⟩ = some (.slice c.fa c.fl c.fc)) ∧ (w'.cell? ⟨b, o + (((lo : Int) + (hi : Int)) / 2).toNat * 10, none⟩ = some (.int .i64 x.k.k) ∧ w'.cell? ⟨b, o + (((lo : Int) + (hi : Int)) / 2).toNat * 10 + 1, none⟩ = some (.int .i64 x.k.i) ∧ w'.cell? ⟨b, o + (((lo : Int) + (hi : Int)) / 2).toNat * 10 + 2, none⟩ = some (.int .i64 x.k.s) ∧ w'.cell? ⟨b, o + (((lo : Int) + (hi : Int)) / 2).toNat * 10 + 3, none⟩ = some (.string x.k.t) ∧ w'.cell? ⟨b, o + (((lo : Int) + (hi : Int)) / 2).toNat * 10 + 4, none⟩ = some (.slice x.k.la x.k.ll x.k.lc) ∧ w'.cell? ⟨b, o + (((lo : Int) + (hi : Int)) / 2).toNat * 10 + 5, none⟩ = some (.slice x.k.fa x.k.fl x.k.fc) ∧ w'.cell? ⟨b, o + (((lo : Int) + (hi : Int)) / 2).toNat * 10 + 6, none⟩ = some (.int .i64 x.n) ∧ w'.cell? ⟨b, o + (((lo : Int) + (hi : Int)) / 2).toNat * 10 + 7, none⟩ = some (.int .i64 x.t) ∧ w'.cell? ⟨b, o + (((lo : Int) + (hi : Int)) / 2).toNat * 10 + 8, none⟩ = some (.slice x.ia x.il x.ic) ∧ w'.cell? ⟨b, o + (((lo : Int) + (hi : Int)) / 2).toNat * 10 + 9, none⟩ = some (.slice x.va x.vl x.vc))) := hid fun w' h => by
      rw [show (((lo : Int) + (hi : Int)) / 2).toNat = (lo + hi) / 2 by omega]
      have h1 := heapExt ((HBR.out).trans (h.mono HBR.out.size)) G1.out
      obtain ⟨x0, x1, x2, x3, x4, x5, x6, x7, x8, x9⟩ := (hxa.same ((HBW.out.trans (h.mono HBW.out.size)).block b HB.out)).slot
      exact ⟨⟨cellOf h1 0, cellOf h1 1, cellOf h1 2, cellOf h1 3, cellOf h1 4, cellOf h1 5⟩, x0, x1, x2, x3, x4, x5, x6, x7, x8, x9⟩
    have HCL : Hid (∀ w', Below wp.heap.size wp w' → Calls Tryz.prog 83 #[.agg #[.int .i64 x.k.k, .int .i64 x.k.i, .int .i64 x.k.s, .string x.k.t, .slice x.k.la x.k.ll x.k.lc, .slice x.k.fa x.k.fl x.k.fc, .int .i64 x.n, .int .i64 x.t, .slice x.ia x.il x.ic, .slice x.va x.vl x.vc], .agg #[.int .i64 c.k, .int .i64 c.i, .int .i64 c.s, .string c.t, .slice c.la c.ll c.lc, .slice c.fa c.fl c.fc]] w' fun e w2 => e = .returned (.int .i64 u) ∧ Below w'.heap.size w' w2) := hid fun w' h => by
      have hw := HBW.out.trans (h.mono HBW.out.size)
      have hs := hw.size
      rw [hu]
      exact find1_call x l[(lo + hi) / 2] c kd w' (hxi.same fun b q => ⟨by omega, hw.block b q⟩) (HK.out.same fun b q => ⟨by omega, hw.block b q⟩)
    have hm0 : (0 : Int) ≤ ((lo : Int) + (hi : Int)) / 2 := by omega
    have hm1 : ((lo : Int) + (hi : Int)) / 2 < (n : Int) := by omega
    clear hx hxa hxi hb hu hkl
    by_cases hu0 : u < 0
    · have HULT := hid (show cc ((lo + hi) / 2) < 0 by rw [HU.out]; exact hu0)
      go_upto_region 5 with (fail)
      refine wp_region_split 8 (fun w' => Below wp.heap.size wp w') (by kernel_rfl) (by kernel_rfl) (by kernel_rfl) (by decide) ((Below.refl _ _).drew) (fun hS => ?_)
      simp only [List.take_succ_cons, List.take_zero, List.drop_succ_cons, List.drop_zero]
      refine wpAnyH_take (i := 0) (oi := _) (v := ?_) rfl (by kernel_rfl) (by kernel_rfl) (by kernel_rfl) (fun _ _ _ h => h) (Or.inl ⟨by rfl, ?_⟩) hS ?_
      rotate_left
      · intro w' hw'
        have hcells := HC.out w' hw'
        go_simp
        (try with_reducible rfl)
      simp only [Act.put, List.getElem_toArray, List.getElem_cons_succ, List.getElem_cons_zero, List.setIfInBounds_toArray, List.set_cons_zero, List.set_cons_succ]
      refine wpAnyH_take (i := 1) (oi := _) (v := ?_) rfl (by kernel_rfl) (by kernel_rfl) (by kernel_rfl) (fun _ _ _ h => h) (Or.inl ⟨by rfl, ?_⟩) hS ?_
      rotate_left
      · intro w' hw'
        have hcells := HC.out w' hw'
        go_simp
        (try with_reducible rfl)
      simp only [Act.put, List.getElem_toArray, List.getElem_cons_succ, List.getElem_cons_zero, List.setIfInBounds_toArray, List.set_cons_zero, List.set_cons_succ]
      refine wpAnyH_take (i := 2) (oi := _) (v := ?_) rfl (by kernel_rfl) (by kernel_rfl) (by kernel_rfl) (fun _ _ _ h => h) (Or.inl ⟨by rfl, ?_⟩) hS ?_
      rotate_left
      · intro w' hw'
        have hcells := HC.out w' hw'
        go_simp
        (try with_reducible rfl)
      simp only [Act.put, List.getElem_toArray, List.getElem_cons_succ, List.getElem_cons_zero, List.setIfInBounds_toArray, List.set_cons_zero, List.set_cons_succ]
      refine wpAnyH_take (i := 3) (oi := _) (v := ?_) rfl (by kernel_rfl) (by kernel_rfl) (by kernel_rfl) (fun _ _ _ h => h) (Or.inl ⟨by rfl, ?_⟩) hS ?_
      rotate_left
      · intro w' hw'
        have hcells := HC.out w' hw'
        go_simp
        (try with_reducible rfl)
      simp only [Act.put, List.getElem_toArray, List.getElem_cons_succ, List.getElem_cons_zero, List.setIfInBounds_toArray, List.set_cons_zero, List.set_cons_succ]
      refine wpAnyH_take (i := 4) (oi := _) (v := ?_) rfl (by kernel_rfl) (by kernel_rfl) (by kernel_rfl) (fun _ _ _ h => h) (Or.inl ⟨by rfl, ?_⟩) hS ?_
      rotate_left
      · intro w' hw'
        have hcells := HC.out w' hw'
        go_simp
        (try with_reducible rfl)
      simp only [Act.put, List.getElem_toArray, List.getElem_cons_succ, List.getElem_cons_zero, List.setIfInBounds_toArray, List.set_cons_zero, List.set_cons_succ]
      refine wpAnyH_take (i := 5) (oi := _) (v := ?_) rfl (by kernel_rfl) (by kernel_rfl) (by kernel_rfl) (fun _ _ _ h => h) (Or.inl ⟨by rfl, ?_⟩) hS ?_
      rotate_left
      · intro w' hw'
        have hcells := HC.out w' hw'
        go_simp
        (try with_reducible rfl)
      simp only [Act.put, List.getElem_toArray, List.getElem_cons_succ, List.getElem_cons_zero, List.setIfInBounds_toArray, List.set_cons_zero, List.set_cons_succ]
      refine wpAnyH_ready (rs := [6]) (by kernel_rfl) (by simp) ?_
      refine AllReadyH.cons (o := _) rfl (fun K hK => ?_) AllReadyH.nil
      go_simp; go_at_call 83; refine (HCL.out _ hS).mono ?_
      rintro e w3 ⟨rfl, hb3⟩
      refine hK.out _ _ (hS.trans (hb3.mono hS.size)) (fun hS => ?_)
      clear hK K
      (try simp only [Act.put, List.getElem_toArray, List.getElem_cons_succ, List.getElem_cons_zero, List.setIfInBounds_toArray, List.set_cons_zero, List.set_cons_succ])
      refine wpAnyH_take (i := 7) (oi := _) (v := ?_) rfl (by kernel_rfl) (by kernel_rfl) (by kernel_rfl) (fun _ _ _ h => h) (Or.inl ⟨by rfl, ?_⟩) hS ?_
      rotate_left
      · intro w' hw'
        have hcells := HC.out w' hw'
        go_simp
        (try with_reducible rfl)
      simp only [Act.put, List.getElem_toArray, List.getElem_cons_succ, List.getElem_cons_zero, List.setIfInBounds_toArray, List.set_cons_zero, List.set_cons_succ]
      refine wpAnyH_done (by kernel_rfl) ?_ _
      (try dsimp only)
      have HBE := hid hS
      clear hS HC HCL
      go_wp2
      go_roundw
      case rel =>
        refine ⟨(lo + hi) / 2 + 1, hi, g, by rw [show ((lo : Int) + (hi : Int)) / 2 + 1 = (((lo + hi) / 2 + 1 : Nat) : Int) by omega], rfl, by omega, hin, (by have := HF.out; omega), ?_, HBR.out.trans (HBE.out.mono HBR.out.size)⟩
        rw [HBT.out, bsearch, if_pos hlt, if_pos HULT.out]
      case measure => simp [intOf]; omega
    · have HULT := hid (show ¬ cc ((lo + hi) / 2) < 0 by rw [HU.out]; exact hu0)
      go_upto_region 5 with (fail)
      refine wp_region_split 8 (fun w' => Below wp.heap.size wp w') (by kernel_rfl) (by kernel_rfl) (by kernel_rfl) (by decide) ((Below.refl _ _).drew) (fun hS => ?_)
      simp only [List.take_succ_cons, List.take_zero, List.drop_succ_cons, List.drop_zero]
      refine wpAnyH_take (i := 0) (oi := _) (v := ?_) rfl (by kernel_rfl) (by kernel_rfl) (by kernel_rfl) (fun _ _ _ h => h) (Or.inl ⟨by rfl, ?_⟩) hS ?_
      rotate_left
      · intro w' hw'
        have hcells := HC.out w' hw'
        go_simp
        (try with_reducible rfl)
      simp only [Act.put, List.getElem_toArray, List.getElem_cons_succ, List.getElem_cons_zero, List.setIfInBounds_toArray, List.set_cons_zero, List.set_cons_succ]
      refine wpAnyH_take (i := 1) (oi := _) (v := ?_) rfl (by kernel_rfl) (by kernel_rfl) (by kernel_rfl) (fun _ _ _ h => h) (Or.inl ⟨by rfl, ?_⟩) hS ?_
      rotate_left
      · intro w' hw'
        have hcells := HC.out w' hw'
        go_simp
        (try with_reducible rfl)
      simp only [Act.put, List.getElem_toArray, List.getElem_cons_succ, List.getElem_cons_zero, List.setIfInBounds_toArray, List.set_cons_zero, List.set_cons_succ]
      refine wpAnyH_take (i := 2) (oi := _) (v := ?_) rfl (by kernel_rfl) (by kernel_rfl) (by kernel_rfl) (fun _ _ _ h => h) (Or.inl ⟨by rfl, ?_⟩) hS ?_
      rotate_left
      · intro w' hw'
        have hcells := HC.out w' hw'
        go_simp
        (try with_reducible rfl)
      simp only [Act.put, List.getElem_toArray, List.getElem_cons_succ, List.getElem_cons_zero, List.setIfInBounds_toArray, List.set_cons_zero, List.set_cons_succ]
      refine wpAnyH_take (i := 3) (oi := _) (v := ?_) rfl (by kernel_rfl) (by kernel_rfl) (by kernel_rfl) (fun _ _ _ h => h) (Or.inl ⟨by rfl, ?_⟩) hS ?_
      rotate_left
      · intro w' hw'
        have hcells := HC.out w' hw'
        go_simp
        (try with_reducible rfl)
      simp only [Act.put, List.getElem_toArray, List.getElem_cons_succ, List.getElem_cons_zero, List.setIfInBounds_toArray, List.set_cons_zero, List.set_cons_succ]
      refine wpAnyH_take (i := 4) (oi := _) (v := ?_) rfl (by kernel_rfl) (by kernel_rfl) (by kernel_rfl) (fun _ _ _ h => h) (Or.inl ⟨by rfl, ?_⟩) hS ?_
      rotate_left
      · intro w' hw'
        have hcells := HC.out w' hw'
        go_simp
        (try with_reducible rfl)
      simp only [Act.put, List.getElem_toArray, List.getElem_cons_succ, List.getElem_cons_zero, List.setIfInBounds_toArray, List.set_cons_zero, List.set_cons_succ]
      refine wpAnyH_take (i := 5) (oi := _) (v := ?_) rfl (by kernel_rfl) (by kernel_rfl) (by kernel_rfl) (fun _ _ _ h => h) (Or.inl ⟨by rfl, ?_⟩) hS ?_
      rotate_left
      · intro w' hw'
        have hcells := HC.out w' hw'
        go_simp
        (try with_reducible rfl)
      simp only [Act.put, List.getElem_toArray, List.getElem_cons_succ, List.getElem_cons_zero, List.setIfInBounds_toArray, List.set_cons_zero, List.set_cons_succ]
      refine wpAnyH_ready (rs := [6]) (by kernel_rfl) (by simp) ?_
      refine AllReadyH.cons (o := _) rfl (fun K hK => ?_) AllReadyH.nil
      go_simp; go_at_call 83; refine (HCL.out _ hS).mono ?_
      rintro e w3 ⟨rfl, hb3⟩
      refine hK.out _ _ (hS.trans (hb3.mono hS.size)) (fun hS => ?_)
      clear hK K
      (try simp only [Act.put, List.getElem_toArray, List.getElem_cons_succ, List.getElem_cons_zero, List.setIfInBounds_toArray, List.set_cons_zero, List.set_cons_succ])
      refine wpAnyH_take (i := 7) (oi := _) (v := ?_) rfl (by kernel_rfl) (by kernel_rfl) (by kernel_rfl) (fun _ _ _ h => h) (Or.inl ⟨by rfl, ?_⟩) hS ?_
      rotate_left
      · intro w' hw'
        have hcells := HC.out w' hw'
        go_simp
        (try with_reducible rfl)
      simp only [Act.put, List.getElem_toArray, List.getElem_cons_succ, List.getElem_cons_zero, List.setIfInBounds_toArray, List.set_cons_zero, List.set_cons_succ]
      refine wpAnyH_done (by kernel_rfl) ?_ _
      (try dsimp only)
      have HBE := hid hS
      clear hS HC HCL
      go_wp2
      go_roundw
      case rel =>
        refine ⟨lo, (lo + hi) / 2, g, rfl, by rw [show ((lo : Int) + (hi : Int)) / 2 = (((lo + hi) / 2 : Nat) : Int) by omega], by omega, by omega, (by have := HF.out; omega), ?_, HBR.out.trans (HBE.out.mono HBR.out.size)⟩
        rw [HBT.out, bsearch, if_pos hlt, if_neg HULT.out]
      case measure => simp [intOf]; omega
  · obtain rfl : hi = lo := by omega
    have HE := hid (show fi = hi by rw [HBT.out, bsearch, if_neg hlt])
    by_cases hn : hi < n
    · have hkl : hi < l.length := by have := HL.out; omega
      obtain ⟨b, o, rfl, hb, hx⟩ := HD.out.slot (show 0 < n by omega)
      obtain ⟨x, hxa, hxi⟩ := hx hi hkl
      have HB := hid hb
      have hn' : (hi : Int) < (n : Int) := by omega
      have hi0 : (0 : Int) ≤ (hi : Int) := by omega
      obtain ⟨u, hu⟩ : ∃ u, u = cmpV l[hi].k kd := ⟨_, rfl⟩
      have HU := hid hu
      have HFB := hid (show findB l kd = (u == 0) by rw [findB, ← HFI.out, HE.out, keyC_get l kd hi hkl, ← HU.out]; simp [← HL.out, hn])
      have HC : Hid (∀ w', Below wp.heap.size wp w' → (w'.cell? ⟨w.heap.size, 0, none⟩ = some (.int .i64 c.k) ∧ w'.cell? ⟨w.heap.size, 1, none⟩ = some (.int .i64 c.i) ∧ w'.cell? ⟨w.heap.size, 2, none⟩ = some (.int .i64 c.s) ∧ w'.cell? ⟨w.heap.size, 3, none⟩ = some (.string c.t) ∧ w'.cell? ⟨w.heap.size, 4, none⟩ = some (.slice c.la c.ll c.lc) ∧ w'.cell? ⟨w.heap.size, 5, none⟩ = some (.slice c.fa c.fl c.fc)) ∧ (w'.cell? ⟨b, o + hi * 10, none⟩ = some (.int .i64 x.k.k) ∧ w'.cell? ⟨b, o + hi * 10 + 1, none⟩ = some (.int .i64 x.k.i) ∧ w'.cell? ⟨b, o + hi * 10 + 2, none⟩ = some (.int .i64 x.k.s) ∧ w'.cell? ⟨b, o + hi * 10 + 3, none⟩ = some (.string x.k.t) ∧ w'.cell? ⟨b, o + hi * 10 + 4, none⟩ = some (.slice x.k.la x.k.ll x.k.lc) ∧ w'.cell? ⟨b, o + hi * 10 + 5, none⟩ = some (.slice x.k.fa x.k.fl x.k.fc) ∧ w'.cell? ⟨b, o + hi * 10 + 6, none⟩ = some (.int .i64 x.n) ∧ w'.cell? ⟨b, o + hi * 10 + 7, none⟩ = some (.int .i64 x.t) ∧ w'.cell? ⟨b, o + hi * 10 + 8, none⟩ = some (.slice x.ia x.il x.ic) ∧ w'.cell? ⟨b, o + hi * 10 + 9, none⟩ = some (.slice x.va x.vl x.vc))) := hid fun w' h => by
        have h1 := heapExt ((HBR.out).trans (h.mono HBR.out.size)) G1.out
        obtain ⟨x0, x1, x2, x3, x4, x5, x6, x7, x8, x9⟩ := (hxa.same ((HBW.out.trans (h.mono HBW.out.size)).block b HB.out)).slot
        exact ⟨⟨cellOf h1 0, cellOf h1 1, cellOf h1 2, cellOf h1 3, cellOf h1 4, cellOf h1 5⟩, x0, x1, x2, x3, x4, x5, x6, x7, x8, x9⟩
      have HCL : Hid (∀ w', Below wp.heap.size wp w' → Calls Tryz.prog 83 #[.agg #[.int .i64 x.k.k, .int .i64 x.k.i, .int .i64 x.k.s, .string x.k.t, .slice x.k.la x.k.ll x.k.lc, .slice x.k.fa x.k.fl x.k.fc, .int .i64 x.n, .int .i64 x.t, .slice x.ia x.il x.ic, .slice x.va x.vl x.vc], .agg #[.int .i64 c.k, .int .i64 c.i, .int .i64 c.s, .string c.t, .slice c.la c.ll c.lc, .slice c.fa c.fl c.fc]] w' fun e w2 => e = .returned (.int .i64 u) ∧ Below w'.heap.size w' w2) := hid fun w' h => by
        have hw := HBW.out.trans (h.mono HBW.out.size)
        have hs := hw.size
        rw [hu]
        exact find1_call x l[hi] c kd w' (hxi.same fun b q => ⟨by omega, hw.block b q⟩) (HK.out.same fun b q => ⟨by omega, hw.block b q⟩)
      clear hx hxa hxi hb hu
      go_upto_region 8 with (fail)
      refine wp_region_held_drew (S := (fun w' => Below wp.heap.size wp w')) (by kernel_rfl) ((Below.refl _ _).drew) (fun hS => ?_)
      refine wpAnyH_take (i := 0) (oi := _) (v := ?_) rfl (by kernel_rfl) (by kernel_rfl) (by kernel_rfl) (fun _ _ _ h => h) (Or.inl ⟨by rfl, ?_⟩) hS ?_
      rotate_left
      · intro w' hw'
        have hcells := HC.out w' hw'
        go_simp
        (try with_reducible rfl)
      simp only [Act.put, List.getElem_toArray, List.getElem_cons_succ, List.getElem_cons_zero, List.setIfInBounds_toArray, List.set_cons_zero, List.set_cons_succ]
      refine wpAnyH_take (i := 1) (oi := _) (v := ?_) rfl (by kernel_rfl) (by kernel_rfl) (by kernel_rfl) (fun _ _ _ h => h) (Or.inl ⟨by rfl, ?_⟩) hS ?_
      rotate_left
      · intro w' hw'
        have hcells := HC.out w' hw'
        go_simp
        (try with_reducible rfl)
      simp only [Act.put, List.getElem_toArray, List.getElem_cons_succ, List.getElem_cons_zero, List.setIfInBounds_toArray, List.set_cons_zero, List.set_cons_succ]
      refine wpAnyH_take (i := 2) (oi := _) (v := ?_) rfl (by kernel_rfl) (by kernel_rfl) (by kernel_rfl) (fun _ _ _ h => h) (Or.inl ⟨by rfl, ?_⟩) hS ?_
      rotate_left
      · intro w' hw'
        have hcells := HC.out w' hw'
        go_simp
        (try with_reducible rfl)
      simp only [Act.put, List.getElem_toArray, List.getElem_cons_succ, List.getElem_cons_zero, List.setIfInBounds_toArray, List.set_cons_zero, List.set_cons_succ]
      refine wpAnyH_take (i := 3) (oi := _) (v := ?_) rfl (by kernel_rfl) (by kernel_rfl) (by kernel_rfl) (fun _ _ _ h => h) (Or.inl ⟨by rfl, ?_⟩) hS ?_
      rotate_left
      · intro w' hw'
        have hcells := HC.out w' hw'
        go_simp
        (try with_reducible rfl)
      simp only [Act.put, List.getElem_toArray, List.getElem_cons_succ, List.getElem_cons_zero, List.setIfInBounds_toArray, List.set_cons_zero, List.set_cons_succ]
      refine wpAnyH_take (i := 4) (oi := _) (v := ?_) rfl (by kernel_rfl) (by kernel_rfl) (by kernel_rfl) (fun _ _ _ h => h) (Or.inl ⟨by rfl, ?_⟩) hS ?_
      rotate_left
      · intro w' hw'
        have hcells := HC.out w' hw'
        go_simp
        (try with_reducible rfl)
      simp only [Act.put, List.getElem_toArray, List.getElem_cons_succ, List.getElem_cons_zero, List.setIfInBounds_toArray, List.set_cons_zero, List.set_cons_succ]
      refine wpAnyH_take (i := 5) (oi := _) (v := ?_) rfl (by kernel_rfl) (by kernel_rfl) (by kernel_rfl) (fun _ _ _ h => h) (Or.inl ⟨by rfl, ?_⟩) hS ?_
      rotate_left
      · intro w' hw'
        have hcells := HC.out w' hw'
        go_simp
        (try with_reducible rfl)
      simp only [Act.put, List.getElem_toArray, List.getElem_cons_succ, List.getElem_cons_zero, List.setIfInBounds_toArray, List.set_cons_zero, List.set_cons_succ]
      refine wpAnyH_take (i := 6) (oi := _) (v := ?_) rfl (by kernel_rfl) (by kernel_rfl) (by kernel_rfl) (fun _ _ _ h => h) (Or.inl ⟨by rfl, ?_⟩) hS ?_
      rotate_left
      · intro w' hw'
        have hcells := HC.out w' hw'
        go_simp
        (try with_reducible rfl)
      simp only [Act.put, List.getElem_toArray, List.getElem_cons_succ, List.getElem_cons_zero, List.setIfInBounds_toArray, List.set_cons_zero, List.set_cons_succ]
      refine wpAnyH_take (i := 7) (oi := _) (v := ?_) rfl (by kernel_rfl) (by kernel_rfl) (by kernel_rfl) (fun _ _ _ h => h) (Or.inl ⟨by rfl, ?_⟩) hS ?_
      rotate_left
      · intro w' hw'
        have hcells := HC.out w' hw'
        go_simp
        (try with_reducible rfl)
      simp only [Act.put, List.getElem_toArray, List.getElem_cons_succ, List.getElem_cons_zero, List.setIfInBounds_toArray, List.set_cons_zero, List.set_cons_succ]
      refine wpAnyH_take (i := 8) (oi := _) (v := ?_) rfl (by kernel_rfl) (by kernel_rfl) (by kernel_rfl) (fun _ _ _ h => h) (Or.inl ⟨by rfl, ?_⟩) hS ?_
      rotate_left
      · intro w' hw'
        have hcells := HC.out w' hw'
        go_simp
        (try with_reducible rfl)
      simp only [Act.put, List.getElem_toArray, List.getElem_cons_succ, List.getElem_cons_zero, List.setIfInBounds_toArray, List.set_cons_zero, List.set_cons_succ]
      refine wpAnyH_take (i := 9) (oi := _) (v := ?_) rfl (by kernel_rfl) (by kernel_rfl) (by kernel_rfl) (fun _ _ _ h => h) (Or.inl ⟨by rfl, ?_⟩) hS ?_
      rotate_left
      · intro w' hw'
        have hcells := HC.out w' hw'
        go_simp
        (try with_reducible rfl)
      simp only [Act.put, List.getElem_toArray, List.getElem_cons_succ, List.getElem_cons_zero, List.setIfInBounds_toArray, List.set_cons_zero, List.set_cons_succ]
      refine wpAnyH_take (i := 10) (oi := _) (v := ?_) rfl (by kernel_rfl) (by kernel_rfl) (by kernel_rfl) (fun _ _ _ h => h) (Or.inl ⟨by rfl, ?_⟩) hS ?_
      rotate_left
      · intro w' hw'
        have hcells := HC.out w' hw'
        go_simp
        (try with_reducible rfl)
      simp only [Act.put, List.getElem_toArray, List.getElem_cons_succ, List.getElem_cons_zero, List.setIfInBounds_toArray, List.set_cons_zero, List.set_cons_succ]
      refine wpAnyH_ready (rs := [11]) (by kernel_rfl) (by simp) ?_
      refine AllReadyH.cons (o := _) rfl (fun K hK => ?_) AllReadyH.nil
      go_simp; go_at_call 83; refine (HCL.out _ hS).mono ?_
      rintro e w3 ⟨rfl, hb3⟩
      refine hK.out _ _ (hS.trans (hb3.mono hS.size)) (fun hS => ?_)
      clear hK K
      (try simp only [Act.put, List.getElem_toArray, List.getElem_cons_succ, List.getElem_cons_zero, List.setIfInBounds_toArray, List.set_cons_zero, List.set_cons_succ])
      refine wpAnyH_take (i := 12) (oi := _) (v := ?_) rfl (by kernel_rfl) (by kernel_rfl) (by kernel_rfl) (fun _ _ _ h => h) (Or.inl ⟨by rfl, ?_⟩) hS ?_
      rotate_left
      · intro w' hw'
        have hcells := HC.out w' hw'
        go_simp
        (try with_reducible rfl)
      simp only [Act.put, List.getElem_toArray, List.getElem_cons_succ, List.getElem_cons_zero, List.setIfInBounds_toArray, List.set_cons_zero, List.set_cons_succ]
      refine wpAnyH_take (i := 13) (oi := _) (v := ?_) rfl (by kernel_rfl) (by kernel_rfl) (by kernel_rfl) (fun _ _ _ h => h) (Or.inl ⟨by rfl, ?_⟩) hS ?_
      rotate_left
      · intro w' hw'
        have hcells := HC.out w' hw'
        go_simp
        (try with_reducible rfl)
      simp only [Act.put, List.getElem_toArray, List.getElem_cons_succ, List.getElem_cons_zero, List.setIfInBounds_toArray, List.set_cons_zero, List.set_cons_succ]
      refine wpAnyH_take (i := 14) (oi := _) (v := ?_) rfl (by kernel_rfl) (by kernel_rfl) (by kernel_rfl) (fun _ _ _ h => h) (Or.inl ⟨by rfl, ?_⟩) hS ?_
      rotate_left
      · intro w' hw'
        have hcells := HC.out w' hw'
        go_simp
        (try with_reducible rfl)
      simp only [Act.put, List.getElem_toArray, List.getElem_cons_succ, List.getElem_cons_zero, List.setIfInBounds_toArray, List.set_cons_zero, List.set_cons_succ]
      refine wpAnyH_take (i := 15) (oi := _) (v := ?_) rfl (by kernel_rfl) (by kernel_rfl) (by kernel_rfl) (fun _ _ _ h => h) (Or.inl ⟨by rfl, ?_⟩) hS ?_
      rotate_left
      · intro w' hw'
        have hcells := HC.out w' hw'
        go_simp
        (try with_reducible rfl)
      simp only [Act.put, List.getElem_toArray, List.getElem_cons_succ, List.getElem_cons_zero, List.setIfInBounds_toArray, List.set_cons_zero, List.set_cons_succ]
      refine wpAnyH_done (by kernel_rfl) ?_ _
      (try dsimp only)
      have HBE := hid hS
      clear hS HC HCL
      go_wp2
      go_ret2
      exact ⟨by rw [HFB.out, ← HFI.out, HE.out]; rfl, HBW.out.trans (HBE.out.mono HBW.out.size)⟩
    · have hn' : ¬ (hi : Int) < (n : Int) := by omega
      have hn2 : decide ((hi : Int) < (n : Int)) = false := by simp; omega
      have hn3 : decide (hi < n) = false := by simp; omega
      have HFB := hid (show findB l kd = false by rw [findB, ← HFI.out, HE.out, ← HL.out]; simp [hn])
      have HC : Hid (∀ w' : World, Below wp.heap.size wp w' → True) := hid fun _ _ => trivial
      go_upto_region 8 with (fail)
      refine wp_region_held_drew (S := (fun w' => Below wp.heap.size wp w')) (by kernel_rfl) ((Below.refl _ _).drew) (fun hS => ?_)
      refine wpAnyH_take (i := 0) (oi := _) (v := ?_) rfl (by kernel_rfl) (by kernel_rfl) (by kernel_rfl) (fun _ _ _ h => h) (Or.inl ⟨by rfl, ?_⟩) hS ?_
      rotate_left
      · intro w' hw'
        have hcells := HC.out w' hw'
        go_simp
        (try with_reducible rfl)
      simp only [Act.put, List.getElem_toArray, List.getElem_cons_succ, List.getElem_cons_zero, List.setIfInBounds_toArray, List.set_cons_zero, List.set_cons_succ]
      refine wpAnyH_take (i := 1) (oi := _) (v := ?_) rfl (by kernel_rfl) (by kernel_rfl) (by kernel_rfl) (fun _ _ _ h => h) (Or.inl ⟨by rfl, ?_⟩) hS ?_
      rotate_left
      · intro w' hw'
        have hcells := HC.out w' hw'
        go_simp
        (try with_reducible rfl)
      simp only [Act.put, List.getElem_toArray, List.getElem_cons_succ, List.getElem_cons_zero, List.setIfInBounds_toArray, List.set_cons_zero, List.set_cons_succ]
      refine wpAnyH_take (i := 2) (oi := _) (v := ?_) rfl (by kernel_rfl) (by kernel_rfl) (by kernel_rfl) (fun _ _ _ h => h) (Or.inl ⟨by rfl, ?_⟩) hS ?_
      rotate_left
      · intro w' hw'
        have hcells := HC.out w' hw'
        go_simp
        (try with_reducible rfl)
      simp only [Act.put, List.getElem_toArray, List.getElem_cons_succ, List.getElem_cons_zero, List.setIfInBounds_toArray, List.set_cons_zero, List.set_cons_succ]
      refine wpAnyH_take (i := 3) (oi := _) (v := ?_) rfl (by kernel_rfl) (by kernel_rfl) (by kernel_rfl) (fun _ _ _ h => h) (Or.inl ⟨by rfl, ?_⟩) hS ?_
      rotate_left
      · intro w' hw'
        have hcells := HC.out w' hw'
        go_simp
        (try with_reducible rfl)
      simp only [Act.put, List.getElem_toArray, List.getElem_cons_succ, List.getElem_cons_zero, List.setIfInBounds_toArray, List.set_cons_zero, List.set_cons_succ]
      refine wpAnyH_take (i := 4) (oi := _) (v := ?_) rfl (by kernel_rfl) (by kernel_rfl) (by kernel_rfl) (fun _ _ _ h => h) (Or.inl ⟨by rfl, ?_⟩) hS ?_
      rotate_left
      · intro w' hw'
        have hcells := HC.out w' hw'
        go_simp
        (try with_reducible rfl)
      simp only [Act.put, List.getElem_toArray, List.getElem_cons_succ, List.getElem_cons_zero, List.setIfInBounds_toArray, List.set_cons_zero, List.set_cons_succ]
      refine wpAnyH_take (i := 5) (oi := _) (v := undef) rfl (by kernel_rfl) (by kernel_rfl) (by kernel_rfl) (fun _ _ _ h => h) (Or.inr ⟨by rfl, rfl⟩) hS ?_
      simp only [Act.put, List.getElem_toArray, List.getElem_cons_succ, List.getElem_cons_zero, List.setIfInBounds_toArray, List.set_cons_zero, List.set_cons_succ]
      refine wpAnyH_take (i := 6) (oi := _) (v := undef) rfl (by kernel_rfl) (by kernel_rfl) (by kernel_rfl) (fun _ _ _ h => h) (Or.inr ⟨by rfl, rfl⟩) hS ?_
      simp only [Act.put, List.getElem_toArray, List.getElem_cons_succ, List.getElem_cons_zero, List.setIfInBounds_toArray, List.set_cons_zero, List.set_cons_succ]
      refine wpAnyH_take (i := 7) (oi := _) (v := undef) rfl (by kernel_rfl) (by kernel_rfl) (by kernel_rfl) (fun _ _ _ h => h) (Or.inr ⟨by rfl, rfl⟩) hS ?_
      simp only [Act.put, List.getElem_toArray, List.getElem_cons_succ, List.getElem_cons_zero, List.setIfInBounds_toArray, List.set_cons_zero, List.set_cons_succ]
      refine wpAnyH_take (i := 8) (oi := _) (v := undef) rfl (by kernel_rfl) (by kernel_rfl) (by kernel_rfl) (fun _ _ _ h => h) (Or.inr ⟨by rfl, rfl⟩) hS ?_
      simp only [Act.put, List.getElem_toArray, List.getElem_cons_succ, List.getElem_cons_zero, List.setIfInBounds_toArray, List.set_cons_zero, List.set_cons_succ]
      refine wpAnyH_take (i := 9) (oi := _) (v := undef) rfl (by kernel_rfl) (by kernel_rfl) (by kernel_rfl) (fun _ _ _ h => h) (Or.inr ⟨by rfl, rfl⟩) hS ?_
      simp only [Act.put, List.getElem_toArray, List.getElem_cons_succ, List.getElem_cons_zero, List.setIfInBounds_toArray, List.set_cons_zero, List.set_cons_succ]
      refine wpAnyH_take (i := 10) (oi := _) (v := undef) rfl (by kernel_rfl) (by kernel_rfl) (by kernel_rfl) (fun _ _ _ h => h) (Or.inr ⟨by rfl, rfl⟩) hS ?_
      simp only [Act.put, List.getElem_toArray, List.getElem_cons_succ, List.getElem_cons_zero, List.setIfInBounds_toArray, List.set_cons_zero, List.set_cons_succ]
      refine wpAnyH_take (i := 11) (oi := _) (v := undef) rfl (by kernel_rfl) (by kernel_rfl) (by kernel_rfl) (fun _ _ _ h => h) (Or.inr ⟨by rfl, rfl⟩) hS ?_
      simp only [Act.put, List.getElem_toArray, List.getElem_cons_succ, List.getElem_cons_zero, List.setIfInBounds_toArray, List.set_cons_zero, List.set_cons_succ]
      refine wpAnyH_take (i := 12) (oi := _) (v := undef) rfl (by kernel_rfl) (by kernel_rfl) (by kernel_rfl) (fun _ _ _ h => h) (Or.inr ⟨by rfl, rfl⟩) hS ?_
      simp only [Act.put, List.getElem_toArray, List.getElem_cons_succ, List.getElem_cons_zero, List.setIfInBounds_toArray, List.set_cons_zero, List.set_cons_succ]
      refine wpAnyH_take (i := 13) (oi := _) (v := ?_) rfl (by kernel_rfl) (by kernel_rfl) (by kernel_rfl) (fun _ _ _ h => h) (Or.inl ⟨by rfl, ?_⟩) hS ?_
      rotate_left
      · intro w' hw'
        have hcells := HC.out w' hw'
        go_simp
        (try with_reducible rfl)
      simp only [Act.put, List.getElem_toArray, List.getElem_cons_succ, List.getElem_cons_zero, List.setIfInBounds_toArray, List.set_cons_zero, List.set_cons_succ]
      refine wpAnyH_take (i := 14) (oi := _) (v := ?_) rfl (by kernel_rfl) (by kernel_rfl) (by kernel_rfl) (fun _ _ _ h => h) (Or.inl ⟨by rfl, ?_⟩) hS ?_
      rotate_left
      · intro w' hw'
        have hcells := HC.out w' hw'
        go_simp
        (try with_reducible rfl)
      simp only [Act.put, List.getElem_toArray, List.getElem_cons_succ, List.getElem_cons_zero, List.setIfInBounds_toArray, List.set_cons_zero, List.set_cons_succ]
      refine wpAnyH_take (i := 15) (oi := _) (v := ?_) rfl (by kernel_rfl) (by kernel_rfl) (by kernel_rfl) (fun _ _ _ h => h) (Or.inl ⟨by rfl, ?_⟩) hS ?_
      rotate_left
      · intro w' hw'
        have hcells := HC.out w' hw'
        go_simp
        (try with_reducible rfl)
      simp only [Act.put, List.getElem_toArray, List.getElem_cons_succ, List.getElem_cons_zero, List.setIfInBounds_toArray, List.set_cons_zero, List.set_cons_succ]
      refine wpAnyH_done (by kernel_rfl) ?_ _
      (try dsimp only)
      have HBE := hid hS
      clear hS HC
      go_wp2
      go_ret2
      exact ⟨by rw [HFB.out, ← HFI.out, HE.out]; rfl, HBW.out.trans (HBE.out.mono HBW.out.size)⟩
end Go.Proofs.YthjlgpmajeafpaaGreatDoor

/-
  slots.Find and slots.Get. Condition: the state and the key can be read as data.
-/
namespace Go.Proofs.YthjlgpmajeafpaaGreatDoor
open Go Go.RowKit Go.Shelf
set_option linter.unusedVariables false
set_option linter.unusedSimpArgs false

set_option maxRecDepth 100000 in
theorem find_call (c : StC) (d : Sta) (k : VC) (kd : Val) (w : World) (hd : IsSta (· < w.heap.size) w c d) (hk : IsVal (· < w.heap.size) w k kd) : Calls Tryz.prog 35 #[c.v, k.v] w (FindPost w d.l kd) := by
  obtain ⟨sn, st, a, sl, sc⟩ := c
  have hb : Below w.heap.size w ((w.alloc (.cells #[.int .i64 sn, .int .i64 st, .slice a sl sc] 55)).alloc (.cells #[.int .i64 k.k, .int .i64 k.i, .int .i64 k.s, .string k.t, .slice k.la k.ll k.lc, .slice k.fa k.fl k.fc] 28)) := ((Below.refl _ w).alloc (Nat.le_refl _) _).alloc (by simp) _
  have hc := bs_call a sl sc d.l k kd _ (hd.l.same fun b q => ⟨Nat.lt_of_lt_of_le q hb.size, hb.block b q⟩) (hk.same fun b q => ⟨Nat.lt_of_lt_of_le q hb.size, hb.block b q⟩)
  have g1 := heapAlloc (.cells #[.int .i64 k.k, .int .i64 k.i, .int .i64 k.s, .string k.t, .slice k.la k.ll k.lc, .slice k.fa k.fl k.fc] 28) (heap_alloc_new w (.cells #[.int .i64 sn, .int .i64 st, .slice a sl sc] 55))
  have k2 := cellOf g1 2
  (try dsimp only at k2)
  have HC := hid hc
  have HB := hid hb
  obtain ⟨fi, hfi⟩ : ∃ fi, fi = findI d.l kd := ⟨_, rfl⟩
  obtain ⟨fb, hfb⟩ : ∃ fb, fb = findB d.l kd := ⟨_, rfl⟩
  have HE := hid (And.intro hfi hfb)
  clear hc hb hd hk g1 hfi hfb
  dsimp only [StC.v, VC.v] at HC ⊢
  go_enter Tryz.func35, Tryz.ntmps35
  go_wp2_with (go_at_call 82; refine HC.out.mono ?_; rintro e w2 ⟨he, hb2⟩; rw [← HE.out.1, ← HE.out.2] at he; subst he)
  go_ret2
  exact ⟨by rw [← HE.out.1, ← HE.out.2]; rfl, HB.out.trans (hb2.mono HB.out.size)⟩

def zeroSl : Slot := ⟨noVal, 0, 0, [], []⟩
theorem row_nil' {C D : Type} {K : Kit C D} (S : Nat → Prop) (w : World) : IsRow K S w none 0 0 [] := ⟨rfl, Nat.le_refl _, by rw [Nat.zero_mul]; decide, .inl rfl⟩
theorem zeroSl_is (S : Nat → Prop) (w : World) : IsSl S w ⟨⟨0, 0, 0, ⟨#[]⟩, none, 0, 0, none, 0, 0⟩, 0, 0, none, 0, 0, none, 0, 0⟩ zeroSl :=
  ⟨⟨⟨rfl, rfl, rfl, rfl, ⟨(show I64 0 from ⟨by decide, by decide⟩), (show I64 0 from ⟨by decide, by decide⟩), (show I64 0 from ⟨by decide, by decide⟩), by decide, by decide, by decide, by decide, by decide⟩, rfl, rfl, rfl⟩, .inl rfl, .inl rfl⟩, rfl, (show I64 0 from ⟨by decide, by decide⟩), rfl, (show I64 0 from ⟨by decide, by decide⟩), row_nil' _ _, row_nil' _ _⟩
def GetPost (w : World) (l : List Slot) (kd : Val) (e : Ending) (w' : World) : Prop := ∃ (c' : SlC) (d' : Slot), e = .returned (.tuple #[c'.v, .bool (findB l kd)]) ∧ Below w.heap.size w w' ∧ IsSl (fun b => w.heap.size ≤ b ∧ b < w'.heap.size) w' c' d' ∧ (findB l kd = true → l[findI l kd]? = some d') ∧ (findB l kd = false → d' = zeroSl)

set_option maxRecDepth 100000 in
set_option maxHeartbeats 8000000 in
theorem get_call (c : StC) (d : Sta) (k : VC) (kd : Val) (w : World) (hd : IsSta (· < w.heap.size) w c d) (hk : IsVal (· < w.heap.size) w k kd) : Calls Tryz.prog 36 #[c.v, k.v] w (GetPost w d.l kd) := by
  obtain ⟨sn, st, a, sl, sc⟩ := c
  have hbig : sl * 152 ≤ 140737488351232 := hd.l.big
  have HL := hid hd.l.len
  have HDL := hid hd.l
  dsimp only at HL HDL
  obtain ⟨wb, hwb⟩ : ∃ wb, wb = ((w.alloc (.cells #[.int .i64 sn, .int .i64 st, .slice a sl sc] 55)).alloc (.cells #[.int .i64 k.k, .int .i64 k.i, .int .i64 k.s, .string k.t, .slice k.la k.ll k.lc, .slice k.fa k.fl k.fc] 28)).alloc (.cells #[.int .i64 0, .int .i64 0, .int .i64 0, .string ⟨#[]⟩, .slice none 0 0, .slice none 0 0, .int .i64 0, .int .i64 0, .slice none 0 0, .slice none 0 0] 58) := ⟨_, rfl⟩
  have hb0 : Below w.heap.size w wb := by rw [hwb]; exact (((Below.refl _ w).alloc (Nat.le_refl _) _).alloc (by simp) _).alloc (by simp; omega) _
  have hsb : wb.heap.size = w.heap.size + 3 := by rw [hwb]; simp
  have g1 : wb.heap[w.heap.size]? = some (.cells #[.int .i64 sn, .int .i64 st, .slice a sl sc] 55) := by rw [hwb]; exact heapAlloc _ (heapAlloc _ (heap_alloc_new w _))
  have g2 : wb.heap[w.heap.size + 1]? = some (.cells #[.int .i64 k.k, .int .i64 k.i, .int .i64 k.s, .string k.t, .slice k.la k.ll k.lc, .slice k.fa k.fl k.fc] 28) := by rw [hwb]; exact heapAlloc _ (heapNewAt _ _ _ (by simp))
  have g3 : wb.heap[w.heap.size + 2]? = some (.cells #[.int .i64 0, .int .i64 0, .int .i64 0, .string ⟨#[]⟩, .slice none 0 0, .slice none 0 0, .int .i64 0, .int .i64 0, .slice none 0 0, .slice none 0 0] 58) := by rw [hwb]; exact heapNewAt _ _ _ (by simp)
  have hc := find_call ⟨sn, st, a, sl, sc⟩ d k kd wb (hd.same fun b q => ⟨Nat.lt_of_lt_of_le q hb0.size, hb0.block b q⟩) (hk.same fun b q => ⟨Nat.lt_of_lt_of_le q hb0.size, hb0.block b q⟩)
  obtain ⟨fi, hfi⟩ : ∃ fi, fi = findI d.l kd := ⟨_, rfl⟩
  obtain ⟨fb, hfb⟩ : ∃ fb, fb = findB d.l kd := ⟨_, rfl⟩
  have HE := hid (And.intro hfi hfb)
  rw [hwb] at hc
  have HC := hid hc
  have HWB := hid hwb
  have HB0 := hid hb0
  have HSB := hid hsb
  have G1 := hid g1
  have G3 := hid g3
  have s0 := cellOf g1 0; have s1 := cellOf g1 1; have s2 := cellOf g1 2; have q0 := cellOf g2 0; have q1 := cellOf g2 1; have q2 := cellOf g2 2; have q3 := cellOf g2 3; have q4 := cellOf g2 4; have q5 := cellOf g2 5
  (try dsimp only at s0 s1 s2 q0 q1 q2 q3 q4 q5)
  rw [hwb] at s0 s1 s2 q0 q1 q2 q3 q4 q5
  clear hwb hb0 hsb g1 g2 g3 hc hd hk hfi hfb
  dsimp only [StC.v, VC.v] at HC ⊢
  go_enter Tryz.func36, Tryz.ntmps36
  cases fb with
  | false =>
    go_wp2_with (go_at_call 35; refine HC.out.mono ?_; rintro e w3 ⟨he, hb3⟩; rw [← HE.out.1, ← HE.out.2] at he; subst he; rw [← HWB.out] at hb3; have g3 := heapExt hb3 G3.out; have y0 := cellOf g3 0; have y1 := cellOf g3 1; have y2 := cellOf g3 2; have y3 := cellOf g3 3; have y4 := cellOf g3 4; have y5 := cellOf g3 5; have y6 := cellOf g3 6; have y7 := cellOf g3 7; have y8 := cellOf g3 8; have y9 := cellOf g3 9; have u0 := freeOf g3 0; have u1 := freeOf g3 1; have u2 := freeOf g3 2; have u3 := freeOf g3 3; have u4 := freeOf g3 4; have u5 := freeOf g3 5; have u6 := freeOf g3 6; have u7 := freeOf g3 7; have u8 := freeOf g3 8; have u9 := freeOf g3 9; (try dsimp only at y0 y1 y2 y3 y4 y5 y6 y7 y8 y9); have GG3 := hid g3; clear g3)
    have h1 := putTen_heap (B := w.heap.size + 2) (w := w3) (v0 := .int .i64 0) (v1 := .int .i64 0) (v2 := .int .i64 0) (v3 := .string ⟨#[]⟩) (v4 := .slice none 0 0) (v5 := .slice none 0 0) (v6 := .int .i64 0) (v7 := .int .i64 0) (v8 := .slice none 0 0) (v9 := .slice none 0 0) GG3.out
    have hB := (HB0.out.trans (hb3.mono HB0.out.size)).trans (putTen_below (.int .i64 0) (.int .i64 0) (.int .i64 0) (.string ⟨#[]⟩) (.slice none 0 0) (.slice none 0 0) (.int .i64 0) (.int .i64 0) (.slice none 0 0) (.slice none 0 0) w3 (w.heap.size + 2) w.heap.size (by omega))
    dsimp only [putTen] at h1 hB
    exact bodyPost_ret (v := .tuple #[SlC.v ⟨⟨0, 0, 0, ⟨#[]⟩, none, 0, 0, none, 0, 0⟩, 0, 0, none, 0, 0, none, 0, 0⟩, .bool false]) (by simp [results, Tryz.results36, go_sem, cellOf h1]) rfl ⟨⟨⟨0, 0, 0, ⟨#[]⟩, none, 0, 0, none, 0, 0⟩, 0, 0, none, 0, 0, none, 0, 0⟩, zeroSl, by rw [← HE.out.2], hB, zeroSl_is _ _, fun h => by (rw [← HE.out.2] at h; cases h), fun _ => rfl⟩
  | true =>
    have hfl : fi < sl := by
      have h := HE.out.2
      rw [findB, ← HE.out.1, ← HL.out] at h
      simp only [Bool.true_eq, Bool.and_eq_true, decide_eq_true_eq] at h
      exact h.1
    have hkl : fi < d.l.length := by have := HL.out; omega
    obtain ⟨b, o, rfl, hb, hx⟩ := HDL.out.slot (show 0 < sl by omega)
    obtain ⟨x, hxa, hxi⟩ := hx fi hkl
    obtain ⟨dx, hdx⟩ : ∃ dx, dx = d.l[fi] := ⟨_, rfl⟩
    have HDX := hid (show d.l[fi]? = some dx by rw [hdx]; exact List.getElem?_eq_getElem hkl)
    rw [← hdx] at hxi
    have hf1 : (fi : Int) < (sl : Int) := by omega
    have hf0 : (0 : Int) ≤ (fi : Int) := by omega
    have HX : Hid (∀ w', Below wb.heap.size wb w' → w'.cell? ⟨b, o + fi * 10, none⟩ = some (.int .i64 x.k.k) ∧ w'.cell? ⟨b, o + fi * 10 + 1, none⟩ = some (.int .i64 x.k.i) ∧ w'.cell? ⟨b, o + fi * 10 + 2, none⟩ = some (.int .i64 x.k.s) ∧ w'.cell? ⟨b, o + fi * 10 + 3, none⟩ = some (.string x.k.t) ∧ w'.cell? ⟨b, o + fi * 10 + 4, none⟩ = some (.slice x.k.la x.k.ll x.k.lc) ∧ w'.cell? ⟨b, o + fi * 10 + 5, none⟩ = some (.slice x.k.fa x.k.fl x.k.fc) ∧ w'.cell? ⟨b, o + fi * 10 + 6, none⟩ = some (.int .i64 x.n) ∧ w'.cell? ⟨b, o + fi * 10 + 7, none⟩ = some (.int .i64 x.t) ∧ w'.cell? ⟨b, o + fi * 10 + 8, none⟩ = some (.slice x.ia x.il x.ic) ∧ w'.cell? ⟨b, o + fi * 10 + 9, none⟩ = some (.slice x.va x.vl x.vc)) := hid fun w' h => (hxa.same ((HB0.out.trans (h.mono HB0.out.size)).block b hb)).slot
    have HCS : Hid (∀ w', Below wb.heap.size wb w' → Calls Tryz.prog 84 #[.agg #[.int .i64 x.k.k, .int .i64 x.k.i, .int .i64 x.k.s, .string x.k.t, .slice x.k.la x.k.ll x.k.lc, .slice x.k.fa x.k.fl x.k.fc, .int .i64 x.n, .int .i64 x.t, .slice x.ia x.il x.ic, .slice x.va x.vl x.vc]] w' (SlPost w' dx)) := hid fun w' h => by
      have hw := HB0.out.trans (h.mono HB0.out.size)
      exact cloneSlot_call x _ w' (hxi.same fun b q => ⟨Nat.lt_of_lt_of_le q hw.size, hw.block b q⟩)
    clear hx hxa hxi hb hdx hkl hfl
    go_wp2_with (first
      | (go_at_call 84; refine (HCS.out _ hb3).mono ?_; rintro e w5 ⟨c5, rfl, hb5, hi5⟩; clear x0 x1 x2 x3 x4 x5 x6 x7 x8 x9 t2; have g3 := heapExt (hb3.trans (hb5.mono hb3.size)) G3.out; have y0 := cellOf g3 0; have y1 := cellOf g3 1; have y2 := cellOf g3 2; have y3 := cellOf g3 3; have y4 := cellOf g3 4; have y5 := cellOf g3 5; have y6 := cellOf g3 6; have y7 := cellOf g3 7; have y8 := cellOf g3 8; have y9 := cellOf g3 9; have u0 := freeOf g3 0; have u1 := freeOf g3 1; have u2 := freeOf g3 2; have u3 := freeOf g3 3; have u4 := freeOf g3 4; have u5 := freeOf g3 5; have u6 := freeOf g3 6; have u7 := freeOf g3 7; have u8 := freeOf g3 8; have u9 := freeOf g3 9; (try dsimp only at y0 y1 y2 y3 y4 y5 y6 y7 y8 y9); have GG3 := hid g3; have HI5 := hid hi5; have HB5 := hid hb5; clear g3 hi5 hb5)
      | (go_at_call 35; refine HC.out.mono ?_; rintro e w3 ⟨he, hb3⟩; rw [← HE.out.1, ← HE.out.2] at he; subst he; rw [← HWB.out] at hb3; have t2 := cellOf (heapExt hb3 G1.out) 2; (try dsimp only at t2); obtain ⟨x0, x1, x2, x3, x4, x5, x6, x7, x8, x9⟩ := HX.out _ hb3))
    have h5 := HB5.out
    have hz5 := h5.size
    have hz3 := hb3.size
    have hsb := HSB.out
    have h1 := putTen_heap (B := w.heap.size + 2) (w := w5) (v0 := .int .i64 c5.k.k) (v1 := .int .i64 c5.k.i) (v2 := .int .i64 c5.k.s) (v3 := .string c5.k.t) (v4 := .slice c5.k.la c5.k.ll c5.k.lc) (v5 := .slice c5.k.fa c5.k.fl c5.k.fc) (v6 := .int .i64 c5.n) (v7 := .int .i64 c5.t) (v8 := .slice c5.ia c5.il c5.ic) (v9 := .slice c5.va c5.vl c5.vc) GG3.out
    have hB := ((HB0.out.trans (hb3.mono HB0.out.size)).trans (h5.mono (by omega))).trans (putTen_below (.int .i64 c5.k.k) (.int .i64 c5.k.i) (.int .i64 c5.k.s) (.string c5.k.t) (.slice c5.k.la c5.k.ll c5.k.lc) (.slice c5.k.fa c5.k.fl c5.k.fc) (.int .i64 c5.n) (.int .i64 c5.t) (.slice c5.ia c5.il c5.ic) (.slice c5.va c5.vl c5.vc) w5 (w.heap.size + 2) w.heap.size (by omega))
    have hI := hid (HI5.out.same (S' := fun b => w.heap.size ≤ b ∧ b < (putTen w5 (w.heap.size + 2) (.int .i64 c5.k.k) (.int .i64 c5.k.i) (.int .i64 c5.k.s) (.string c5.k.t) (.slice c5.k.la c5.k.ll c5.k.lc) (.slice c5.k.fa c5.k.fl c5.k.fc) (.int .i64 c5.n) (.int .i64 c5.t) (.slice c5.ia c5.il c5.ic) (.slice c5.va c5.vl c5.vc)).heap.size) (w' := putTen w5 (w.heap.size + 2) (.int .i64 c5.k.k) (.int .i64 c5.k.i) (.int .i64 c5.k.s) (.string c5.k.t) (.slice c5.k.la c5.k.ll c5.k.lc) (.slice c5.k.fa c5.k.fl c5.k.fc) (.int .i64 c5.n) (.int .i64 c5.t) (.slice c5.ia c5.il c5.ic) (.slice c5.va c5.vl c5.vc)) fun b q => ⟨⟨by omega, by rw [putTen_size]; exact q.2⟩, putTen_other _ _ _ _ _ _ _ _ _ _ _ _ _ (by omega)⟩)
    dsimp only [putTen] at h1 hB hI
    exact bodyPost_ret (v := .tuple #[SlC.v c5, .bool true]) (by simp [results, Tryz.results36, go_sem, cellOf h1]) rfl ⟨c5, dx, by rw [← HE.out.2], hB, hI.out, fun _ => by rw [← HE.out.1]; exact HDX.out, fun h => by (rw [← HE.out.2] at h; cases h)⟩
end Go.Proofs.YthjlgpmajeafpaaGreatDoor
