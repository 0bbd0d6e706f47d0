/-
  MessageFates returns true. Conditions: the list can be read as data; Tabs.
-/
import Derived.Test.YthjlgpmajeafpaaGreatDoorKnown
import Derived.Test.YthjlgpmajeafpaaGreatDoorFateB
import Derived.Test.YthjlgpmajeafpaaGreatDoorFateF
import Derived.Test.YthjlgpmajeafpaaGreatDoorIndep
import Derived.Test.YthjlgpmajeafpaaGreatDoorRefl
namespace Go.Proofs.YthjlgpmajeafpaaGreatDoor
open Go Go.RowKit Go.Shelf
set_option linter.unusedVariables false
set_option linter.unusedSimpArgs false

theorem ftEqB_refl (d : Fate) : ftEqB d d = true := by
  simp [ftEqB, stEqB_refl, eqL_refl stEqB_refl]
theorem row_nil {C D : Type} {K : Kit C D} (S : Nat → Prop) (w : World) : IsRow K S w none 0 0 [] := ⟨rfl, Nat.le_refl _, by rw [Nat.zero_mul]; decide, .inl rfl⟩
def StsP (n : Nat) (l : List St) (v : Value) (lo hi : Nat) (w : World) : Prop := ∃ a c, v = .slice a n c ∧ IsRow stK (fun b => lo ≤ b ∧ b < hi) w a n c l
def NewP (o : Obj) (v : Value) (lo hi : Nat) (w : World) : Prop := v = .pointer (some ⟨lo, 0, none⟩) ∧ lo < hi ∧ w.heap[lo]? = some o
def FtP (d : Fate) (v : Value) (lo hi : Nat) (w : World) : Prop := ∃ c : FtC, v = c.v ∧ IsFt (fun b => lo ≤ b ∧ b < hi) w c d
theorem stsP_stab {n : Nat} {l : List St} {v : Value} {lo hi : Nat} {w w' : World} (h : StsP n l v lo hi w) (hh : hi ≤ w.heap.size) (hb : Below w.heap.size w w') : StsP n l v lo hi w' := by
  obtain ⟨a, c, e, hr⟩ := h
  exact ⟨a, c, e, hr.same fun b q => ⟨q, hb.block b (by omega)⟩⟩
theorem newP_stab {o : Obj} {v : Value} {lo hi : Nat} {w w' : World} (h : NewP o v lo hi w) (hh : hi ≤ w.heap.size) (hb : Below w.heap.size w w') : NewP o v lo hi w' := ⟨h.1, h.2.1, heapExt hb h.2.2⟩
theorem ftP_stab {d : Fate} {v : Value} {lo hi : Nat} {w w' : World} (h : FtP d v lo hi w) (hh : hi ≤ w.heap.size) (hb : Below w.heap.size w w') : FtP d v lo hi w' := by
  obtain ⟨c, e, hr⟩ := h
  exact ⟨c, e, hr.same fun b q => ⟨q, hb.block b (by omega)⟩⟩

set_option maxRecDepth 100000 in
set_option maxHeartbeats 16000000 in
theorem fates_call (a : Option Addr) (n c : Nat) (l : List Msg) (nd tx : ByteArray) (w : World) (hd : IsMsgs (· < w.heap.size) w a n c l) (hT : Tabs w) : Calls Tryz.prog 4 #[.slice a n c, .string nd, .string tx] w fun e w' => e = .returned (.bool true) ∧ Below w.heap.size w w' := by
  have HK : Hid (∀ w2, Below w.heap.size w w2 → Calls Tryz.prog 15 #[] w2 fun e w' => e = .returned (.bool true) ∧ Below w2.heap.size w2 w') := hid fun w2 h => known_call w2 (hT.below h)
  have HSM : Hid (∀ w2, Below w.heap.size w w2 → Calls Tryz.prog 21 #[.slice a n c] w2 (SmallsPost w2 n)) := hid fun w2 h => smalls_call a n c l w2 (hd.same fun b q => ⟨Nat.lt_of_lt_of_le q h.size, h.block b q⟩)
  have hbig := hd.big
  have HL := hid hd.len
  have HD := hid hd
  clear hd hT
  go_enter Tryz.func4, Tryz.ntmps4
  by_cases q0 : n = 0
  · subst q0
    go_wp2_with (first
    | (go_at_call 15; refine (HK.out _ hb3).mono ?_; rintro e w9 ⟨rfl, hb9⟩; have hbz := hb3.trans (hb9.mono hb3.size))
    | (go_at_call 15; refine (HK.out _ (Below.refl _ _)).mono ?_; rintro e w2 ⟨rfl, hb2⟩)
    | (go_at_call 21; refine (HSM.out _ hb2).mono ?_; rintro e w3 ⟨⟨b1, rfl, hs1⟩, hb3'⟩; have hb3 := hb2.trans (hb3'.mono hb2.size); cases b1))
    all_goals go_ret
    all_goals exact ⟨rfl, hbz⟩
  have q0' : ((n : Int) == 0) = false := by simp; omega
  by_cases q1 : 100 < nd.size
  · have q1' : (100 : Int) < (nd.size : Int) := by omega
    go_wp2_with (first
    | (go_at_call 15; refine (HK.out _ hb3).mono ?_; rintro e w9 ⟨rfl, hb9⟩; have hbz := hb3.trans (hb9.mono hb3.size))
    | (go_at_call 15; refine (HK.out _ (Below.refl _ _)).mono ?_; rintro e w2 ⟨rfl, hb2⟩)
    | (go_at_call 21; refine (HSM.out _ hb2).mono ?_; rintro e w3 ⟨⟨b1, rfl, hs1⟩, hb3'⟩; have hb3 := hb2.trans (hb3'.mono hb2.size); cases b1))
    all_goals go_ret
    all_goals exact ⟨rfl, hbz⟩
  have q1' : decide ((100 : Int) < (nd.size : Int)) = false := by simp; omega
  by_cases q2 : 100 < tx.size
  · have q2' : (100 : Int) < (tx.size : Int) := by omega
    go_wp2_with (first
    | (go_at_call 15; refine (HK.out _ hb3).mono ?_; rintro e w9 ⟨rfl, hb9⟩; have hbz := hb3.trans (hb9.mono hb3.size))
    | (go_at_call 15; refine (HK.out _ (Below.refl _ _)).mono ?_; rintro e w2 ⟨rfl, hb2⟩)
    | (go_at_call 21; refine (HSM.out _ hb2).mono ?_; rintro e w3 ⟨⟨b1, rfl, hs1⟩, hb3'⟩; have hb3 := hb2.trans (hb3'.mono hb2.size); cases b1))
    all_goals go_ret
    all_goals exact ⟨rfl, hbz⟩
  have q2' : decide ((100 : Int) < (tx.size : Int)) = false := by simp; omega
  have hn0 : (0 : Int) < (n : Int) := by omega
  have hn0N : 0 < n := by omega
  go_upto_region 3 with (first
    | (go_at_call 15; refine (HK.out _ hb3).mono ?_; rintro e w9 ⟨rfl, hb9⟩; have hbz := hb3.trans (hb9.mono hb3.size))
    | (go_at_call 15; refine (HK.out _ (Below.refl _ _)).mono ?_; rintro e w2 ⟨rfl, hb2⟩)
    | (go_at_call 21; refine (HSM.out _ hb2).mono ?_; rintro e w3 ⟨⟨b1, rfl, hs1⟩, hb3'⟩; have hb3 := hb2.trans (hb3'.mono hb2.size); cases b1))
  · go_ret
    exact ⟨rfl, hbz⟩
  have HB3 := hid hb3
  clear hb2 hb3' hb3 hs1 q1 q1' q2 q2' q0 q0' HSM HK
  obtain ⟨b, o, rfl, hb, hx⟩ := HD.out.at'.resolve_left fun h => by have h1 := HL.out; rw [h] at h1; simp at h1; omega
  obtain ⟨xm, hxm, ixm⟩ := hx 0 (by have := HL.out; omega)
  rw [Nat.zero_mul, Nat.add_zero] at hxm
  obtain ⟨d0, hd0⟩ : ∃ d0, d0 = l[0]'(by have := HL.out; omega) := ⟨_, rfl⟩
  rw [← hd0] at ixm
  have IXM := hid ixm
  have HXL := hid hx
  have HB := hid hb
  have hw3 := trivial
  have HC3 : Hid (∀ w', Below w3.heap.size w3 w' → w'.cell? ⟨b, o, none⟩ = some (.int .i64 xm.st.e) ∧ w'.cell? ⟨b, o + 1, none⟩ = some (.slice xm.st.a xm.st.n xm.st.c) ∧ w'.cell? ⟨b, o + 2, none⟩ = some (.int .i64 xm.m) ∧ w'.cell? ⟨b, o + 3, none⟩ = some (.slice xm.a xm.n xm.c) ∧ w'.cell? ⟨b, o + 4, none⟩ = some (.int .i64 xm.b.k) ∧ w'.cell? ⟨b, o + 5, none⟩ = some (.int .i64 xm.b.i) ∧ w'.cell? ⟨b, o + 6, none⟩ = some (.int .i64 xm.b.s) ∧ w'.cell? ⟨b, o + 7, none⟩ = some (.string xm.b.t) ∧ w'.cell? ⟨b, o + 8, none⟩ = some (.slice xm.b.la xm.b.ll xm.b.lc) ∧ w'.cell? ⟨b, o + 9, none⟩ = some (.slice xm.b.fa xm.b.fl xm.b.fc)) := hid fun w' h => by
    have h1 := hxm.same ((HB3.out.trans (h.mono HB3.out.size)).block b hb)
    exact ⟨h1.e, h1.p, h1.m, h1.es, h1.k, h1.i, h1.s, h1.t, h1.l, h1.f⟩
  have HSTS : Hid (∀ w', Below w3.heap.size w3 w' → Calls Tryz.prog 22 #[.slice (some ⟨b, o, none⟩) n c] w' (StsPost w' n (l.map (·.st)))) := hid fun w' h => by
    have hw := HB3.out.trans (h.mono HB3.out.size)
    exact stamps_call _ n c l w' (HD.out.same fun b q => ⟨Nat.lt_of_lt_of_le q hw.size, hw.block b q⟩)
  clear hxm ixm hx hb hd0
  refine wp_region_split 7 (fun w' => Below w3.heap.size w3 w') (by kernel_rfl) (by kernel_rfl) (by kernel_rfl) (by decide) ((Below.refl _ _).drew) (fun hS => ?_)
  simp only [List.take_succ_cons, List.take_zero, List.drop_succ_cons, List.drop_zero]
  refine wpAnyH_take (i := 0) (oi := _) (v := ?_) rfl (by kernel_rfl) (by kernel_rfl) (by kernel_rfl) (fun _ _ _ h => h) (Or.inl ⟨by rfl, ?_⟩) hS ?_
  rotate_left
  · intro w' hw'
    have hcells := HC3.out w' hw'
    go_simp
    (try with_reducible rfl)
  simp only [Act.put, List.getElem_toArray, List.getElem_cons_succ, List.getElem_cons_zero, List.setIfInBounds_toArray, List.set_cons_zero, List.set_cons_succ]
  refine wpAnyH_take (i := 1) (oi := _) (v := ?_) rfl (by kernel_rfl) (by kernel_rfl) (by kernel_rfl) (fun _ _ _ h => h) (Or.inl ⟨by rfl, ?_⟩) hS ?_
  rotate_left
  · intro w' hw'
    have hcells := HC3.out w' hw'
    go_simp
    (try with_reducible rfl)
  simp only [Act.put, List.getElem_toArray, List.getElem_cons_succ, List.getElem_cons_zero, List.setIfInBounds_toArray, List.set_cons_zero, List.set_cons_succ]
  refine wpAnyH_take (i := 2) (oi := _) (v := ?_) rfl (by kernel_rfl) (by kernel_rfl) (by kernel_rfl) (fun _ _ _ h => h) (Or.inl ⟨by rfl, ?_⟩) hS ?_
  rotate_left
  · intro w' hw'
    have hcells := HC3.out w' hw'
    go_simp
    (try with_reducible rfl)
  simp only [Act.put, List.getElem_toArray, List.getElem_cons_succ, List.getElem_cons_zero, List.setIfInBounds_toArray, List.set_cons_zero, List.set_cons_succ]
  refine wpAnyH_take (i := 3) (oi := _) (v := ?_) rfl (by kernel_rfl) (by kernel_rfl) (by kernel_rfl) (fun _ _ _ h => h) (Or.inl ⟨by rfl, ?_⟩) hS ?_
  rotate_left
  · intro w' hw'
    have hcells := HC3.out w' hw'
    go_simp
    (try with_reducible rfl)
  simp only [Act.put, List.getElem_toArray, List.getElem_cons_succ, List.getElem_cons_zero, List.setIfInBounds_toArray, List.set_cons_zero, List.set_cons_succ]
  refine wpAnyH_indep' [4, 5] [41, 7] (fun j v lo hi w' => match j with | 0 => StsP n (l.map (·.st)) v lo hi w' | 1 => NewP (.cells #[.int .i64 0, .slice none 0 0, .int .i64 0, .slice none 0 0, .int .i64 0, .int .i64 0, .int .i64 0, .string ⟨#[]⟩, .slice none 0 0, .slice none 0 0] 30) v lo hi w' | _ => False) w3.heap.size 4 1 #[true, true, true, true, true, true, false] (by kernel_rfl) rfl (by simp only [putAll, Act.put, List.getElem_toArray, List.getElem_cons_succ, List.getElem_cons_zero, List.setIfInBounds_toArray, List.set_cons_zero, List.set_cons_succ]) hS (Nat.le_refl _) ?stab ?hop ?fin
  case stab =>
    intro j v lo hi w1 w2 h hh hb
    match j, h with
    | 0, h => exact stsP_stab h hh hb
    | 1, h => exact newP_stab h hh hb
    | _ + 2, h => exact h.elim
  case hop =>
    intro j hj x w' K hS hN hK
    match j, hj, hK with
    | 0, _, hK =>
      refine indep_step (o := _) rfl hK (fun K' hK => ?_)
      simp only [putAll, Act.put, List.getElem_toArray, List.getElem_cons_succ, List.getElem_cons_zero, List.setIfInBounds_toArray, List.set_cons_zero, List.set_cons_succ]
      go_simp; go_at_call 22; refine (HSTS.out _ hS).mono ?_
      rintro e w4 ⟨a4, c4, rfl, hb4, hr4⟩
      simp only [putAll, upd, reduceIte, Act.put, List.getElem_toArray, List.getElem_cons_succ, List.getElem_cons_zero, List.setIfInBounds_toArray, List.set_cons_zero, List.set_cons_succ, Nat.reduceEqDiff, if_false, if_true] at hK
      exact hK.out _ _ (hS.trans (hb4.mono hS.size)) (hb4) (⟨a4, c4, rfl, hr4⟩)
    | 1, _, hK =>
      refine indep_step (o := _) rfl hK (fun K' hK => ?_)
      simp only [putAll, Act.put, List.getElem_toArray, List.getElem_cons_succ, List.getElem_cons_zero, List.setIfInBounds_toArray, List.set_cons_zero, List.set_cons_succ]
      go_simp
      simp only [putAll, upd, reduceIte, Act.put, List.getElem_toArray, List.getElem_cons_succ, List.getElem_cons_zero, List.setIfInBounds_toArray, List.set_cons_zero, List.set_cons_succ, Nat.reduceEqDiff, if_false, if_true] at hK
      exact hK.out _ _ (hS.trans ((((Below.refl _ _).alloc (Nat.le_refl _) _)).mono hS.size)) ((Below.refl _ _).alloc (Nat.le_refl _) _) (⟨rfl, by simp, heap_alloc_new _ _⟩)
    | n + 2, hj, _ => exact absurd hj (by simp)
  case fin =>
  intro x lo hi w' hS hfacts hdis
  obtain ⟨⟨a4, c4, e0, hr4⟩, nl0, ll0, hl0⟩ := hfacts 0 (by decide)
  obtain ⟨⟨e1, lt1, hz⟩, nl1, ll1, hl1⟩ := hfacts 1 (by decide)
  have hd01 := hdis 0 (by decide) 1 (by decide) (by decide)
  obtain ⟨mb, hmb⟩ : ∃ mb, mb = lo 1 := ⟨_, rfl⟩
  rw [← hmb] at e1 hz
  have HZ := hid hz
  have HMB := hid (show w3.heap.size ≤ mb by omega)
  have HR4 := hid (hr4.same (S' := fun b => w3.heap.size ≤ b ∧ b < w'.heap.size ∧ b ≠ mb) fun b q => ⟨⟨by omega, by omega, by omega⟩, rfl⟩)
  clear hfacts hdis hr4 hz hd01 nl0 ll0 hl0 lt1 nl1 ll1 hl1 hmb
  simp only [putAll, e0, e1, Act.put, List.getElem_toArray, List.getElem_cons_succ, List.getElem_cons_zero, List.setIfInBounds_toArray, List.set_cons_zero, List.set_cons_succ]
  clear e0 e1 x
  refine wpAnyH_ready (rs := [6]) (by kernel_rfl) (by simp) ?_
  refine AllReadyH.cons (o := _) rfl (fun K hK => ?_) AllReadyH.nil
  have hz := HZ.out
  have z0 := cellOf hz 0
  have z1 := cellOf hz 1
  have z2 := cellOf hz 2
  have z3 := cellOf hz 3
  have z4 := cellOf hz 4
  have z5 := cellOf hz 5
  have z6 := cellOf hz 6
  have z7 := cellOf hz 7
  have z8 := cellOf hz 8
  have z9 := cellOf hz 9
  have zf0 := freeOf hz 0
  have zf1 := freeOf hz 1
  have zf2 := freeOf hz 2
  have zf3 := freeOf hz 3
  have zf4 := freeOf hz 4
  have zf5 := freeOf hz 5
  have zf6 := freeOf hz 6
  have zf7 := freeOf hz 7
  have zf8 := freeOf hz 8
  have zf9 := freeOf hz 9
  (try dsimp only at z0 z1 z2 z3 z4 z5 z6 z7 z8 z9)
  clear hz
  go_simp
  obtain ⟨w5, hw5⟩ : ∃ w5, w5 = setTen w' mb xm := ⟨_, rfl⟩
  dsimp only [setTen] at hw5
  rw [← hw5]
  have M5 := hid (show w5.heap[mb]? = some (.cells #[.int .i64 xm.st.e, .slice xm.st.a xm.st.n xm.st.c, .int .i64 xm.m, .slice xm.a xm.n xm.c, .int .i64 xm.b.k, .int .i64 xm.b.i, .int .i64 xm.b.s, .string xm.b.t, .slice xm.b.la xm.b.ll xm.b.lc, .slice xm.b.fa xm.b.fl xm.b.fc] 30) by rw [hw5]; exact setTen_heap HZ.out)
  have hS5 : Below w3.heap.size w3 w5 := by rw [hw5]; exact hS.trans (setTen_below (c := xm) w' mb w3.heap.size HMB.out)
  have R5 := hid (show IsRow stK (fun b => w3.heap.size ≤ b ∧ b < w5.heap.size ∧ b ≠ mb) w5 a4 n c4 (l.map (·.st)) by
    rw [hw5]; exact HR4.out.same fun b q => ⟨⟨q.1, by rw [setTen_size (c := xm)]; exact q.2.1, q.2.2⟩, setTen_other (c := xm) w' mb b q.2.2⟩)
  clear hw5
  clear z0 zf0 z1 zf1 z2 zf2 z3 zf3 z4 zf4 z5 zf5 z6 zf6 z7 zf7 z8 zf8 z9 zf9
  refine hK.out _ _ (hS5) (fun hS => ?_)
  clear hK K
  (try simp only [Act.put, List.getElem_toArray, List.getElem_cons_succ, List.getElem_cons_zero, List.setIfInBounds_toArray, List.set_cons_zero, List.set_cons_succ])
  refine wpAnyH_done (by kernel_rfl) ?_ _
  (try dsimp only)
  have hS := hS
  have HS5 := hid hS5
  clear hS hS5 HSTS HC3
  have H5 := hid (HB3.out.trans (HS5.out.mono HB3.out.size))
  have LAT : Hid (∀ w', Below w5.heap.size w5 w' → IsSt (· < w'.heap.size) w' xm.st d0.st ∧ IsRow stK (· < w'.heap.size) w' a4 n c4 (l.map (·.st)) ∧ IsMsgs (· < w'.heap.size) w' (some ⟨b, o, none⟩) n c l ∧ Below w.heap.size w w' ∧ IsMsg (· < w'.heap.size) w' xm d0) := hid fun w' h => by
    have hw := H5.out.trans (h.mono H5.out.size)
    have h1 : ∀ b, b < w.heap.size → b < w'.heap.size ∧ w'.heap[b]? = w.heap[b]? := fun b q => ⟨Nat.lt_of_lt_of_le q hw.size, hw.block b q⟩
    exact ⟨IXM.out.st.same h1, R5.out.same fun b q => ⟨Nat.lt_of_lt_of_le q.2.1 h.size, h.block b q.2.1⟩, HD.out.same h1, hw, IXM.out.same h1⟩
  have HC4 : Hid (∀ w', Below w5.heap.size w5 w' → w'.cell? ⟨mb, 0, none⟩ = some (.int .i64 xm.st.e) ∧ w'.cell? ⟨mb, 1, none⟩ = some (.slice xm.st.a xm.st.n xm.st.c) ∧ w'.cell? ⟨mb, 2, none⟩ = some (.int .i64 xm.m) ∧ w'.cell? ⟨mb, 3, none⟩ = some (.slice xm.a xm.n xm.c) ∧ w'.cell? ⟨mb, 4, none⟩ = some (.int .i64 xm.b.k) ∧ w'.cell? ⟨mb, 5, none⟩ = some (.int .i64 xm.b.i) ∧ w'.cell? ⟨mb, 6, none⟩ = some (.int .i64 xm.b.s) ∧ w'.cell? ⟨mb, 7, none⟩ = some (.string xm.b.t) ∧ w'.cell? ⟨mb, 8, none⟩ = some (.slice xm.b.la xm.b.ll xm.b.lc) ∧ w'.cell? ⟨mb, 9, none⟩ = some (.slice xm.b.fa xm.b.fl xm.b.fc)) := hid fun w' h => by
    have h1 := heapExt h M5.out
    exact ⟨cellOf h1 0, cellOf h1 1, cellOf h1 2, cellOf h1 3, cellOf h1 4, cellOf h1 5, cellOf h1 6, cellOf h1 7, cellOf h1 8, cellOf h1 9⟩
  obtain ⟨dA, hdA⟩ : ∃ f : Fate, f = ⟨d0.st, 1, nd, l.map (·.st), ByteArray.empty⟩ := ⟨_, rfl⟩
  obtain ⟨dB, hdB⟩ : ∃ f : Fate, f = ⟨d0.st, 3, nd, [], ByteArray.empty⟩ := ⟨_, rfl⟩
  obtain ⟨dC, hdC⟩ : ∃ f : Fate, f = ⟨d0.st, 4, nd, [], tx⟩ := ⟨_, rfl⟩
  have HRP : Hid (∀ w', Below w5.heap.size w5 w' → Calls Tryz.prog 23 #[.agg #[.int .i64 xm.st.e, .slice xm.st.a xm.st.n xm.st.c, .int .i64 xm.m, .slice xm.a xm.n xm.c, .int .i64 xm.b.k, .int .i64 xm.b.i, .int .i64 xm.b.s, .string xm.b.t, .slice xm.b.la xm.b.ll xm.b.lc, .slice xm.b.fa xm.b.fl xm.b.fc], .string nd, .slice a4 n c4] w' (FtPost w' dA)) := hid fun w' h => by rw [hdA]; exact replaced_call xm d0 nd a4 n c4 _ w' (LAT.out w' h).2.2.2.2 (LAT.out w' h).2.1
  have HDE : Hid (∀ w', Below w5.heap.size w5 w' → Calls Tryz.prog 24 #[.agg #[.int .i64 xm.st.e, .slice xm.st.a xm.st.n xm.st.c, .int .i64 xm.m, .slice xm.a xm.n xm.c, .int .i64 xm.b.k, .int .i64 xm.b.i, .int .i64 xm.b.s, .string xm.b.t, .slice xm.b.la xm.b.ll xm.b.lc, .slice xm.b.fa xm.b.fl xm.b.fc], .string nd] w' (FtPost w' dB)) := hid fun w' h => by rw [hdB]; exact delivered_call xm d0 nd w' (LAT.out w' h).2.2.2.2
  have HRJ : Hid (∀ w', Below w5.heap.size w5 w' → Calls Tryz.prog 25 #[.agg #[.int .i64 xm.st.e, .slice xm.st.a xm.st.n xm.st.c, .int .i64 xm.m, .slice xm.a xm.n xm.c, .int .i64 xm.b.k, .int .i64 xm.b.i, .int .i64 xm.b.s, .string xm.b.t, .slice xm.b.la xm.b.ll xm.b.lc, .slice xm.b.fa xm.b.fl xm.b.fc], .string nd, .string tx] w' (FtPost w' dC)) := hid fun w' h => by rw [hdC]; exact rejected_call xm d0 nd tx w' (LAT.out w' h).2.2.2.2
  have HDD := hid (And.intro hdA (And.intro hdB hdC))
  have hcA := trivial
  clear hw3 hdA hdB hdC
  go_upto_region 4 with (fail)
  refine wp_region_split 17 (fun w' => Below w5.heap.size w5 w') (by kernel_rfl) (by kernel_rfl) (by kernel_rfl) (by decide) ((Below.refl _ _).drew) (fun hS => ?_)
  simp only [List.take_succ_cons, List.take_zero, List.drop_succ_cons, List.drop_zero]
  refine wpAnyH_take (i := 0) (oi := _) (v := ?_) rfl (by kernel_rfl) (by kernel_rfl) (by kernel_rfl) (fun _ _ _ h => h) (Or.inl ⟨by rfl, ?_⟩) hS ?_
  rotate_left
  · intro w' hw'
    have hcells := HC4.out w' hw'
    go_simp
    (try with_reducible rfl)
  simp only [Act.put, List.getElem_toArray, List.getElem_cons_succ, List.getElem_cons_zero, List.setIfInBounds_toArray, List.set_cons_zero, List.set_cons_succ]
  refine wpAnyH_take (i := 1) (oi := _) (v := ?_) rfl (by kernel_rfl) (by kernel_rfl) (by kernel_rfl) (fun _ _ _ h => h) (Or.inl ⟨by rfl, ?_⟩) hS ?_
  rotate_left
  · intro w' hw'
    have hcells := HC4.out w' hw'
    go_simp
    (try with_reducible rfl)
  simp only [Act.put, List.getElem_toArray, List.getElem_cons_succ, List.getElem_cons_zero, List.setIfInBounds_toArray, List.set_cons_zero, List.set_cons_succ]
  refine wpAnyH_take (i := 2) (oi := _) (v := ?_) rfl (by kernel_rfl) (by kernel_rfl) (by kernel_rfl) (fun _ _ _ h => h) (Or.inl ⟨by rfl, ?_⟩) hS ?_
  rotate_left
  · intro w' hw'
    have hcells := HC4.out w' hw'
    go_simp
    (try with_reducible rfl)
  simp only [Act.put, List.getElem_toArray, List.getElem_cons_succ, List.getElem_cons_zero, List.setIfInBounds_toArray, List.set_cons_zero, List.set_cons_succ]
  refine wpAnyH_take (i := 4) (oi := _) (v := ?_) rfl (by kernel_rfl) (by kernel_rfl) (by kernel_rfl) (fun _ _ _ h => h) (Or.inl ⟨by rfl, ?_⟩) hS ?_
  rotate_left
  · intro w' hw'
    have hcells := HC4.out w' hw'
    go_simp
    (try with_reducible rfl)
  simp only [Act.put, List.getElem_toArray, List.getElem_cons_succ, List.getElem_cons_zero, List.setIfInBounds_toArray, List.set_cons_zero, List.set_cons_succ]
  refine wpAnyH_take (i := 5) (oi := _) (v := ?_) rfl (by kernel_rfl) (by kernel_rfl) (by kernel_rfl) (fun _ _ _ h => h) (Or.inl ⟨by rfl, ?_⟩) hS ?_
  rotate_left
  · intro w' hw'
    have hcells := HC4.out w' hw'
    go_simp
    (try with_reducible rfl)
  simp only [Act.put, List.getElem_toArray, List.getElem_cons_succ, List.getElem_cons_zero, List.setIfInBounds_toArray, List.set_cons_zero, List.set_cons_succ]
  refine wpAnyH_take (i := 7) (oi := _) (v := ?_) rfl (by kernel_rfl) (by kernel_rfl) (by kernel_rfl) (fun _ _ _ h => h) (Or.inl ⟨by rfl, ?_⟩) hS ?_
  rotate_left
  · intro w' hw'
    have hcells := HC4.out w' hw'
    go_simp
    (try with_reducible rfl)
  simp only [Act.put, List.getElem_toArray, List.getElem_cons_succ, List.getElem_cons_zero, List.setIfInBounds_toArray, List.set_cons_zero, List.set_cons_succ]
  refine wpAnyH_take (i := 8) (oi := _) (v := ?_) rfl (by kernel_rfl) (by kernel_rfl) (by kernel_rfl) (fun _ _ _ h => h) (Or.inl ⟨by rfl, ?_⟩) hS ?_
  rotate_left
  · intro w' hw'
    have hcells := HC4.out w' hw'
    go_simp
    (try with_reducible rfl)
  simp only [Act.put, List.getElem_toArray, List.getElem_cons_succ, List.getElem_cons_zero, List.setIfInBounds_toArray, List.set_cons_zero, List.set_cons_succ]
  refine wpAnyH_take (i := 9) (oi := _) (v := ?_) rfl (by kernel_rfl) (by kernel_rfl) (by kernel_rfl) (fun _ _ _ h => h) (Or.inl ⟨by rfl, ?_⟩) hS ?_
  rotate_left
  · intro w' hw'
    have hcells := HC4.out w' hw'
    go_simp
    (try with_reducible rfl)
  simp only [Act.put, List.getElem_toArray, List.getElem_cons_succ, List.getElem_cons_zero, List.setIfInBounds_toArray, List.set_cons_zero, List.set_cons_succ]
  refine wpAnyH_indep' [3, 6, 10, 11, 12, 13] [45, 48, 52, 9, 10, 11] (fun j v lo hi w' => match j with | 0 => FtP dA v lo hi w' | 1 => FtP dB v lo hi w' | 2 => FtP dC v lo hi w' | 3 => NewP (.cells #[.int .i64 0, .slice none 0 0, .int .i64 0, .string ⟨#[]⟩, .slice none 0 0, .string ⟨#[]⟩] 45) v lo hi w' | 4 => NewP (.cells #[.int .i64 0, .slice none 0 0, .int .i64 0, .string ⟨#[]⟩, .slice none 0 0, .string ⟨#[]⟩] 45) v lo hi w' | 5 => NewP (.cells #[.int .i64 0, .slice none 0 0, .int .i64 0, .string ⟨#[]⟩, .slice none 0 0, .string ⟨#[]⟩] 45) v lo hi w' | _ => False) w5.heap.size 5 3 #[true, true, true, true, true, true, true, true, true, true, true, true, true, true, false, false, false] (by kernel_rfl) rfl (by simp only [putAll, Act.put, List.getElem_toArray, List.getElem_cons_succ, List.getElem_cons_zero, List.setIfInBounds_toArray, List.set_cons_zero, List.set_cons_succ]) hS (Nat.le_refl _) ?stab ?hop ?fin
  case stab =>
    intro j v lo hi w1 w2 h hh hb
    match j, h with
    | 0, h => exact ftP_stab h hh hb
    | 1, h => exact ftP_stab h hh hb
    | 2, h => exact ftP_stab h hh hb
    | 3, h => exact newP_stab h hh hb
    | 4, h => exact newP_stab h hh hb
    | 5, h => exact newP_stab h hh hb
    | _ + 6, h => exact h.elim
  case hop =>
    intro j hj x w' K hS hN hK
    match j, hj, hK with
    | 0, _, hK =>
      refine indep_step (o := _) rfl hK (fun K' hK => ?_)
      simp only [putAll, Act.put, List.getElem_toArray, List.getElem_cons_succ, List.getElem_cons_zero, List.setIfInBounds_toArray, List.set_cons_zero, List.set_cons_succ]
      go_simp; go_at_call 23; refine (HRP.out _ hS).mono ?_
      rintro e w4 ⟨c6, rfl, hb4, hi4⟩
      simp only [putAll, upd, reduceIte, Act.put, List.getElem_toArray, List.getElem_cons_succ, List.getElem_cons_zero, List.setIfInBounds_toArray, List.set_cons_zero, List.set_cons_succ, Nat.reduceEqDiff, if_false, if_true] at hK
      exact hK.out _ _ (hS.trans (hb4.mono hS.size)) (hb4) (⟨c6, rfl, hi4⟩)
    | 1, _, hK =>
      refine indep_step (o := _) rfl hK (fun K' hK => ?_)
      simp only [putAll, Act.put, List.getElem_toArray, List.getElem_cons_succ, List.getElem_cons_zero, List.setIfInBounds_toArray, List.set_cons_zero, List.set_cons_succ]
      go_simp; go_at_call 24; refine (HDE.out _ hS).mono ?_
      rintro e w4 ⟨c6, rfl, hb4, hi4⟩
      simp only [putAll, upd, reduceIte, Act.put, List.getElem_toArray, List.getElem_cons_succ, List.getElem_cons_zero, List.setIfInBounds_toArray, List.set_cons_zero, List.set_cons_succ, Nat.reduceEqDiff, if_false, if_true] at hK
      exact hK.out _ _ (hS.trans (hb4.mono hS.size)) (hb4) (⟨c6, rfl, hi4⟩)
    | 2, _, hK =>
      refine indep_step (o := _) rfl hK (fun K' hK => ?_)
      simp only [putAll, Act.put, List.getElem_toArray, List.getElem_cons_succ, List.getElem_cons_zero, List.setIfInBounds_toArray, List.set_cons_zero, List.set_cons_succ]
      go_simp; go_at_call 25; refine (HRJ.out _ hS).mono ?_
      rintro e w4 ⟨c6, rfl, hb4, hi4⟩
      simp only [putAll, upd, reduceIte, Act.put, List.getElem_toArray, List.getElem_cons_succ, List.getElem_cons_zero, List.setIfInBounds_toArray, List.set_cons_zero, List.set_cons_succ, Nat.reduceEqDiff, if_false, if_true] at hK
      exact hK.out _ _ (hS.trans (hb4.mono hS.size)) (hb4) (⟨c6, rfl, hi4⟩)
    | 3, _, hK =>
      refine indep_step (o := _) rfl hK (fun K' hK => ?_)
      simp only [putAll, Act.put, List.getElem_toArray, List.getElem_cons_succ, List.getElem_cons_zero, List.setIfInBounds_toArray, List.set_cons_zero, List.set_cons_succ]
      go_simp
      simp only [putAll, upd, reduceIte, Act.put, List.getElem_toArray, List.getElem_cons_succ, List.getElem_cons_zero, List.setIfInBounds_toArray, List.set_cons_zero, List.set_cons_succ, Nat.reduceEqDiff, if_false, if_true] at hK
      exact hK.out _ _ (hS.trans ((((Below.refl _ _).alloc (Nat.le_refl _) _)).mono hS.size)) ((Below.refl _ _).alloc (Nat.le_refl _) _) (⟨rfl, by simp, heap_alloc_new _ _⟩)
    | 4, _, hK =>
      refine indep_step (o := _) rfl hK (fun K' hK => ?_)
      simp only [putAll, Act.put, List.getElem_toArray, List.getElem_cons_succ, List.getElem_cons_zero, List.setIfInBounds_toArray, List.set_cons_zero, List.set_cons_succ]
      go_simp
      simp only [putAll, upd, reduceIte, Act.put, List.getElem_toArray, List.getElem_cons_succ, List.getElem_cons_zero, List.setIfInBounds_toArray, List.set_cons_zero, List.set_cons_succ, Nat.reduceEqDiff, if_false, if_true] at hK
      exact hK.out _ _ (hS.trans ((((Below.refl _ _).alloc (Nat.le_refl _) _)).mono hS.size)) ((Below.refl _ _).alloc (Nat.le_refl _) _) (⟨rfl, by simp, heap_alloc_new _ _⟩)
    | 5, _, hK =>
      refine indep_step (o := _) rfl hK (fun K' hK => ?_)
      simp only [putAll, Act.put, List.getElem_toArray, List.getElem_cons_succ, List.getElem_cons_zero, List.setIfInBounds_toArray, List.set_cons_zero, List.set_cons_succ]
      go_simp
      simp only [putAll, upd, reduceIte, Act.put, List.getElem_toArray, List.getElem_cons_succ, List.getElem_cons_zero, List.setIfInBounds_toArray, List.set_cons_zero, List.set_cons_succ, Nat.reduceEqDiff, if_false, if_true] at hK
      exact hK.out _ _ (hS.trans ((((Below.refl _ _).alloc (Nat.le_refl _) _)).mono hS.size)) ((Below.refl _ _).alloc (Nat.le_refl _) _) (⟨rfl, by simp, heap_alloc_new _ _⟩)
    | n + 6, hj, _ => exact absurd hj (by simp)
  case fin =>
  intro x lo hi w' hS hfacts hdis
  obtain ⟨⟨ca, e0, hi0⟩, nl0, ll0, hl0⟩ := hfacts 0 (by decide)
  obtain ⟨⟨cb, e1, hi1⟩, nl1, ll1, hl1⟩ := hfacts 1 (by decide)
  obtain ⟨⟨cc, e2, hi2⟩, nl2, ll2, hl2⟩ := hfacts 2 (by decide)
  obtain ⟨⟨e3, lt3, hz3⟩, nl3, ll3, hl3⟩ := hfacts 3 (by decide)
  obtain ⟨ba, hba⟩ : ∃ b, b = lo 3 := ⟨_, rfl⟩
  rw [← hba] at e3 hz3
  have Zba := hid hz3
  have HNba := hid (show w5.heap.size ≤ ba by omega)
  obtain ⟨⟨e4, lt4, hz4⟩, nl4, ll4, hl4⟩ := hfacts 4 (by decide)
  obtain ⟨bb, hbb⟩ : ∃ b, b = lo 4 := ⟨_, rfl⟩
  rw [← hbb] at e4 hz4
  have Zbb := hid hz4
  have HNbb := hid (show w5.heap.size ≤ bb by omega)
  obtain ⟨⟨e5, lt5, hz5⟩, nl5, ll5, hl5⟩ := hfacts 5 (by decide)
  obtain ⟨bc, hbc⟩ : ∃ b, b = lo 5 := ⟨_, rfl⟩
  rw [← hbc] at e5 hz5
  have Zbc := hid hz5
  have HNbc := hid (show w5.heap.size ≤ bc by omega)
  have d03 := hdis 0 (by decide) 3 (by decide) (by decide)
  have d04 := hdis 0 (by decide) 4 (by decide) (by decide)
  have d05 := hdis 0 (by decide) 5 (by decide) (by decide)
  have d13 := hdis 1 (by decide) 3 (by decide) (by decide)
  have d14 := hdis 1 (by decide) 4 (by decide) (by decide)
  have d15 := hdis 1 (by decide) 5 (by decide) (by decide)
  have d23 := hdis 2 (by decide) 3 (by decide) (by decide)
  have d24 := hdis 2 (by decide) 4 (by decide) (by decide)
  have d25 := hdis 2 (by decide) 5 (by decide) (by decide)
  have d34 := hdis 3 (by decide) 4 (by decide) (by decide)
  have d35 := hdis 3 (by decide) 5 (by decide) (by decide)
  have d45 := hdis 4 (by decide) 5 (by decide) (by decide)
  have DD := hid (show (ba ≠ bb ∧ ba ≠ bc ∧ bb ≠ bc ∧ bb ≠ ba ∧ bc ≠ ba ∧ bc ≠ bb) ∧ ba < w'.heap.size ∧ bb < w'.heap.size ∧ bc < w'.heap.size from ⟨by omega, by omega, by omega, by omega⟩)
  have Ica := hid (hi0.same (S' := fun b => w5.heap.size ≤ b ∧ b < w'.heap.size ∧ b ≠ ba ∧ b ≠ bb ∧ b ≠ bc) fun b q => ⟨⟨by omega, by omega, by omega, by omega, by omega⟩, rfl⟩)
  have Icb := hid (hi1.same (S' := fun b => w5.heap.size ≤ b ∧ b < w'.heap.size ∧ b ≠ ba ∧ b ≠ bb ∧ b ≠ bc) fun b q => ⟨⟨by omega, by omega, by omega, by omega, by omega⟩, rfl⟩)
  have Icc := hid (hi2.same (S' := fun b => w5.heap.size ≤ b ∧ b < w'.heap.size ∧ b ≠ ba ∧ b ≠ bb ∧ b ≠ bc) fun b q => ⟨⟨by omega, by omega, by omega, by omega, by omega⟩, rfl⟩)
  clear hfacts hdis hi0 hi1 hi2 hz3 hz4 hz5 nl0 ll0 hl0 nl1 ll1 hl1 nl2 ll2 hl2 nl3 ll3 hl3 nl4 ll4 hl4 nl5 ll5 hl5 lt3 lt4 lt5 hba hbb hbc d03 d04 d05 d13 d14 d15 d23 d24 d25 d34 d35 d45
  simp only [putAll, e0, e1, e2, e3, e4, e5, Act.put, List.getElem_toArray, List.getElem_cons_succ, List.getElem_cons_zero, List.setIfInBounds_toArray, List.set_cons_zero, List.set_cons_succ]
  clear e0 e1 e2 e3 e4 e5 x
  refine wpAnyH_ready (rs := [14]) (by kernel_rfl) (by simp) ?_
  refine AllReadyH.cons (o := _) rfl (fun K hK => ?_) AllReadyH.nil
  have hz := Zba.out
  have z0 := cellOf hz 0
  have z1 := cellOf hz 1
  have z2 := cellOf hz 2
  have z3 := cellOf hz 3
  have z4 := cellOf hz 4
  have z5 := cellOf hz 5
  have zf0 := freeOf hz 0
  have zf1 := freeOf hz 1
  have zf2 := freeOf hz 2
  have zf3 := freeOf hz 3
  have zf4 := freeOf hz 4
  have zf5 := freeOf hz 5
  (try dsimp only at z0 z1 z2 z3 z4 z5)
  clear hz
  go_simp
  obtain ⟨w6, hw6⟩ : ∃ u, u = setFt w' ba ca := ⟨_, rfl⟩
  dsimp only [setFt] at hw6
  rw [← hw6]
  have Ow6 := hid (show ∀ b, b ≠ ba → w6.heap[b]? = w'.heap[b]? from fun b hb => by rw [hw6]; exact setFt_other (c := ca) w' ba b hb)
  have Bba := hid (show w6.heap[ba]? = some (.cells #[.int .i64 ca.st.e, .slice ca.st.a ca.st.n ca.st.c, .int .i64 ca.k, .string ca.node, .slice ca.a ca.n ca.c, .string ca.text] 45) by rw [hw6]; exact setFt_heap (c := ca) Zba.out)
  have SZw6 := hid (show w6.heap.size = w'.heap.size by rw [hw6]; exact setFt_size (c := ca) w' ba)
  have hSw6 : Below w5.heap.size w5 w6 := by rw [hw6]; exact hS.trans (setFt_below (c := ca) w' ba w5.heap.size HNba.out)
  clear hw6
  clear z0 zf0 z1 zf1 z2 zf2 z3 zf3 z4 zf4 z5 zf5
  have Zbb := hid ((Ow6.out _ (by have := DD.out; omega)).trans Zbb.out)
  have Zbc := hid ((Ow6.out _ (by have := DD.out; omega)).trans Zbc.out)
  refine hK.out _ _ (hSw6) (fun hS => ?_)
  clear hK K
  (try simp only [Act.put, List.getElem_toArray, List.getElem_cons_succ, List.getElem_cons_zero, List.setIfInBounds_toArray, List.set_cons_zero, List.set_cons_succ])
  refine wpAnyH_ready (rs := [15]) (by kernel_rfl) (by simp) ?_
  refine AllReadyH.cons (o := _) rfl (fun K hK => ?_) AllReadyH.nil
  have hz := Zbb.out
  have z0 := cellOf hz 0
  have z1 := cellOf hz 1
  have z2 := cellOf hz 2
  have z3 := cellOf hz 3
  have z4 := cellOf hz 4
  have z5 := cellOf hz 5
  have zf0 := freeOf hz 0
  have zf1 := freeOf hz 1
  have zf2 := freeOf hz 2
  have zf3 := freeOf hz 3
  have zf4 := freeOf hz 4
  have zf5 := freeOf hz 5
  (try dsimp only at z0 z1 z2 z3 z4 z5)
  clear hz
  go_simp
  obtain ⟨w7, hw7⟩ : ∃ u, u = setFt w6 bb cb := ⟨_, rfl⟩
  dsimp only [setFt] at hw7
  rw [← hw7]
  have Ow7 := hid (show ∀ b, b ≠ bb → w7.heap[b]? = w6.heap[b]? from fun b hb => by rw [hw7]; exact setFt_other (c := cb) w6 bb b hb)
  have Bbb := hid (show w7.heap[bb]? = some (.cells #[.int .i64 cb.st.e, .slice cb.st.a cb.st.n cb.st.c, .int .i64 cb.k, .string cb.node, .slice cb.a cb.n cb.c, .string cb.text] 45) by rw [hw7]; exact setFt_heap (c := cb) Zbb.out)
  have SZw7 := hid (show w7.heap.size = w6.heap.size by rw [hw7]; exact setFt_size (c := cb) w6 bb)
  have hSw7 : Below w5.heap.size w5 w7 := by rw [hw7]; exact hS.trans (setFt_below (c := cb) w6 bb w5.heap.size HNbb.out)
  clear hw7
  clear z0 zf0 z1 zf1 z2 zf2 z3 zf3 z4 zf4 z5 zf5
  have Bba := hid ((Ow7.out _ (by have := DD.out; omega)).trans Bba.out)
  have Zbc := hid ((Ow7.out _ (by have := DD.out; omega)).trans Zbc.out)
  refine hK.out _ _ (hSw7) (fun hS => ?_)
  clear hK K
  (try simp only [Act.put, List.getElem_toArray, List.getElem_cons_succ, List.getElem_cons_zero, List.setIfInBounds_toArray, List.set_cons_zero, List.set_cons_succ])
  refine wpAnyH_ready (rs := [16]) (by kernel_rfl) (by simp) ?_
  refine AllReadyH.cons (o := _) rfl (fun K hK => ?_) AllReadyH.nil
  have hz := Zbc.out
  have z0 := cellOf hz 0
  have z1 := cellOf hz 1
  have z2 := cellOf hz 2
  have z3 := cellOf hz 3
  have z4 := cellOf hz 4
  have z5 := cellOf hz 5
  have zf0 := freeOf hz 0
  have zf1 := freeOf hz 1
  have zf2 := freeOf hz 2
  have zf3 := freeOf hz 3
  have zf4 := freeOf hz 4
  have zf5 := freeOf hz 5
  (try dsimp only at z0 z1 z2 z3 z4 z5)
  clear hz
  go_simp
  obtain ⟨w8, hw8⟩ : ∃ u, u = setFt w7 bc cc := ⟨_, rfl⟩
  dsimp only [setFt] at hw8
  rw [← hw8]
  have Ow8 := hid (show ∀ b, b ≠ bc → w8.heap[b]? = w7.heap[b]? from fun b hb => by rw [hw8]; exact setFt_other (c := cc) w7 bc b hb)
  have Bbc := hid (show w8.heap[bc]? = some (.cells #[.int .i64 cc.st.e, .slice cc.st.a cc.st.n cc.st.c, .int .i64 cc.k, .string cc.node, .slice cc.a cc.n cc.c, .string cc.text] 45) by rw [hw8]; exact setFt_heap (c := cc) Zbc.out)
  have SZw8 := hid (show w8.heap.size = w7.heap.size by rw [hw8]; exact setFt_size (c := cc) w7 bc)
  have hSw8 : Below w5.heap.size w5 w8 := by rw [hw8]; exact hS.trans (setFt_below (c := cc) w7 bc w5.heap.size HNbc.out)
  clear hw8
  clear z0 zf0 z1 zf1 z2 zf2 z3 zf3 z4 zf4 z5 zf5
  have Bba := hid ((Ow8.out _ (by have := DD.out; omega)).trans Bba.out)
  have Bbb := hid ((Ow8.out _ (by have := DD.out; omega)).trans Bbb.out)
  refine hK.out _ _ (hSw8) (fun hS => ?_)
  clear hK K
  (try simp only [Act.put, List.getElem_toArray, List.getElem_cons_succ, List.getElem_cons_zero, List.setIfInBounds_toArray, List.set_cons_zero, List.set_cons_succ])
  refine wpAnyH_done (by kernel_rfl) ?_ _
  (try dsimp only)
  have hS8 := hS
  have HS8 := hid hS8
  clear hS hS8 hSw6 hSw7 hSw8 HRP HDE HRJ HC4
  have ICA := hid (Ica.out.same (S' := fun b => b < w8.heap.size) (w' := w8) fun b q => ⟨by have h1 := SZw6.out; have h2 := SZw7.out; have h3 := SZw8.out; omega, (Ow8.out b q.2.2.2.2).trans ((Ow7.out b q.2.2.2.1).trans (Ow6.out b q.2.2.1))⟩)
  have ICB := hid (Icb.out.same (S' := fun b => b < w8.heap.size) (w' := w8) fun b q => ⟨by have h1 := SZw6.out; have h2 := SZw7.out; have h3 := SZw8.out; omega, (Ow8.out b q.2.2.2.2).trans ((Ow7.out b q.2.2.2.1).trans (Ow6.out b q.2.2.1))⟩)
  have ICC := hid (Icc.out.same (S' := fun b => b < w8.heap.size) (w' := w8) fun b q => ⟨by have h1 := SZw6.out; have h2 := SZw7.out; have h3 := SZw8.out; omega, (Ow8.out b q.2.2.2.2).trans ((Ow7.out b q.2.2.2.1).trans (Ow6.out b q.2.2.1))⟩)
  have LAT8 : Hid (∀ w', Below w8.heap.size w8 w' → IsFt (· < w'.heap.size) w' ca dA ∧ IsFt (· < w'.heap.size) w' cb dB ∧ IsFt (· < w'.heap.size) w' cc dC ∧ IsSt (· < w'.heap.size) w' xm.st d0.st ∧ IsRow stK (· < w'.heap.size) w' a4 n c4 (l.map (·.st)) ∧ IsMsgs (· < w'.heap.size) w' (some ⟨b, o, none⟩) n c l ∧ Below w.heap.size w w') := hid fun w' h => by
    have h5 := HS8.out.trans (h.mono HS8.out.size)
    have h8 : ∀ b, b < w8.heap.size → b < w'.heap.size ∧ w'.heap[b]? = w8.heap[b]? := fun b q => ⟨Nat.lt_of_lt_of_le q h.size, h.block b q⟩
    have hl := LAT.out w' h5
    exact ⟨ICA.out.same h8, ICB.out.same h8, ICC.out.same h8, hl.1, hl.2.1, hl.2.2.1, hl.2.2.2.1⟩
  have HC8 : Hid (∀ w', Below w8.heap.size w8 w' → (w'.cell? ⟨mb, 0, none⟩ = some (.int .i64 xm.st.e) ∧ w'.cell? ⟨mb, 1, none⟩ = some (.slice xm.st.a xm.st.n xm.st.c) ∧ w'.cell? ⟨mb, 2, none⟩ = some (.int .i64 xm.m) ∧ w'.cell? ⟨mb, 3, none⟩ = some (.slice xm.a xm.n xm.c) ∧ w'.cell? ⟨mb, 4, none⟩ = some (.int .i64 xm.b.k) ∧ w'.cell? ⟨mb, 5, none⟩ = some (.int .i64 xm.b.i) ∧ w'.cell? ⟨mb, 6, none⟩ = some (.int .i64 xm.b.s) ∧ w'.cell? ⟨mb, 7, none⟩ = some (.string xm.b.t) ∧ w'.cell? ⟨mb, 8, none⟩ = some (.slice xm.b.la xm.b.ll xm.b.lc) ∧ w'.cell? ⟨mb, 9, none⟩ = some (.slice xm.b.fa xm.b.fl xm.b.fc)) ∧ (w'.cell? ⟨ba, 0, none⟩ = some (.int .i64 ca.st.e) ∧ w'.cell? ⟨ba, 1, none⟩ = some (.slice ca.st.a ca.st.n ca.st.c) ∧ w'.cell? ⟨ba, 2, none⟩ = some (.int .i64 ca.k) ∧ w'.cell? ⟨ba, 3, none⟩ = some (.string ca.node) ∧ w'.cell? ⟨ba, 4, none⟩ = some (.slice ca.a ca.n ca.c) ∧ w'.cell? ⟨ba, 5, none⟩ = some (.string ca.text)) ∧ (w'.cell? ⟨bb, 0, none⟩ = some (.int .i64 cb.st.e) ∧ w'.cell? ⟨bb, 1, none⟩ = some (.slice cb.st.a cb.st.n cb.st.c) ∧ w'.cell? ⟨bb, 2, none⟩ = some (.int .i64 cb.k) ∧ w'.cell? ⟨bb, 3, none⟩ = some (.string cb.node) ∧ w'.cell? ⟨bb, 4, none⟩ = some (.slice cb.a cb.n cb.c) ∧ w'.cell? ⟨bb, 5, none⟩ = some (.string cb.text)) ∧ (w'.cell? ⟨bc, 0, none⟩ = some (.int .i64 cc.st.e) ∧ w'.cell? ⟨bc, 1, none⟩ = some (.slice cc.st.a cc.st.n cc.st.c) ∧ w'.cell? ⟨bc, 2, none⟩ = some (.int .i64 cc.k) ∧ w'.cell? ⟨bc, 3, none⟩ = some (.string cc.node) ∧ w'.cell? ⟨bc, 4, none⟩ = some (.slice cc.a cc.n cc.c) ∧ w'.cell? ⟨bc, 5, none⟩ = some (.string cc.text))) := hid fun w' h => by
    have h1 := heapExt (HS8.out.trans (h.mono HS8.out.size)) M5.out
    have h2 := heapExt h Bba.out
    have h3 := heapExt h Bbb.out
    have h4 := heapExt h Bbc.out
    exact ⟨⟨cellOf h1 0, cellOf h1 1, cellOf h1 2, cellOf h1 3, cellOf h1 4, cellOf h1 5, cellOf h1 6, cellOf h1 7, cellOf h1 8, cellOf h1 9⟩, ⟨cellOf h2 0, cellOf h2 1, cellOf h2 2, cellOf h2 3, cellOf h2 4, cellOf h2 5⟩, ⟨cellOf h3 0, cellOf h3 1, cellOf h3 2, cellOf h3 3, cellOf h3 4, cellOf h3 5⟩, ⟨cellOf h4 0, cellOf h4 1, cellOf h4 2, cellOf h4 3, cellOf h4 4, cellOf h4 5⟩⟩
  have HSFa : Hid (∀ w', Below w8.heap.size w8 w' → Calls Tryz.prog 27 #[.agg #[.int .i64 ca.st.e, .slice ca.st.a ca.st.n ca.st.c, .int .i64 ca.k, .string ca.node, .slice ca.a ca.n ca.c, .string ca.text], .agg #[.int .i64 xm.st.e, .slice xm.st.a xm.st.n xm.st.c, .int .i64 1, .string nd, .slice a4 n c4, .string ⟨#[]⟩]] w' fun e w2 => e = .returned (.bool true) ∧ Below w'.heap.size w' w2) := hid fun w' h => by
    have h1 := LAT8.out w' h
    have q := sameFate_call ca (⟨xm.st, 1, nd, a4, n, c4, ⟨#[]⟩⟩ : FtC) dA dA w' h1.1 (by rw [HDD.out.1]; exact ⟨h1.2.2.2.1, rfl, rfl, h1.2.2.2.2.1, rfl⟩)
    rw [ftEqB_refl] at q
    exact q
  have HSFb : Hid (∀ w', Below w8.heap.size w8 w' → Calls Tryz.prog 27 #[.agg #[.int .i64 cb.st.e, .slice cb.st.a cb.st.n cb.st.c, .int .i64 cb.k, .string cb.node, .slice cb.a cb.n cb.c, .string cb.text], .agg #[.int .i64 xm.st.e, .slice xm.st.a xm.st.n xm.st.c, .int .i64 3, .string nd, .slice none 0 0, .string ⟨#[]⟩]] w' fun e w2 => e = .returned (.bool true) ∧ Below w'.heap.size w' w2) := hid fun w' h => by
    have h1 := LAT8.out w' h
    have q := sameFate_call cb (⟨xm.st, 3, nd, none, 0, 0, ⟨#[]⟩⟩ : FtC) dB dB w' h1.2.1 (by rw [HDD.out.2.1]; exact ⟨h1.2.2.2.1, rfl, rfl, row_nil _ _, rfl⟩)
    rw [ftEqB_refl] at q
    exact q
  have HSFc : Hid (∀ w', Below w8.heap.size w8 w' → Calls Tryz.prog 27 #[.agg #[.int .i64 cc.st.e, .slice cc.st.a cc.st.n cc.st.c, .int .i64 cc.k, .string cc.node, .slice cc.a cc.n cc.c, .string cc.text], .agg #[.int .i64 xm.st.e, .slice xm.st.a xm.st.n xm.st.c, .int .i64 4, .string nd, .slice none 0 0, .string tx]] w' fun e w2 => e = .returned (.bool true) ∧ Below w'.heap.size w' w2) := hid fun w' h => by
    have h1 := LAT8.out w' h
    have q := sameFate_call cc (⟨xm.st, 4, nd, none, 0, 0, tx⟩ : FtC) dC dC w' h1.2.2.1 (by rw [HDD.out.2.2]; exact ⟨h1.2.2.2.1, rfl, rfl, row_nil _ _, rfl⟩)
    rw [ftEqB_refl] at q
    exact q
  have HMG : Hid (Calls Tryz.prog 26 #[.slice (some ⟨b, o, none⟩) n c, .string nd, .agg #[.int .i64 xm.st.e, .slice xm.st.a xm.st.n xm.st.c]] w8 (FtsPost w8 n (l.map (mrgF nd d0.st)))) := hid (merged_call _ n c l nd xm.st d0.st w8 (LAT8.out w8 (Below.refl _ _)).2.2.2.2.2.1 (LAT8.out w8 (Below.refl _ _)).2.2.2.1)
  have hc8 := HC8.out _ (Below.refl _ _)
  obtain ⟨⟨m0, m1, m2, m3, m4, m5, m6, m7, m8, m9⟩, ⟨p0, p1, p2, p3, p4, p5⟩, ⟨q0, q1, q2, q3, q4, q5⟩, ⟨r0, r1, r2, r3, r4, r5⟩⟩ := hc8
  clear ICA ICB ICC Ica Icb Icc Ow6 Ow7 Ow8 SZw6 SZw7 SZw8 Bba Bbb Bbc DD HNba HNbb HNbc Zba Zbb Zbc hcA
  go_wp2_with (first
      | (go_at_call 27; refine (HSFc.out _ hb12).mono ?_; rintro e w13 ⟨rfl, hb13'⟩; have hb13 := hb12.trans (hb13'.mono hb12.size); clear m0 m1 m2 m3 m4 m5 m6 m7 m8 m9 p0 p1 p2 p3 p4 p5 q0 q1 q2 q3 q4 q5 r0 r1 r2 r3 r4 r5; have hc8 := HC8.out _ hb13; obtain ⟨⟨m0, m1, m2, m3, m4, m5, m6, m7, m8, m9⟩, ⟨p0, p1, p2, p3, p4, p5⟩, ⟨q0, q1, q2, q3, q4, q5⟩, ⟨r0, r1, r2, r3, r4, r5⟩⟩ := hc8)
      | (go_at_call 27; refine (HSFb.out _ hb11).mono ?_; rintro e w12 ⟨rfl, hb12'⟩; have hb12 := hb11.trans (hb12'.mono hb11.size); clear m0 m1 m2 m3 m4 m5 m6 m7 m8 m9 p0 p1 p2 p3 p4 p5 q0 q1 q2 q3 q4 q5 r0 r1 r2 r3 r4 r5; have hc8 := HC8.out _ hb12; obtain ⟨⟨m0, m1, m2, m3, m4, m5, m6, m7, m8, m9⟩, ⟨p0, p1, p2, p3, p4, p5⟩, ⟨q0, q1, q2, q3, q4, q5⟩, ⟨r0, r1, r2, r3, r4, r5⟩⟩ := hc8)
      | (go_at_call 27; refine (HSFa.out _ hb10).mono ?_; rintro e w11 ⟨rfl, hb11'⟩; have hb11 := hb10.trans (hb11'.mono hb10.size); clear m0 m1 m2 m3 m4 m5 m6 m7 m8 m9 p0 p1 p2 p3 p4 p5 q0 q1 q2 q3 q4 q5 r0 r1 r2 r3 r4 r5; have hc8 := HC8.out _ hb11; obtain ⟨⟨m0, m1, m2, m3, m4, m5, m6, m7, m8, m9⟩, ⟨p0, p1, p2, p3, p4, p5⟩, ⟨q0, q1, q2, q3, q4, q5⟩, ⟨r0, r1, r2, r3, r4, r5⟩⟩ := hc8)
      | (go_at_call 26; refine HMG.out.mono ?_; rintro e w10 ⟨a10, c10, rfl, hb10, hr10⟩; have HR10 := hid hr10; clear m0 m1 m2 m3 m4 m5 m6 m7 m8 m9 p0 p1 p2 p3 p4 p5 q0 q1 q2 q3 q4 q5 r0 r1 r2 r3 r4 r5; have hc8 := HC8.out _ hb10; obtain ⟨⟨m0, m1, m2, m3, m4, m5, m6, m7, m8, m9⟩, ⟨p0, p1, p2, p3, p4, p5⟩, ⟨q0, q1, q2, q3, q4, q5⟩, ⟨r0, r1, r2, r3, r4, r5⟩⟩ := hc8))
  have HB13 := hid hb13
  have HB10 := hid (show Below w10.heap.size w10 w13 from ((hb11'.trans (hb12'.mono hb11'.size)).trans (hb13'.mono (Nat.le_trans hb11'.size hb12'.size))))
  clear m0 m1 m2 m3 m4 m5 m6 m7 m8 m9 p0 p1 p2 p3 p4 p5 q0 q1 q2 q3 q4 q5 r0 r1 r2 r3 r4 r5
  clear hb10 hb11' hb12' hb13' hb11 hb12 hb13 HSFa HSFb HSFc HMG
  go_loopw [13] (fun iv wr => ∃ i : Nat, i ≤ n ∧ iv = .int .i64 i ∧ Below w13.heap.size w13 wr) (fun iv _ => n - (intOf iv).toNat)
  case atStart => exact ⟨0, Nat.zero_le _, rfl, Below.refl _ _⟩
  case round =>
    obtain ⟨i, hin, rfl, hbl⟩ := hrel
    obtain ⟨wp, rfl⟩ : ∃ u : World, u = wr := ⟨_, rfl⟩
    have hb8 : Below w8.heap.size w8 wp := HB13.out.trans (hbl.mono HB13.out.size)
    have HB8 := hid hb8
    have HBL := hid hbl
    by_cases hlt : i < n
    · have hlt' : (i : Int) < (n : Int) := by omega
      have hi0 : (0 : Int) ≤ (i : Int) := by omega
      have hn0 : (0 : Int) < (n : Int) := by omega
      have hn63 : (n : Int) ≤ 9223372036854775807 := by omega
      have hlen : (l.map (mrgF nd d0.st)).length = n := by rw [List.length_map]; exact HL.out.symm
      obtain ⟨bd, od, rfl, hbd, hx⟩ := HR10.out.slot (show 0 < n by omega)
      obtain ⟨ci, hci, ici⟩ := hx i (by omega)
      obtain ⟨cz, hcz, icz⟩ := hx 0 (by omega)
      rw [Nat.zero_mul, Nat.add_zero] at hcz
      obtain ⟨xi, hxi, ixi⟩ := HXL.out i (by have := HL.out; omega)
      clear hx
      have hb10w : ∀ w', Below wp.heap.size wp w' → Below w10.heap.size w10 w' := fun w' h => (HB10.out.trans (hbl.mono HB10.out.size)).trans (h.mono (Nat.le_trans HB10.out.size hbl.size))
      have h8w : ∀ w', Below wp.heap.size wp w' → Below w8.heap.size w8 w' := fun w' h => hb8.trans (h.mono hb8.size)
      obtain ⟨u, hu⟩ : ∃ u, u = ftEqB ((l.map (mrgF nd d0.st))[i]'(by omega)) ((l.map (mrgF nd d0.st))[0]'(by omega)) := ⟨_, rfl⟩
      obtain ⟨oi, hoi⟩ : ∃ oi, od + i * 6 = oi := ⟨_, rfl⟩
      have HC11 : Hid (∀ w', Below wp.heap.size wp w' → w'.cell? ⟨bd, oi, none⟩ = some (.int .i64 ci.st.e) ∧ w'.cell? ⟨bd, oi + 1, none⟩ = some (.slice ci.st.a ci.st.n ci.st.c) ∧ w'.cell? ⟨bd, oi + 2, none⟩ = some (.int .i64 ci.k) ∧ w'.cell? ⟨bd, oi + 3, none⟩ = some (.string ci.node) ∧ w'.cell? ⟨bd, oi + 4, none⟩ = some (.slice ci.a ci.n ci.c) ∧ w'.cell? ⟨bd, oi + 5, none⟩ = some (.string ci.text) ∧ w'.cell? ⟨bd, od, none⟩ = some (.int .i64 cz.st.e) ∧ w'.cell? ⟨bd, od + 1, none⟩ = some (.slice cz.st.a cz.st.n cz.st.c) ∧ w'.cell? ⟨bd, od + 2, none⟩ = some (.int .i64 cz.k) ∧ w'.cell? ⟨bd, od + 3, none⟩ = some (.string cz.node) ∧ w'.cell? ⟨bd, od + 4, none⟩ = some (.slice cz.a cz.n cz.c) ∧ w'.cell? ⟨bd, od + 5, none⟩ = some (.string cz.text) ∧ w'.cell? ⟨b, o + i * 10, none⟩ = some (.int .i64 xi.st.e) ∧ w'.cell? ⟨b, o + i * 10 + 1, none⟩ = some (.slice xi.st.a xi.st.n xi.st.c) ∧ w'.cell? ⟨mb, 0, none⟩ = some (.int .i64 xm.st.e) ∧ w'.cell? ⟨mb, 1, none⟩ = some (.slice xm.st.a xm.st.n xm.st.c)) := hid fun w' h => by
        have h1 := (hci.same ((hb10w w' h).block bd hbd.2)).six
        have h2 := (hcz.same ((hb10w w' h).block bd hbd.2)).six
        have h3 := hxi.same ((LAT8.out w' (h8w w' h)).2.2.2.2.2.2.block b HB.out)
        have h4 := (HC8.out w' (h8w w' h)).1
        dsimp only at h1
        rw [hoi] at h1
        obtain ⟨i0, i1, i2, i3, i4, i5⟩ := h1
        obtain ⟨k0, k1, k2, k3, k4, k5⟩ := h2
        exact ⟨i0, i1, i2, i3, i4, i5, k0, k1, k2, k3, k4, k5, h3.e, h3.p, h4.1, h4.2.1⟩
      have hft : ∀ w', Below wp.heap.size wp w' → IsFt (· < w'.heap.size) w' ci ((l.map (mrgF nd d0.st))[i]'(by omega)) ∧ IsFt (· < w'.heap.size) w' cz ((l.map (mrgF nd d0.st))[0]'(by omega)) := fun w' h => by
        have h1 := hb10w w' h
        exact ⟨ici.same fun b q => ⟨by have := h1.size; omega, h1.block b q.2⟩, icz.same fun b q => ⟨by have := h1.size; omega, h1.block b q.2⟩⟩
      have HEI : Hid (∀ w', Below wp.heap.size wp w' → Calls Tryz.prog 28 #[.agg #[.int .i64 ci.st.e, .slice ci.st.a ci.st.n ci.st.c, .int .i64 ci.k, .string ci.node, .slice ci.a ci.n ci.c, .string ci.text], .agg #[.int .i64 cz.st.e, .slice cz.st.a cz.st.n cz.st.c, .int .i64 cz.k, .string cz.node, .slice cz.a cz.n cz.c, .string cz.text]] w' fun e w2 => e = .returned (.bool u) ∧ Below w'.heap.size w' w2) := hid fun w' h => by rw [hu]; exact equalFate_call ci cz _ _ w' (hft w' h).1 (hft w' h).2
      have HSI : Hid (∀ w', Below wp.heap.size wp w' → Calls Tryz.prog 27 #[.agg #[.int .i64 ci.st.e, .slice ci.st.a ci.st.n ci.st.c, .int .i64 ci.k, .string ci.node, .slice ci.a ci.n ci.c, .string ci.text], .agg #[.int .i64 cz.st.e, .slice cz.st.a cz.st.n cz.st.c, .int .i64 cz.k, .string cz.node, .slice cz.a cz.n cz.c, .string cz.text]] w' fun e w2 => e = .returned (.bool u) ∧ Below w'.heap.size w' w2) := hid fun w' h => by rw [hu]; exact sameFate_call ci cz _ _ w' (hft w' h).1 (hft w' h).2
      have HW : Hid (∀ w', Below wp.heap.size wp w' → w'.heap[wp.heap.size]? = some (.cells #[.int .i64 xm.st.e, .slice xm.st.a xm.st.n xm.st.c] 24) → Calls Tryz.prog 27 #[.agg #[.int .i64 ci.st.e, .slice ci.st.a ci.st.n ci.st.c, .int .i64 ci.k, .string ci.node, .slice ci.a ci.n ci.c, .string ci.text], .agg #[.int .i64 xi.st.e, .slice xi.st.a xi.st.n xi.st.c, .int .i64 2, .string nd, .slice (some ⟨wp.heap.size, 0, none⟩) 1 1, .string ⟨#[]⟩]] w' fun e w2 => e = .returned (.bool true) ∧ Below w'.heap.size w' w2) := hid fun w' h hs => by
        have h8 := LAT8.out w' (h8w w' h)
        have q := sameFate_call ci ⟨xi.st, 2, nd, some ⟨wp.heap.size, 0, none⟩, 1, 1, ⟨#[]⟩⟩ ((l.map (mrgF nd d0.st))[i]'(by omega)) ((l.map (mrgF nd d0.st))[i]'(by omega)) w' (hft w' h).1 (by
          rw [List.getElem_map]
          exact ⟨ixi.st.same fun b q => ⟨by have := h8.2.2.2.2.2.2.size; omega, h8.2.2.2.2.2.2.block b q⟩, rfl, rfl, row_one hs h8.2.2.2.1 (ltOf hs), rfl⟩)
        rw [ftEqB_refl] at q
        exact q
      clear hbl hb8 hb10w h8w hu hci hcz hxi ici icz ixi hft hbd
      go_upto_region 11 with (fail)
      refine wp_region_split 35 (fun w' => Below wp.heap.size wp w') (by kernel_rfl) (by kernel_rfl) (by kernel_rfl) (by decide) ((Below.refl _ _).drew) (fun hS => ?_)
      simp only [List.take_succ_cons, List.take_zero, List.drop_succ_cons, List.drop_zero]
      refine wpAnyH_take (i := 0) (oi := _) (v := ?_) rfl (by kernel_rfl) (by kernel_rfl) (by kernel_rfl) (fun _ _ _ h => h) (Or.inl ⟨by kernel_rfl, ?_⟩) hS ?_
      rotate_left
      · intro w' hw'
        have hcells := HC11.out w' hw'
        go_simp
        (try with_reducible rfl)
      simp only [Act.put, List.getElem_toArray, List.getElem_cons_succ, List.getElem_cons_zero, List.setIfInBounds_toArray, List.set_cons_zero, List.set_cons_succ]
      refine wpAnyH_take (i := 1) (oi := _) (v := ?_) rfl (by kernel_rfl) (by kernel_rfl) (by kernel_rfl) (fun _ _ _ h => h) (Or.inl ⟨by kernel_rfl, ?_⟩) hS ?_
      rotate_left
      · intro w' hw'
        have hcells := HC11.out w' hw'
        go_simp
        (try with_reducible rfl)
      simp only [Act.put, List.getElem_toArray, List.getElem_cons_succ, List.getElem_cons_zero, List.setIfInBounds_toArray, List.set_cons_zero, List.set_cons_succ]
      refine wpAnyH_take (i := 2) (oi := _) (v := ?_) rfl (by kernel_rfl) (by kernel_rfl) (by kernel_rfl) (fun _ _ _ h => h) (Or.inl ⟨by kernel_rfl, ?_⟩) hS ?_
      rotate_left
      · intro w' hw'
        have hcells := HC11.out w' hw'
        go_simp
        (try with_reducible rfl)
      simp only [Act.put, List.getElem_toArray, List.getElem_cons_succ, List.getElem_cons_zero, List.setIfInBounds_toArray, List.set_cons_zero, List.set_cons_succ]
      refine wpAnyH_take (i := 3) (oi := _) (v := ?_) rfl (by kernel_rfl) (by kernel_rfl) (by kernel_rfl) (fun _ _ _ h => h) (Or.inl ⟨by kernel_rfl, ?_⟩) hS ?_
      rotate_left
      · intro w' hw'
        have hcells := HC11.out w' hw'
        go_simp
        (try with_reducible rfl)
      simp only [Act.put, List.getElem_toArray, List.getElem_cons_succ, List.getElem_cons_zero, List.setIfInBounds_toArray, List.set_cons_zero, List.set_cons_succ]
      refine wpAnyH_take (i := 4) (oi := _) (v := ?_) rfl (by kernel_rfl) (by kernel_rfl) (by kernel_rfl) (fun _ _ _ h => h) (Or.inl ⟨by kernel_rfl, ?_⟩) hS ?_
      rotate_left
      · intro w' hw'
        have hcells := HC11.out w' hw'
        go_simp
        (try with_reducible rfl)
      simp only [Act.put, List.getElem_toArray, List.getElem_cons_succ, List.getElem_cons_zero, List.setIfInBounds_toArray, List.set_cons_zero, List.set_cons_succ]
      refine wpAnyH_take (i := 5) (oi := _) (v := ?_) rfl (by kernel_rfl) (by kernel_rfl) (by kernel_rfl) (fun _ _ _ h => h) (Or.inl ⟨by kernel_rfl, ?_⟩) hS ?_
      rotate_left
      · intro w' hw'
        have hcells := HC11.out w' hw'
        go_simp
        (try with_reducible rfl)
      simp only [Act.put, List.getElem_toArray, List.getElem_cons_succ, List.getElem_cons_zero, List.setIfInBounds_toArray, List.set_cons_zero, List.set_cons_succ]
      refine wpAnyH_take (i := 6) (oi := _) (v := ?_) rfl (by kernel_rfl) (by kernel_rfl) (by kernel_rfl) (fun _ _ _ h => h) (Or.inl ⟨by kernel_rfl, ?_⟩) hS ?_
      rotate_left
      · intro w' hw'
        have hcells := HC11.out w' hw'
        go_simp
        (try with_reducible rfl)
      simp only [Act.put, List.getElem_toArray, List.getElem_cons_succ, List.getElem_cons_zero, List.setIfInBounds_toArray, List.set_cons_zero, List.set_cons_succ]
      refine wpAnyH_take (i := 7) (oi := _) (v := ?_) rfl (by kernel_rfl) (by kernel_rfl) (by kernel_rfl) (fun _ _ _ h => h) (Or.inl ⟨by kernel_rfl, ?_⟩) hS ?_
      rotate_left
      · intro w' hw'
        have hcells := HC11.out w' hw'
        go_simp
        (try with_reducible rfl)
      simp only [Act.put, List.getElem_toArray, List.getElem_cons_succ, List.getElem_cons_zero, List.setIfInBounds_toArray, List.set_cons_zero, List.set_cons_succ]
      refine wpAnyH_take (i := 8) (oi := _) (v := ?_) rfl (by kernel_rfl) (by kernel_rfl) (by kernel_rfl) (fun _ _ _ h => h) (Or.inl ⟨by kernel_rfl, ?_⟩) hS ?_
      rotate_left
      · intro w' hw'
        have hcells := HC11.out w' hw'
        go_simp
        (try with_reducible rfl)
      simp only [Act.put, List.getElem_toArray, List.getElem_cons_succ, List.getElem_cons_zero, List.setIfInBounds_toArray, List.set_cons_zero, List.set_cons_succ]
      refine wpAnyH_take (i := 9) (oi := _) (v := ?_) rfl (by kernel_rfl) (by kernel_rfl) (by kernel_rfl) (fun _ _ _ h => h) (Or.inl ⟨by kernel_rfl, ?_⟩) hS ?_
      rotate_left
      · intro w' hw'
        have hcells := HC11.out w' hw'
        go_simp
        (try with_reducible rfl)
      simp only [Act.put, List.getElem_toArray, List.getElem_cons_succ, List.getElem_cons_zero, List.setIfInBounds_toArray, List.set_cons_zero, List.set_cons_succ]
      refine wpAnyH_take (i := 10) (oi := _) (v := ?_) rfl (by kernel_rfl) (by kernel_rfl) (by kernel_rfl) (fun _ _ _ h => h) (Or.inl ⟨by kernel_rfl, ?_⟩) hS ?_
      rotate_left
      · intro w' hw'
        have hcells := HC11.out w' hw'
        go_simp
        (try with_reducible rfl)
      simp only [Act.put, List.getElem_toArray, List.getElem_cons_succ, List.getElem_cons_zero, List.setIfInBounds_toArray, List.set_cons_zero, List.set_cons_succ]
      refine wpAnyH_take (i := 11) (oi := _) (v := ?_) rfl (by kernel_rfl) (by kernel_rfl) (by kernel_rfl) (fun _ _ _ h => h) (Or.inl ⟨by kernel_rfl, ?_⟩) hS ?_
      rotate_left
      · intro w' hw'
        have hcells := HC11.out w' hw'
        go_simp
        (try with_reducible rfl)
      simp only [Act.put, List.getElem_toArray, List.getElem_cons_succ, List.getElem_cons_zero, List.setIfInBounds_toArray, List.set_cons_zero, List.set_cons_succ]
      refine wpAnyH_ready (rs := [12]) (by kernel_rfl) (by simp) ?_
      refine AllReadyH.cons (o := _) rfl (fun K hK => ?_) AllReadyH.nil
      go_simp
      refine hK.out _ _ (hS.trans ((((Below.refl _ _).alloc (Nat.le_refl _) _)).mono hS.size)) (fun hS => ?_)
      clear hK K
      (try simp only [Act.put, List.getElem_toArray, List.getElem_cons_succ, List.getElem_cons_zero, List.setIfInBounds_toArray, List.set_cons_zero, List.set_cons_succ])
      refine wpAnyH_take (i := 13) (oi := _) (v := ?_) rfl (by kernel_rfl) (by kernel_rfl) (by kernel_rfl) (fun _ _ _ h => h) (Or.inl ⟨by kernel_rfl, ?_⟩) hS ?_
      rotate_left
      · intro w' hw'
        have hcells := HC11.out w' hw'
        go_simp
        (try with_reducible rfl)
      simp only [Act.put, List.getElem_toArray, List.getElem_cons_succ, List.getElem_cons_zero, List.setIfInBounds_toArray, List.set_cons_zero, List.set_cons_succ]
      refine wpAnyH_ready (rs := [14]) (by kernel_rfl) (by simp) ?_
      refine AllReadyH.cons (o := _) rfl (fun K hK => ?_) AllReadyH.nil
      generalize hw5 : World.drew (World.alloc _ _) = w15 at hS ⊢
      have o0 : w15.heap[wp.heap.size]? = some (.cells #[.int .i64 xm.st.e, .slice xm.st.a xm.st.n xm.st.c] 24) := by rw [← hw5]; exact heap_alloc_new _ _
      clear hw5
      have HX := hid (HW.out w15 hS o0)
      clear o0
      go_simp; go_at_call 27; refine HX.out.mono ?_
      rintro e w16 ⟨rfl, hb16⟩
      clear HX
      refine hK.out _ _ (hS.trans (hb16.mono hS.size)) (fun hS => ?_)
      clear hK K
      (try simp only [Act.put, List.getElem_toArray, List.getElem_cons_succ, List.getElem_cons_zero, List.setIfInBounds_toArray, List.set_cons_zero, List.set_cons_succ])
      refine wpAnyH_take (i := 15) (oi := _) (v := ?_) rfl (by kernel_rfl) (by kernel_rfl) (by kernel_rfl) (fun _ _ _ h => h) (Or.inl ⟨by kernel_rfl, ?_⟩) hS ?_
      rotate_left
      · intro w' hw'
        have hcells := HC11.out w' hw'
        go_simp
        (try with_reducible rfl)
      simp only [Act.put, List.getElem_toArray, List.getElem_cons_succ, List.getElem_cons_zero, List.setIfInBounds_toArray, List.set_cons_zero, List.set_cons_succ]
      refine wpAnyH_take (i := 16) (oi := _) (v := ?_) rfl (by kernel_rfl) (by kernel_rfl) (by kernel_rfl) (fun _ _ _ h => h) (Or.inl ⟨by kernel_rfl, ?_⟩) hS ?_
      rotate_left
      · intro w' hw'
        have hcells := HC11.out w' hw'
        go_simp
        (try with_reducible rfl)
      simp only [Act.put, List.getElem_toArray, List.getElem_cons_succ, List.getElem_cons_zero, List.setIfInBounds_toArray, List.set_cons_zero, List.set_cons_succ]
      refine wpAnyH_take (i := 17) (oi := _) (v := ?_) rfl (by kernel_rfl) (by kernel_rfl) (by kernel_rfl) (fun _ _ _ h => h) (Or.inl ⟨by kernel_rfl, ?_⟩) hS ?_
      rotate_left
      · intro w' hw'
        have hcells := HC11.out w' hw'
        go_simp
        (try with_reducible rfl)
      simp only [Act.put, List.getElem_toArray, List.getElem_cons_succ, List.getElem_cons_zero, List.setIfInBounds_toArray, List.set_cons_zero, List.set_cons_succ]
      refine wpAnyH_take (i := 18) (oi := _) (v := ?_) rfl (by kernel_rfl) (by kernel_rfl) (by kernel_rfl) (fun _ _ _ h => h) (Or.inl ⟨by kernel_rfl, ?_⟩) hS ?_
      rotate_left
      · intro w' hw'
        have hcells := HC11.out w' hw'
        go_simp
        (try with_reducible rfl)
      simp only [Act.put, List.getElem_toArray, List.getElem_cons_succ, List.getElem_cons_zero, List.setIfInBounds_toArray, List.set_cons_zero, List.set_cons_succ]
      refine wpAnyH_take (i := 19) (oi := _) (v := ?_) rfl (by kernel_rfl) (by kernel_rfl) (by kernel_rfl) (fun _ _ _ h => h) (Or.inl ⟨by kernel_rfl, ?_⟩) hS ?_
      rotate_left
      · intro w' hw'
        have hcells := HC11.out w' hw'
        go_simp
        (try with_reducible rfl)
      simp only [Act.put, List.getElem_toArray, List.getElem_cons_succ, List.getElem_cons_zero, List.setIfInBounds_toArray, List.set_cons_zero, List.set_cons_succ]
      refine wpAnyH_take (i := 20) (oi := _) (v := ?_) rfl (by kernel_rfl) (by kernel_rfl) (by kernel_rfl) (fun _ _ _ h => h) (Or.inl ⟨by kernel_rfl, ?_⟩) hS ?_
      rotate_left
      · intro w' hw'
        have hcells := HC11.out w' hw'
        go_simp
        (try with_reducible rfl)
      simp only [Act.put, List.getElem_toArray, List.getElem_cons_succ, List.getElem_cons_zero, List.setIfInBounds_toArray, List.set_cons_zero, List.set_cons_succ]
      refine wpAnyH_take (i := 21) (oi := _) (v := ?_) rfl (by kernel_rfl) (by kernel_rfl) (by kernel_rfl) (fun _ _ _ h => h) (Or.inl ⟨by kernel_rfl, ?_⟩) hS ?_
      rotate_left
      · intro w' hw'
        have hcells := HC11.out w' hw'
        go_simp
        (try with_reducible rfl)
      simp only [Act.put, List.getElem_toArray, List.getElem_cons_succ, List.getElem_cons_zero, List.setIfInBounds_toArray, List.set_cons_zero, List.set_cons_succ]
      refine wpAnyH_take (i := 22) (oi := _) (v := ?_) rfl (by kernel_rfl) (by kernel_rfl) (by kernel_rfl) (fun _ _ _ h => h) (Or.inl ⟨by kernel_rfl, ?_⟩) hS ?_
      rotate_left
      · intro w' hw'
        have hcells := HC11.out w' hw'
        go_simp
        (try with_reducible rfl)
      simp only [Act.put, List.getElem_toArray, List.getElem_cons_succ, List.getElem_cons_zero, List.setIfInBounds_toArray, List.set_cons_zero, List.set_cons_succ]
      refine wpAnyH_take (i := 23) (oi := _) (v := ?_) rfl (by kernel_rfl) (by kernel_rfl) (by kernel_rfl) (fun _ _ _ h => h) (Or.inl ⟨by kernel_rfl, ?_⟩) hS ?_
      rotate_left
      · intro w' hw'
        have hcells := HC11.out w' hw'
        go_simp
        (try with_reducible rfl)
      simp only [Act.put, List.getElem_toArray, List.getElem_cons_succ, List.getElem_cons_zero, List.setIfInBounds_toArray, List.set_cons_zero, List.set_cons_succ]
      refine wpAnyH_take (i := 25) (oi := _) (v := ?_) rfl (by kernel_rfl) (by kernel_rfl) (by kernel_rfl) (fun _ _ _ h => h) (Or.inl ⟨by kernel_rfl, ?_⟩) hS ?_
      rotate_left
      · intro w' hw'
        have hcells := HC11.out w' hw'
        go_simp
        (try with_reducible rfl)
      simp only [Act.put, List.getElem_toArray, List.getElem_cons_succ, List.getElem_cons_zero, List.setIfInBounds_toArray, List.set_cons_zero, List.set_cons_succ]
      refine wpAnyH_take (i := 26) (oi := _) (v := ?_) rfl (by kernel_rfl) (by kernel_rfl) (by kernel_rfl) (fun _ _ _ h => h) (Or.inl ⟨by kernel_rfl, ?_⟩) hS ?_
      rotate_left
      · intro w' hw'
        have hcells := HC11.out w' hw'
        go_simp
        (try with_reducible rfl)
      simp only [Act.put, List.getElem_toArray, List.getElem_cons_succ, List.getElem_cons_zero, List.setIfInBounds_toArray, List.set_cons_zero, List.set_cons_succ]
      refine wpAnyH_take (i := 27) (oi := _) (v := ?_) rfl (by kernel_rfl) (by kernel_rfl) (by kernel_rfl) (fun _ _ _ h => h) (Or.inl ⟨by kernel_rfl, ?_⟩) hS ?_
      rotate_left
      · intro w' hw'
        have hcells := HC11.out w' hw'
        go_simp
        (try with_reducible rfl)
      simp only [Act.put, List.getElem_toArray, List.getElem_cons_succ, List.getElem_cons_zero, List.setIfInBounds_toArray, List.set_cons_zero, List.set_cons_succ]
      refine wpAnyH_take (i := 28) (oi := _) (v := ?_) rfl (by kernel_rfl) (by kernel_rfl) (by kernel_rfl) (fun _ _ _ h => h) (Or.inl ⟨by kernel_rfl, ?_⟩) hS ?_
      rotate_left
      · intro w' hw'
        have hcells := HC11.out w' hw'
        go_simp
        (try with_reducible rfl)
      simp only [Act.put, List.getElem_toArray, List.getElem_cons_succ, List.getElem_cons_zero, List.setIfInBounds_toArray, List.set_cons_zero, List.set_cons_succ]
      refine wpAnyH_take (i := 29) (oi := _) (v := ?_) rfl (by kernel_rfl) (by kernel_rfl) (by kernel_rfl) (fun _ _ _ h => h) (Or.inl ⟨by kernel_rfl, ?_⟩) hS ?_
      rotate_left
      · intro w' hw'
        have hcells := HC11.out w' hw'
        go_simp
        (try with_reducible rfl)
      simp only [Act.put, List.getElem_toArray, List.getElem_cons_succ, List.getElem_cons_zero, List.setIfInBounds_toArray, List.set_cons_zero, List.set_cons_succ]
      refine wpAnyH_take (i := 30) (oi := _) (v := ?_) rfl (by kernel_rfl) (by kernel_rfl) (by kernel_rfl) (fun _ _ _ h => h) (Or.inl ⟨by kernel_rfl, ?_⟩) hS ?_
      rotate_left
      · intro w' hw'
        have hcells := HC11.out w' hw'
        go_simp
        (try with_reducible rfl)
      simp only [Act.put, List.getElem_toArray, List.getElem_cons_succ, List.getElem_cons_zero, List.setIfInBounds_toArray, List.set_cons_zero, List.set_cons_succ]
      refine wpAnyH_take (i := 31) (oi := _) (v := ?_) rfl (by kernel_rfl) (by kernel_rfl) (by kernel_rfl) (fun _ _ _ h => h) (Or.inl ⟨by kernel_rfl, ?_⟩) hS ?_
      rotate_left
      · intro w' hw'
        have hcells := HC11.out w' hw'
        go_simp
        (try with_reducible rfl)
      simp only [Act.put, List.getElem_toArray, List.getElem_cons_succ, List.getElem_cons_zero, List.setIfInBounds_toArray, List.set_cons_zero, List.set_cons_succ]
      refine wpAnyH_ready (rs := [24]) (by kernel_rfl) (by simp) ?_
      refine AllReadyH.cons (o := _) rfl (fun K hK => ?_) AllReadyH.nil
      go_simp; go_at_call 28; refine (HEI.out _ hS).mono ?_
      rintro e w17 ⟨rfl, hb17⟩
      refine hK.out _ _ (hS.trans (hb17.mono hS.size)) (fun hS => ?_)
      clear hK K
      (try simp only [Act.put, List.getElem_toArray, List.getElem_cons_succ, List.getElem_cons_zero, List.setIfInBounds_toArray, List.set_cons_zero, List.set_cons_succ])
      refine wpAnyH_ready (rs := [32]) (by kernel_rfl) (by simp) ?_
      refine AllReadyH.cons (o := _) rfl (fun K hK => ?_) AllReadyH.nil
      go_simp; go_at_call 27; refine (HSI.out _ hS).mono ?_
      rintro e w18 ⟨rfl, hb18⟩
      refine hK.out _ _ (hS.trans (hb18.mono hS.size)) (fun hS => ?_)
      clear hK K
      (try simp only [Act.put, List.getElem_toArray, List.getElem_cons_succ, List.getElem_cons_zero, List.setIfInBounds_toArray, List.set_cons_zero, List.set_cons_succ])
      refine wpAnyH_take (i := 33) (oi := _) (v := ?_) rfl (by kernel_rfl) (by kernel_rfl) (by kernel_rfl) (fun _ _ _ h => h) (Or.inl ⟨by kernel_rfl, ?_⟩) hS ?_
      rotate_left
      · intro w' hw'
        have hcells := HC11.out w' hw'
        go_simp
        (try with_reducible rfl)
      simp only [Act.put, List.getElem_toArray, List.getElem_cons_succ, List.getElem_cons_zero, List.setIfInBounds_toArray, List.set_cons_zero, List.set_cons_succ]
      refine wpAnyH_take (i := 34) (oi := _) (v := ?_) rfl (by kernel_rfl) (by kernel_rfl) (by kernel_rfl) (fun _ _ _ h => h) (Or.inl ⟨by kernel_rfl, ?_⟩) hS ?_
      rotate_left
      · intro w' hw'
        have hcells := HC11.out w' hw'
        go_simp
        (try with_reducible rfl)
      simp only [Act.put, List.getElem_toArray, List.getElem_cons_succ, List.getElem_cons_zero, List.setIfInBounds_toArray, List.set_cons_zero, List.set_cons_succ]
      refine wpAnyH_done (by kernel_rfl) ?_ _
      (try dsimp only)
      have HBE := hid hS
      clear hS HC11 HW HEI HSI
      go_wp2
      go_roundw
      case rel => exact ⟨i + 1, by omega, by go_num, HBL.out.trans (HBE.out.mono HBL.out.size)⟩
      case measure => simp [intOf]; omega
    · obtain rfl : i = n := by omega
      clear hlt
      have hc8 := HC8.out _ hb8
      obtain ⟨⟨m0, m1, m2, m3, m4, m5, m6, m7, m8, m9⟩, ⟨p0, p1, p2, p3, p4, p5⟩, ⟨q0, q1, q2, q3, q4, q5⟩, ⟨r0, r1, r2, r3, r4, r5⟩⟩ := hc8
      clear hb8 hbl
      have HEFaa : Hid (∀ w', Below w8.heap.size w8 w' → Calls Tryz.prog 28 #[.agg #[.int .i64 ca.st.e, .slice ca.st.a ca.st.n ca.st.c, .int .i64 ca.k, .string ca.node, .slice ca.a ca.n ca.c, .string ca.text], .agg #[.int .i64 ca.st.e, .slice ca.st.a ca.st.n ca.st.c, .int .i64 ca.k, .string ca.node, .slice ca.a ca.n ca.c, .string ca.text]] w' fun e w2 => e = .returned (.bool true) ∧ Below w'.heap.size w' w2) := hid fun w' h => by
        have h1 := LAT8.out w' h
        have q := equalFate_call ca ca dA dA w' h1.1 h1.1
        rw [show ftEqB dA dA = true by exact ftEqB_refl _] at q
        exact q
      have HEFab : Hid (∀ w', Below w8.heap.size w8 w' → Calls Tryz.prog 28 #[.agg #[.int .i64 ca.st.e, .slice ca.st.a ca.st.n ca.st.c, .int .i64 ca.k, .string ca.node, .slice ca.a ca.n ca.c, .string ca.text], .agg #[.int .i64 cb.st.e, .slice cb.st.a cb.st.n cb.st.c, .int .i64 cb.k, .string cb.node, .slice cb.a cb.n cb.c, .string cb.text]] w' fun e w2 => e = .returned (.bool false) ∧ Below w'.heap.size w' w2) := hid fun w' h => by
        have h1 := LAT8.out w' h
        have q := equalFate_call ca cb dA dB w' h1.1 h1.2.1
        rw [show ftEqB dA dB = false by simp [ftEqB, HDD.out.1, HDD.out.2.1, HDD.out.2.2]] at q
        exact q
      have HEFbc : Hid (∀ w', Below w8.heap.size w8 w' → Calls Tryz.prog 28 #[.agg #[.int .i64 cb.st.e, .slice cb.st.a cb.st.n cb.st.c, .int .i64 cb.k, .string cb.node, .slice cb.a cb.n cb.c, .string cb.text], .agg #[.int .i64 cc.st.e, .slice cc.st.a cc.st.n cc.st.c, .int .i64 cc.k, .string cc.node, .slice cc.a cc.n cc.c, .string cc.text]] w' fun e w2 => e = .returned (.bool false) ∧ Below w'.heap.size w' w2) := hid fun w' h => by
        have h1 := LAT8.out w' h
        have q := equalFate_call cb cc dB dC w' h1.2.1 h1.2.2.1
        rw [show ftEqB dB dC = false by simp [ftEqB, HDD.out.1, HDD.out.2.1, HDD.out.2.2]] at q
        exact q
      go_wp2_with (first
        | (go_at_call 28; refine (HEFbc.out _ hb21).mono ?_; rintro e w22 ⟨rfl, hb22'⟩; have hb22 := hb21.trans (hb22'.mono hb21.size))
        | (go_at_call 28; refine (HEFab.out _ hb20).mono ?_; rintro e w21 ⟨rfl, hb21'⟩; have hb21 := hb20.trans (hb21'.mono hb20.size); clear m0 m1 m2 m3 m4 m5 m6 m7 m8 m9 p0 p1 p2 p3 p4 p5 q0 q1 q2 q3 q4 q5 r0 r1 r2 r3 r4 r5; have hc8 := HC8.out _ hb21; obtain ⟨⟨m0, m1, m2, m3, m4, m5, m6, m7, m8, m9⟩, ⟨p0, p1, p2, p3, p4, p5⟩, ⟨q0, q1, q2, q3, q4, q5⟩, ⟨r0, r1, r2, r3, r4, r5⟩⟩ := hc8)
        | (go_at_call 28; refine (HEFaa.out _ HB8.out).mono ?_; rintro e w20 ⟨rfl, hb20'⟩; have hb20 := HB8.out.trans (hb20'.mono HB8.out.size); clear m0 m1 m2 m3 m4 m5 m6 m7 m8 m9 p0 p1 p2 p3 p4 p5 q0 q1 q2 q3 q4 q5 r0 r1 r2 r3 r4 r5; have hc8 := HC8.out _ hb20; obtain ⟨⟨m0, m1, m2, m3, m4, m5, m6, m7, m8, m9⟩, ⟨p0, p1, p2, p3, p4, p5⟩, ⟨q0, q1, q2, q3, q4, q5⟩, ⟨r0, r1, r2, r3, r4, r5⟩⟩ := hc8))
      go_ret
      exact ⟨rfl, (LAT8.out _ hb22).2.2.2.2.2.2⟩
end Go.Proofs.YthjlgpmajeafpaaGreatDoor
