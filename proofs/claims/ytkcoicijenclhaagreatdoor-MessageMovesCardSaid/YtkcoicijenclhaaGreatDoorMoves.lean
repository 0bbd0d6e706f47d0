/-
  MessageMoves returns true. Conditions: the arguments can be read as data; Tabs.
-/
import Derived.Test.YtkcoicijenclhaaGreatDoorKnown
import Derived.Test.YtkcoicijenclhaaGreatDoorEq
import Derived.Test.YtkcoicijenclhaaGreatDoorChild
import Derived.Test.YtkcoicijenclhaaGreatDoorWith
namespace Go.Proofs.YtkcoicijenclhaaGreatDoor
open Go Go.RowKit Go.Shelf
set_option linter.unusedVariables false
set_option linter.unusedSimpArgs false

def recV : Val := .mk 9 0 0 ⟨#[]⟩ [] [] []
theorem recV_is (S : Nat → Prop) (w : World) : IsVal S w ⟨9, 0, 0, ⟨#[]⟩, none, 0, 0, none, 0, 0⟩ recV :=
  ⟨⟨rfl, rfl, rfl, rfl, ⟨(show I64 9 from ⟨by decide, by decide⟩), (show I64 0 from ⟨by decide, by decide⟩), (show I64 0 from ⟨by decide, by decide⟩), by decide, by decide, by decide, by decide, by decide⟩, rfl, rfl, rfl⟩, .inl rfl, .inl rfl⟩
set_option maxRecDepth 100000 in
set_option maxHeartbeats 16000000 in
theorem moves_call (c : MC) (d : Msg) (c2 : SC) (d2 : St) (i : Int) (w : World) (hd : IsMsg (· < w.heap.size) w c d) (hd2 : IsSt (· < w.heap.size) w c2 d2) (hi : I64 i) (hT : Tabs w) : Calls Tryz.prog 6 #[c.v, c2.v, .int .i64 i] w fun e w' => e = .returned (.bool true) ∧ Below w.heap.size w w' := by
  obtain ⟨wb, hwb⟩ : ∃ wb, wb = ((w.alloc (mObj c)).alloc (.cells #[.int .i64 c2.e, .slice c2.a c2.n c2.c] 25)) := ⟨_, rfl⟩
  have hb0 : Below w.heap.size w wb := by rw [hwb]; exact ((Below.refl _ w).alloc (Nat.le_refl _) _).alloc (by simp) _
  have g1 : wb.heap[w.heap.size]? = some (mObj c) := by rw [hwb]; exact heapAlloc _ (heap_alloc_new w _)
  have g2 : wb.heap[w.heap.size + 1]? = some (.cells #[.int .i64 c2.e, .slice c2.a c2.n c2.c] 25) := by rw [hwb]; exact heapNewAt _ _ _ (by simp)
  have later : ∀ w2, Below wb.heap.size wb w2 → IsMsg (· < w2.heap.size) w2 c d ∧ IsSt (· < w2.heap.size) w2 c2 d2 ∧ Tabs w2 := fun w2 h => by
    have hb := hb0.trans (h.mono hb0.size)
    exact ⟨hd.same fun b q => ⟨Nat.lt_of_lt_of_le q hb.size, hb.block b q⟩, hd2.same fun b q => ⟨Nat.lt_of_lt_of_le q hb.size, hb.block b q⟩, hT.below hb⟩
  have HK : Hid (∀ w2, Below wb.heap.size wb w2 → Calls Tryz.prog 15 #[] w2 fun e w' => e = .returned (.bool true) ∧ Below w2.heap.size w2 w') := hid fun w2 h => known_call w2 (later w2 h).2.2
  have HS1 : Hid (∀ w2, Below wb.heap.size wb w2 → Calls Tryz.prog 22 #[c.v] w2 (SmallPost w2 c)) := hid fun w2 h => small_call c d w2 (later w2 h).1
  have HC : Hid (∀ w', Below wb.heap.size wb w' → w'.cell? ⟨w.heap.size, 0, none⟩ = some (.int .i64 c.st.e) ∧ w'.cell? ⟨w.heap.size, 1, none⟩ = some (.slice c.st.a c.st.n c.st.c) ∧ w'.cell? ⟨w.heap.size, 2, none⟩ = some (.int .i64 c.m) ∧ w'.cell? ⟨w.heap.size, 3, none⟩ = some (.slice c.a c.n c.c) ∧ w'.cell? ⟨w.heap.size, 4, none⟩ = some (.int .i64 c.b.k) ∧ w'.cell? ⟨w.heap.size, 5, none⟩ = some (.int .i64 c.b.i) ∧ w'.cell? ⟨w.heap.size, 6, none⟩ = some (.int .i64 c.b.s) ∧ w'.cell? ⟨w.heap.size, 7, none⟩ = some (.string c.b.t) ∧ w'.cell? ⟨w.heap.size, 8, none⟩ = some (.slice c.b.la c.b.ll c.b.lc) ∧ w'.cell? ⟨w.heap.size, 9, none⟩ = some (.slice c.b.fa c.b.fl c.b.fc) ∧ w'.cell? ⟨w.heap.size + 1, 0, none⟩ = some (.int .i64 c2.e) ∧ w'.cell? ⟨w.heap.size + 1, 1, none⟩ = some (.slice c2.a c2.n c2.c)) := hid fun w' h => by
    have h1 := heapExt h g1
    have h2 := heapExt h g2
    exact ⟨cellOf h1 0, cellOf h1 1, cellOf h1 2, cellOf h1 3, cellOf h1 4, cellOf h1 5, cellOf h1 6, cellOf h1 7, cellOf h1 8, cellOf h1 9, cellOf h2 0, cellOf h2 1⟩
  have LAT := hid later
  have HREF : Hid (Below wb.heap.size wb ((w.alloc (mObj c)).alloc (.cells #[.int .i64 c2.e, .slice c2.a c2.n c2.c] 25))) := hid (by rw [← hwb]; exact Below.refl _ _)
  have HEQ := hid hwb
  have HWB := hid hb0
  have HI := hid hi
  clear later hd hd2 hT hb0 g1 g2 hwb hi
  obtain ⟨⟨ce, sa, sn, sc⟩, m, a, n, cap, ⟨k, i', s, t, la, ll, lc, fa, fl, fc⟩⟩ := c
  obtain ⟨te, ta, tn, tc⟩ := c2
  dsimp only [mObj, MC.v, SC.v] at HS1 HC HREF HEQ LAT ⊢
  go_enter Tryz.func6, Tryz.ntmps6
  by_cases qt : tn ≤ 40
  · have qt' : (tn : Int) ≤ 40 := by omega
    go_upto_region 4 with (first
    | (go_at_call 15; refine (HK.out _ hb3).mono ?_; rintro e w9 ⟨rfl, hb9⟩; have hbz := HWB.out.trans ((hb3.trans (hb9.mono hb3.size)).mono HWB.out.size))
    | (go_at_call 15; refine (HK.out _ HREF.out).mono ?_; rintro e w2 ⟨rfl, hb2⟩; rw [← HEQ.out] at hb2; obtain ⟨e0, e1, e2, e3, e4, e5, e6, e7, e8, e9, f0, f1⟩ := HC.out _ hb2)
    | (go_at_call 22; refine (HS1.out _ hb2).mono ?_; rintro e w3 ⟨⟨b1, rfl, hs1⟩, hb3'⟩; have hb3 := hb2.trans (hb3'.mono hb2.size); clear e0 e1 e2 e3 e4 e5 e6 e7 e8 e9 f0 f1; obtain ⟨j0, j1, j2, j3, j4, j5, j6, j7, j8, j9, l0, l1⟩ := HC.out _ hb3; cases b1))
    · go_ret
      exact ⟨rfl, hbz⟩
    obtain ⟨wx, hwx⟩ : ∃ wx, wx = w3.alloc (.cells #[.int .i64 9, .int .i64 0, .int .i64 0, .string ⟨#[]⟩, .slice none 0 0, .slice none 0 0] 29) := ⟨_, rfl⟩
    rw [← hwx]
    have hwbx : Below wb.heap.size wb wx := by rw [hwx]; exact hb3.alloc hb3.size _
    have hr3 : wx.heap[w3.heap.size]? = some (.cells #[.int .i64 9, .int .i64 0, .int .i64 0, .string ⟨#[]⟩, .slice none 0 0, .slice none 0 0] 29) := by rw [hwx]; exact heap_alloc_new _ _
    have hlt3 := ltOf hr3
    clear hwx j0 j1 j2 j3 j4 j5 j6 j7 j8 j9 l0 l1 hb2 hb3' hb3 hs1
    have HWX := hid (HWB.out.trans (hwbx.mono HWB.out.size))
    have HCX : Hid (∀ w', Below wx.heap.size wx w' → (w'.cell? ⟨w.heap.size, 0, none⟩ = some (.int .i64 ce) ∧ w'.cell? ⟨w.heap.size, 1, none⟩ = some (.slice sa sn sc) ∧ w'.cell? ⟨w.heap.size, 2, none⟩ = some (.int .i64 m) ∧ w'.cell? ⟨w.heap.size, 3, none⟩ = some (.slice a n cap) ∧ w'.cell? ⟨w.heap.size, 4, none⟩ = some (.int .i64 k) ∧ w'.cell? ⟨w.heap.size, 5, none⟩ = some (.int .i64 i') ∧ w'.cell? ⟨w.heap.size, 6, none⟩ = some (.int .i64 s) ∧ w'.cell? ⟨w.heap.size, 7, none⟩ = some (.string t) ∧ w'.cell? ⟨w.heap.size, 8, none⟩ = some (.slice la ll lc) ∧ w'.cell? ⟨w.heap.size, 9, none⟩ = some (.slice fa fl fc)) ∧ (w'.cell? ⟨(w.heap.size + 1), 0, none⟩ = some (.int .i64 te) ∧ w'.cell? ⟨(w.heap.size + 1), 1, none⟩ = some (.slice ta tn tc)) ∧ (w'.cell? ⟨w3.heap.size, 0, none⟩ = some (.int .i64 9) ∧ w'.cell? ⟨w3.heap.size, 1, none⟩ = some (.int .i64 0) ∧ w'.cell? ⟨w3.heap.size, 2, none⟩ = some (.int .i64 0) ∧ w'.cell? ⟨w3.heap.size, 3, none⟩ = some (.string ⟨#[]⟩) ∧ w'.cell? ⟨w3.heap.size, 4, none⟩ = some (.slice none 0 0) ∧ w'.cell? ⟨w3.heap.size, 5, none⟩ = some (.slice none 0 0))) := hid fun w' h => by
      have h1 := HC.out w' (hwbx.trans (h.mono hwbx.size))
      have h2 := heapExt h hr3
      obtain ⟨j0, j1, j2, j3, j4, j5, j6, j7, j8, j9, l0, l1⟩ := h1
      exact ⟨⟨j0, j1, j2, j3, j4, j5, j6, j7, j8, j9⟩, ⟨l0, l1⟩, ⟨cellOf h2 0, cellOf h2 1, cellOf h2 2, cellOf h2 3, cellOf h2 4, cellOf h2 5⟩⟩
    have later : ∀ w2, Below wx.heap.size wx w2 → IsMsg (· < w2.heap.size) w2 ⟨⟨ce, sa, sn, sc⟩, m, a, n, cap, ⟨k, i', s, t, la, ll, lc, fa, fl, fc⟩⟩ d ∧ IsSt (· < w2.heap.size) w2 ⟨te, ta, tn, tc⟩ d2 := fun w2 h => ⟨(LAT.out w2 (hwbx.trans (h.mono hwbx.size))).1, (LAT.out w2 (hwbx.trans (h.mono hwbx.size))).2.1⟩
    have HU : Hid (∀ w2, Below wx.heap.size wx w2 → Calls Tryz.prog 27 #[.agg #[.int .i64 te, .slice ta tn tc], .int .i64 i] w2 (StPost w2 ⟨d2.e, d2.ps ++ [i]⟩)) := hid fun w2 h => under_call ⟨te, ta, tn, tc⟩ d2 i w2 HI.out (by dsimp only; omega) (later w2 h).2
    have HCH : Hid (∀ w2, Below wx.heap.size wx w2 → Calls Tryz.prog 25 #[.agg #[.int .i64 te, .slice ta tn tc], .int .i64 i] w2 (StPost w2 ⟨d2.e, d2.ps ++ [i]⟩)) := hid fun w2 h => child_call ⟨te, ta, tn, tc⟩ d2 i w2 HI.out (by dsimp only; omega) (later w2 h).2
    have HSSX : Hid (∀ (w2 : World) (p q : SC), IsSt (· < w2.heap.size) w2 p ⟨d2.e, d2.ps ++ [i]⟩ → IsSt (· < w2.heap.size) w2 q ⟨d2.e, d2.ps ++ [i]⟩ → Calls Tryz.prog 26 #[p.v, q.v] w2 fun e w' => e = .returned (.bool true) ∧ Below w2.heap.size w2 w') := hid fun w2 p q h1 h2 => by
      rw [← stEqB_refl ⟨d2.e, d2.ps ++ [i]⟩]; exact sameStamp_call p q _ _ w2 h1 h2
    have HWI : Hid (∀ w2, Below wx.heap.size wx w2 → Calls Tryz.prog 28 #[.agg #[.int .i64 ce, .slice sa sn sc, .int .i64 m, .slice a n cap, .int .i64 k, .int .i64 i', .int .i64 s, .string t, .slice la ll lc, .slice fa fl fc], .agg #[.int .i64 9, .int .i64 0, .int .i64 0, .string ⟨#[]⟩, .slice none 0 0, .slice none 0 0]] w2 (MsgPost w2 { d with b := recV })) := hid fun w2 h => with_call ⟨⟨ce, sa, sn, sc⟩, m, a, n, cap, ⟨k, i', s, t, la, ll, lc, fa, fl, fc⟩⟩ d ⟨9, 0, 0, ⟨#[]⟩, none, 0, 0, none, 0, 0⟩ recV w2 (later w2 h).1 (recV_is _ _)
    have HMO : Hid (∀ w2, Below wx.heap.size wx w2 → Calls Tryz.prog 29 #[.agg #[.int .i64 ce, .slice sa sn sc, .int .i64 m, .slice a n cap, .int .i64 k, .int .i64 i', .int .i64 s, .string t, .slice la ll lc, .slice fa fl fc], .agg #[.int .i64 te, .slice ta tn tc]] w2 (MsgPost w2 { d with st := d2 })) := hid fun w2 h => move_call ⟨⟨ce, sa, sn, sc⟩, m, a, n, cap, ⟨k, i', s, t, la, ll, lc, fa, fl, fc⟩⟩ d ⟨te, ta, tn, tc⟩ d2 w2 (later w2 h).1 (later w2 h).2
    have HSA : Hid (∀ (w2 : World) (x : MC), Below wx.heap.size wx w2 → IsMsg (· < w2.heap.size) w2 x { d with b := recV } → Calls Tryz.prog 21 #[x.v, .agg #[.int .i64 ce, .slice sa sn sc, .int .i64 m, .slice a n cap, .int .i64 9, .int .i64 0, .int .i64 0, .string ⟨#[]⟩, .slice none 0 0, .slice none 0 0]] w2 fun e w' => e = .returned (.bool true) ∧ Below w2.heap.size w2 w') := hid fun w2 x h hi => by
      rw [← msgEqB_refl { d with b := recV }]
      exact same_call x ⟨⟨ce, sa, sn, sc⟩, m, a, n, cap, ⟨9, 0, 0, ⟨#[]⟩, none, 0, 0, none, 0, 0⟩⟩ _ _ w2 hi ⟨(later w2 h).1.st, (later w2 h).1.m, (later w2 h).1.rm, (later w2 h).1.es, recV_is _ _⟩
    have HSB : Hid (∀ (w2 : World) (x : MC), Below wx.heap.size wx w2 → IsMsg (· < w2.heap.size) w2 x { d with st := d2 } → Calls Tryz.prog 21 #[x.v, .agg #[.int .i64 te, .slice ta tn tc, .int .i64 m, .slice a n cap, .int .i64 k, .int .i64 i', .int .i64 s, .string t, .slice la ll lc, .slice fa fl fc]] w2 fun e w' => e = .returned (.bool true) ∧ Below w2.heap.size w2 w') := hid fun w2 x h hi => by
      rw [← msgEqB_refl { d with st := d2 }]
      exact same_call x ⟨⟨te, ta, tn, tc⟩, m, a, n, cap, ⟨k, i', s, t, la, ll, lc, fa, fl, fc⟩⟩ _ _ w2 hi ⟨(later w2 h).2, (later w2 h).1.m, (later w2 h).1.rm, (later w2 h).1.es, (later w2 h).1.b⟩
    clear later hwbx hr3
    dsimp only [MC.v, SC.v] at HSSX HSA HSB
    refine wp_region_held_drew (S := (fun w' => Below wx.heap.size wx w')) (by kernel_rfl) ((Below.refl _ _).drew) (fun hS => ?_)
    refine wpAnyH_take (i := 0) (oi := _) (v := ?_) rfl (by kernel_rfl) (by kernel_rfl) (by kernel_rfl) (fun _ _ _ h => h) (Or.inl ⟨by rfl, ?_⟩) hS ?_
    rotate_left
    · intro w' hw'
      have hcells := HCX.out w' hw'
      go_simp
      (try with_reducible rfl)
    simp only [Act.put, List.setIfInBounds_toArray, List.set_cons_zero, List.set_cons_succ]
    refine wpAnyH_take (i := 1) (oi := _) (v := ?_) rfl (by kernel_rfl) (by kernel_rfl) (by kernel_rfl) (fun _ _ _ h => h) (Or.inl ⟨by rfl, ?_⟩) hS ?_
    rotate_left
    · intro w' hw'
      have hcells := HCX.out w' hw'
      go_simp
      (try with_reducible rfl)
    simp only [Act.put, List.setIfInBounds_toArray, List.set_cons_zero, List.set_cons_succ]
    refine wpAnyH_ready (rs := [2, 3]) (by kernel_rfl) (by simp) ?_
    refine AllReadyH.cons (o := _) rfl (fun K hK => ?_) ?_
    · go_simp
      refine hK.out _ _ (hS.trans (((Below.refl _ _).alloc (Nat.le_refl _) _).mono hS.size)) (fun hS => ?_)
      clear hK K
      (try simp only [Act.put, List.setIfInBounds_toArray, List.set_cons_zero, List.set_cons_succ])
      refine wpAnyH_ready (rs := [3]) (by kernel_rfl) (by simp) ?_
      refine AllReadyH.cons (o := _) rfl (fun K hK => ?_) AllReadyH.nil
      go_simp
      refine hK.out _ _ (hS.trans (((Below.refl _ _).alloc (Nat.le_refl _) _).mono hS.size)) (fun hS => ?_)
      clear hK K
      (try simp only [Act.put, List.setIfInBounds_toArray, List.set_cons_zero, List.set_cons_succ])
      refine wpAnyH_ready (rs := [4]) (by kernel_rfl) (by simp) ?_
      refine AllReadyH.cons (o := _) rfl (fun K hK => ?_) AllReadyH.nil
      generalize hw4 : World.alloc (World.alloc _ _) _ = w4 at hS ⊢
      have k1 : w4.heap[wx.heap.size]? = some (.cells #[.int .i64 0, .slice none 0 0, .int .i64 0, .slice none 0 0, .int .i64 0, .int .i64 0, .int .i64 0, .string ByteArray.empty, .slice none 0 0, .slice none 0 0] 31) := by rw [← hw4]; exact heapAlloc _ (heap_alloc_new _ _)
      have k2 : w4.heap[wx.heap.size + 1]? = some (.cells #[.int .i64 0, .slice none 0 0, .int .i64 0, .slice none 0 0, .int .i64 0, .int .i64 0, .int .i64 0, .string ByteArray.empty, .slice none 0 0, .slice none 0 0] 31) := by rw [← hw4]; exact heapNewAt _ _ _ (by simp)
      clear hw4
      have z0 := cellOf k1 0
      have zf0 := freeOf k1 0
      have z1 := cellOf k1 1
      have zf1 := freeOf k1 1
      have z2 := cellOf k1 2
      have zf2 := freeOf k1 2
      have z3 := cellOf k1 3
      have zf3 := freeOf k1 3
      have z4 := cellOf k1 4
      have zf4 := freeOf k1 4
      have z5 := cellOf k1 5
      have zf5 := freeOf k1 5
      have z6 := cellOf k1 6
      have zf6 := freeOf k1 6
      have z7 := cellOf k1 7
      have zf7 := freeOf k1 7
      have z8 := cellOf k1 8
      have zf8 := freeOf k1 8
      have z9 := cellOf k1 9
      have zf9 := freeOf k1 9
      (try dsimp only at z0 z1 z2 z3 z4 z5 z6 z7 z8 z9)
      go_simp
      obtain ⟨w5, hw5⟩ : ∃ w5, w5 = setTen w4 wx.heap.size ⟨⟨ce, sa, sn, sc⟩, m, a, n, cap, ⟨k, i', s, t, la, ll, lc, fa, fl, fc⟩⟩ := ⟨_, rfl⟩
      dsimp only [setTen] at hw5
      rw [← hw5]
      have m8 : w5.heap[wx.heap.size]? = some (.cells #[.int .i64 ce, .slice sa sn sc, .int .i64 m, .slice a n cap, .int .i64 k, .int .i64 i', .int .i64 s, .string t, .slice la ll lc, .slice fa fl fc] 31) := by rw [hw5]; exact setTen_heap (c := ⟨⟨ce, sa, sn, sc⟩, m, a, n, cap, ⟨k, i', s, t, la, ll, lc, fa, fl, fc⟩⟩) k1
      have m9 : w5.heap[(wx.heap.size + 1)]? = some (.cells #[.int .i64 0, .slice none 0 0, .int .i64 0, .slice none 0 0, .int .i64 0, .int .i64 0, .int .i64 0, .string ByteArray.empty, .slice none 0 0, .slice none 0 0] 31) := by rw [hw5]; exact (setTen_other (c := ⟨⟨ce, sa, sn, sc⟩, m, a, n, cap, ⟨k, i', s, t, la, ll, lc, fa, fl, fc⟩⟩) w4 wx.heap.size (wx.heap.size + 1) (by omega)).trans k2
      have hS5 : Below wx.heap.size wx w5 := by rw [hw5]; exact Below.trans (show Below wx.heap.size wx w4 from ⟨hS.os, hS.tape, hS.output, hS.size, hS.block⟩) (setTen_below (c := ⟨⟨ce, sa, sn, sc⟩, m, a, n, cap, ⟨k, i', s, t, la, ll, lc, fa, fl, fc⟩⟩) w4 wx.heap.size wx.heap.size (by omega))
      have M8 := hid m8
      have M9 := hid m9
      have HS5 := hid hS5
      clear m8 m9 k1 k2 hw5 z0 zf0 z1 zf1 z2 zf2 z3 zf3 z4 zf4 z5 zf5 z6 zf6 z7 zf7 z8 zf8 z9 zf9
      refine hK.out _ _ (HS5.out.drew) (fun hS => ?_)
      clear hK K
      (try simp only [Act.put, List.setIfInBounds_toArray, List.set_cons_zero, List.set_cons_succ])
      refine wpAnyH_ready (rs := [5]) (by kernel_rfl) (by simp) ?_
      refine AllReadyH.cons (o := _) rfl (fun K hK => ?_) AllReadyH.nil
      have m9 := M9.out
      have z0 := cellOf m9 0
      have zf0 := freeOf m9 0
      have z1 := cellOf m9 1
      have zf1 := freeOf m9 1
      have z2 := cellOf m9 2
      have zf2 := freeOf m9 2
      have z3 := cellOf m9 3
      have zf3 := freeOf m9 3
      have z4 := cellOf m9 4
      have zf4 := freeOf m9 4
      have z5 := cellOf m9 5
      have zf5 := freeOf m9 5
      have z6 := cellOf m9 6
      have zf6 := freeOf m9 6
      have z7 := cellOf m9 7
      have zf7 := freeOf m9 7
      have z8 := cellOf m9 8
      have zf8 := freeOf m9 8
      have z9 := cellOf m9 9
      have zf9 := freeOf m9 9
      (try dsimp only at z0 z1 z2 z3 z4 z5 z6 z7 z8 z9)
      clear m9
      go_simp
      obtain ⟨w6, hw6⟩ : ∃ w6, w6 = setTen w5 (wx.heap.size + 1) ⟨⟨ce, sa, sn, sc⟩, m, a, n, cap, ⟨k, i', s, t, la, ll, lc, fa, fl, fc⟩⟩ := ⟨_, rfl⟩
      dsimp only [setTen] at hw6
      rw [← hw6]
      have n9 := hid (show w6.heap[(wx.heap.size + 1)]? = some (.cells #[.int .i64 ce, .slice sa sn sc, .int .i64 m, .slice a n cap, .int .i64 k, .int .i64 i', .int .i64 s, .string t, .slice la ll lc, .slice fa fl fc] 31) by rw [hw6]; exact setTen_heap (c := ⟨⟨ce, sa, sn, sc⟩, m, a, n, cap, ⟨k, i', s, t, la, ll, lc, fa, fl, fc⟩⟩) M9.out)
      have n8 := hid (show w6.heap[wx.heap.size]? = some (.cells #[.int .i64 ce, .slice sa sn sc, .int .i64 m, .slice a n cap, .int .i64 k, .int .i64 i', .int .i64 s, .string t, .slice la ll lc, .slice fa fl fc] 31) by rw [hw6]; exact (setTen_other (c := ⟨⟨ce, sa, sn, sc⟩, m, a, n, cap, ⟨k, i', s, t, la, ll, lc, fa, fl, fc⟩⟩) w5 (wx.heap.size + 1) wx.heap.size (by omega)).trans M8.out)
      have HS6 := hid (show Below wx.heap.size wx w6 by rw [hw6]; exact HS5.out.trans (setTen_below (c := ⟨⟨ce, sa, sn, sc⟩, m, a, n, cap, ⟨k, i', s, t, la, ll, lc, fa, fl, fc⟩⟩) w5 (wx.heap.size + 1) wx.heap.size (by omega)))
      clear hw6 M8 M9 HS5 z0 zf0 z1 zf1 z2 zf2 z3 zf3 z4 zf4 z5 zf5 z6 zf6 z7 zf7 z8 zf8 z9 zf9
      refine hK.out _ _ (HS6.out.drew) (fun hS => ?_)
      clear hK K
      (try simp only [Act.put, List.setIfInBounds_toArray, List.set_cons_zero, List.set_cons_succ])
      refine wpAnyH_done (by kernel_rfl) ?_ _
      (try dsimp only)
      clear hS
      go_upto_region 5 with (fail)
      refine wp_region_held_drew (S := (fun w' => Below wx.heap.size wx w')) (by kernel_rfl) (HS6.out.drew.drew) (fun hS => ?_)
      refine wpAnyH_take (i := 0) (oi := _) (v := ?_) rfl (by kernel_rfl) (by kernel_rfl) (by kernel_rfl) (fun _ _ _ h => h) (Or.inl ⟨by rfl, ?_⟩) hS ?_
      rotate_left
      · intro w' hw'
        have hcells := HCX.out w' hw'
        go_simp
        (try with_reducible rfl)
      simp only [Act.put, List.setIfInBounds_toArray, List.set_cons_zero, List.set_cons_succ]
      refine wpAnyH_take (i := 1) (oi := _) (v := ?_) rfl (by kernel_rfl) (by kernel_rfl) (by kernel_rfl) (fun _ _ _ h => h) (Or.inl ⟨by rfl, ?_⟩) hS ?_
      rotate_left
      · intro w' hw'
        have hcells := HCX.out w' hw'
        go_simp
        (try with_reducible rfl)
      simp only [Act.put, List.setIfInBounds_toArray, List.set_cons_zero, List.set_cons_succ]
      refine wpAnyH_take (i := 2) (oi := _) (v := ?_) rfl (by kernel_rfl) (by kernel_rfl) (by kernel_rfl) (fun _ _ _ h => h) (Or.inl ⟨by rfl, ?_⟩) hS ?_
      rotate_left
      · intro w' hw'
        have hcells := HCX.out w' hw'
        go_simp
        (try with_reducible rfl)
      simp only [Act.put, List.setIfInBounds_toArray, List.set_cons_zero, List.set_cons_succ]
      refine wpAnyH_ready (rs := [3]) (by kernel_rfl) (by simp) ?_
      refine AllReadyH.cons (o := _) rfl (fun K hK => ?_) AllReadyH.nil
      generalize hw7 : World.drew _ = w7 at hS ⊢
      have k8 : w7.heap[wx.heap.size]? = some (.cells #[.int .i64 ce, .slice sa sn sc, .int .i64 m, .slice a n cap, .int .i64 k, .int .i64 i', .int .i64 s, .string t, .slice la ll lc, .slice fa fl fc] 31) := by rw [← hw7]; exact n8.out
      have k9 : w7.heap[(wx.heap.size + 1)]? = some (.cells #[.int .i64 ce, .slice sa sn sc, .int .i64 m, .slice a n cap, .int .i64 k, .int .i64 i', .int .i64 s, .string t, .slice la ll lc, .slice fa fl fc] 31) := by rw [← hw7]; exact n9.out
      clear hw7
      have z4 := cellOf k8 4
      have zf4 := freeOf k8 4
      have z5 := cellOf k8 5
      have zf5 := freeOf k8 5
      have z6 := cellOf k8 6
      have zf6 := freeOf k8 6
      have z7 := cellOf k8 7
      have zf7 := freeOf k8 7
      have z8 := cellOf k8 8
      have zf8 := freeOf k8 8
      have z9 := cellOf k8 9
      have zf9 := freeOf k8 9
      (try dsimp only at z4 z5 z6 z7 z8 z9)
      go_simp
      obtain ⟨w71, hw71⟩ : ∃ w71, w71 = setSix w7 wx.heap.size ⟨9, 0, 0, ⟨#[]⟩, none, 0, 0, none, 0, 0⟩ := ⟨_, rfl⟩
      dsimp only [setSix] at hw71
      rw [← hw71]
      have m8 : w71.heap[wx.heap.size]? = some (.cells #[.int .i64 ce, .slice sa sn sc, .int .i64 m, .slice a n cap, .int .i64 9, .int .i64 0, .int .i64 0, .string ⟨#[]⟩, .slice none 0 0, .slice none 0 0] 31) := by
        have h := (heapSet (o := 9) (.slice none 0 0) (heapSet (o := 8) (.slice none 0 0) (heapSet (o := 7) (.string ⟨#[]⟩) (heapSet (o := 6) (.int .i64 0) (heapSet (o := 5) (.int .i64 0) (heapSet (o := 4) (.int .i64 9) k8))))))
        simp only [List.setIfInBounds_toArray, List.set_cons_zero, List.set_cons_succ] at h
        rw [hw71]; exact h
      have m9 : w71.heap[(wx.heap.size + 1)]? = some (.cells #[.int .i64 ce, .slice sa sn sc, .int .i64 m, .slice a n cap, .int .i64 k, .int .i64 i', .int .i64 s, .string t, .slice la ll lc, .slice fa fl fc] 31) := by rw [hw71]; exact (setSix_other (c := ⟨9, 0, 0, ⟨#[]⟩, none, 0, 0, none, 0, 0⟩) w7 wx.heap.size (wx.heap.size + 1) (by omega)).trans k9
      have hS7 : Below wx.heap.size wx w71 := by rw [hw71]; exact Below.trans hS (setSix_below (c := ⟨9, 0, 0, ⟨#[]⟩, none, 0, 0, none, 0, 0⟩) w7 wx.heap.size wx.heap.size (by omega))
      have M8 := hid m8
      have M9 := hid m9
      have HS7 := hid hS7
      clear m8 m9 k8 k9 hw71 z4 zf4 z5 zf5 z6 zf6 z7 zf7 z8 zf8 z9 zf9
      refine hK.out _ _ (HS7.out) (fun hS => ?_)
      clear hK K
      (try simp only [Act.put, List.setIfInBounds_toArray, List.set_cons_zero, List.set_cons_succ])
      refine wpAnyH_take (i := 4) (oi := _) (v := ?_) rfl (by kernel_rfl) (by kernel_rfl) (by kernel_rfl) (fun _ _ _ h => h) (Or.inl ⟨by rfl, ?_⟩) hS ?_
      rotate_left
      · intro w' hw'
        have hcells := HCX.out w' hw'
        go_simp
        (try with_reducible rfl)
      simp only [Act.put, List.setIfInBounds_toArray, List.set_cons_zero, List.set_cons_succ]
      refine wpAnyH_ready (rs := [5]) (by kernel_rfl) (by simp) ?_
      refine AllReadyH.cons (o := _) rfl (fun K hK => ?_) AllReadyH.nil
      have m9 := M9.out
      have z0 := cellOf m9 0
      have zf0 := freeOf m9 0
      have z1 := cellOf m9 1
      have zf1 := freeOf m9 1
      (try dsimp only at z0 z1)
      clear m9
      go_simp
      obtain ⟨w8, hw8⟩ : ∃ w8, w8 = setTwo w71 (wx.heap.size + 1) ⟨te, ta, tn, tc⟩ := ⟨_, rfl⟩
      dsimp only [setTwo] at hw8
      rw [← hw8]
      have n9 := hid (show w8.heap[(wx.heap.size + 1)]? = some (.cells #[.int .i64 te, .slice ta tn tc, .int .i64 m, .slice a n cap, .int .i64 k, .int .i64 i', .int .i64 s, .string t, .slice la ll lc, .slice fa fl fc] 31) by
        have h := (heapSet (o := 1) (.slice ta tn tc) (heapSet (o := 0) (.int .i64 te) M9.out))
        simp only [List.setIfInBounds_toArray, List.set_cons_zero, List.set_cons_succ] at h
        rw [hw8]; exact h)
      have n8 := hid (show w8.heap[wx.heap.size]? = some (.cells #[.int .i64 ce, .slice sa sn sc, .int .i64 m, .slice a n cap, .int .i64 9, .int .i64 0, .int .i64 0, .string ⟨#[]⟩, .slice none 0 0, .slice none 0 0] 31) by rw [hw8]; exact (setTwo_other (c := ⟨te, ta, tn, tc⟩) w71 (wx.heap.size + 1) wx.heap.size (by omega)).trans M8.out)
      have HX8 := hid (show Below wx.heap.size wx w8 by rw [hw8]; exact HS7.out.trans (setTwo_below (c := ⟨te, ta, tn, tc⟩) w71 (wx.heap.size + 1) wx.heap.size (by omega)))
      clear hw8 M8 M9 HS7 z0 zf0 z1 zf1
      refine hK.out _ _ (HX8.out) (fun hS => ?_)
      clear hK K
      (try simp only [Act.put, List.setIfInBounds_toArray, List.set_cons_zero, List.set_cons_succ])
      refine wpAnyH_done (by kernel_rfl) ?_ _
      (try dsimp only)
      clear hS
      go_upto_region 6 with (fail)
      have HC6 : Hid (∀ w', Below w8.heap.size w8 w' → (w'.cell? ⟨w.heap.size, 0, none⟩ = some (.int .i64 ce) ∧ w'.cell? ⟨w.heap.size, 1, none⟩ = some (.slice sa sn sc) ∧ w'.cell? ⟨w.heap.size, 2, none⟩ = some (.int .i64 m) ∧ w'.cell? ⟨w.heap.size, 3, none⟩ = some (.slice a n cap) ∧ w'.cell? ⟨w.heap.size, 4, none⟩ = some (.int .i64 k) ∧ w'.cell? ⟨w.heap.size, 5, none⟩ = some (.int .i64 i') ∧ w'.cell? ⟨w.heap.size, 6, none⟩ = some (.int .i64 s) ∧ w'.cell? ⟨w.heap.size, 7, none⟩ = some (.string t) ∧ w'.cell? ⟨w.heap.size, 8, none⟩ = some (.slice la ll lc) ∧ w'.cell? ⟨w.heap.size, 9, none⟩ = some (.slice fa fl fc)) ∧ (w'.cell? ⟨(w.heap.size + 1), 0, none⟩ = some (.int .i64 te) ∧ w'.cell? ⟨(w.heap.size + 1), 1, none⟩ = some (.slice ta tn tc)) ∧ (w'.cell? ⟨w3.heap.size, 0, none⟩ = some (.int .i64 9) ∧ w'.cell? ⟨w3.heap.size, 1, none⟩ = some (.int .i64 0) ∧ w'.cell? ⟨w3.heap.size, 2, none⟩ = some (.int .i64 0) ∧ w'.cell? ⟨w3.heap.size, 3, none⟩ = some (.string ⟨#[]⟩) ∧ w'.cell? ⟨w3.heap.size, 4, none⟩ = some (.slice none 0 0) ∧ w'.cell? ⟨w3.heap.size, 5, none⟩ = some (.slice none 0 0)) ∧ (w'.cell? ⟨wx.heap.size, 0, none⟩ = some (.int .i64 ce) ∧ w'.cell? ⟨wx.heap.size, 1, none⟩ = some (.slice sa sn sc) ∧ w'.cell? ⟨wx.heap.size, 2, none⟩ = some (.int .i64 m) ∧ w'.cell? ⟨wx.heap.size, 3, none⟩ = some (.slice a n cap) ∧ w'.cell? ⟨wx.heap.size, 4, none⟩ = some (.int .i64 9) ∧ w'.cell? ⟨wx.heap.size, 5, none⟩ = some (.int .i64 0) ∧ w'.cell? ⟨wx.heap.size, 6, none⟩ = some (.int .i64 0) ∧ w'.cell? ⟨wx.heap.size, 7, none⟩ = some (.string ⟨#[]⟩) ∧ w'.cell? ⟨wx.heap.size, 8, none⟩ = some (.slice none 0 0) ∧ w'.cell? ⟨wx.heap.size, 9, none⟩ = some (.slice none 0 0)) ∧ (w'.cell? ⟨(wx.heap.size + 1), 0, none⟩ = some (.int .i64 te) ∧ w'.cell? ⟨(wx.heap.size + 1), 1, none⟩ = some (.slice ta tn tc) ∧ w'.cell? ⟨(wx.heap.size + 1), 2, none⟩ = some (.int .i64 m) ∧ w'.cell? ⟨(wx.heap.size + 1), 3, none⟩ = some (.slice a n cap) ∧ w'.cell? ⟨(wx.heap.size + 1), 4, none⟩ = some (.int .i64 k) ∧ w'.cell? ⟨(wx.heap.size + 1), 5, none⟩ = some (.int .i64 i') ∧ w'.cell? ⟨(wx.heap.size + 1), 6, none⟩ = some (.int .i64 s) ∧ w'.cell? ⟨(wx.heap.size + 1), 7, none⟩ = some (.string t) ∧ w'.cell? ⟨(wx.heap.size + 1), 8, none⟩ = some (.slice la ll lc) ∧ w'.cell? ⟨(wx.heap.size + 1), 9, none⟩ = some (.slice fa fl fc))) := hid fun w' h => by
        have h1 := HCX.out w' (HX8.out.trans (h.mono HX8.out.size))
        have h2 := heapExt h n8.out
        have h3 := heapExt h n9.out
        exact ⟨h1.1, h1.2.1, h1.2.2, ⟨cellOf h2 0, cellOf h2 1, cellOf h2 2, cellOf h2 3, cellOf h2 4, cellOf h2 5, cellOf h2 6, cellOf h2 7, cellOf h2 8, cellOf h2 9⟩, ⟨cellOf h3 0, cellOf h3 1, cellOf h3 2, cellOf h3 3, cellOf h3 4, cellOf h3 5, cellOf h3 6, cellOf h3 7, cellOf h3 8, cellOf h3 9⟩⟩
      clear n8 n9
      refine wp_region_split 21 (fun w' => Below w8.heap.size w8 w') (by kernel_rfl) (by kernel_rfl) (by kernel_rfl) (by decide) ((Below.refl _ _).drew) (fun hS => ?_)
      simp only [List.take_succ_cons, List.take_zero, List.drop_succ_cons, List.drop_zero]
      refine wpAnyH_take (i := 0) (oi := _) (v := ?_) rfl (by kernel_rfl) (by kernel_rfl) (by kernel_rfl) (fun _ _ _ h => h) (Or.inl ⟨by rfl, ?_⟩) hS ?_
      rotate_left
      · intro w' hw'
        have hcells := HC6.out w' hw'
        go_simp
        (try with_reducible rfl)
      simp only [Act.put, List.setIfInBounds_toArray, List.set_cons_zero, List.set_cons_succ]
      refine wpAnyH_take (i := 1) (oi := _) (v := ?_) rfl (by kernel_rfl) (by kernel_rfl) (by kernel_rfl) (fun _ _ _ h => h) (Or.inl ⟨by rfl, ?_⟩) hS ?_
      rotate_left
      · intro w' hw'
        have hcells := HC6.out w' hw'
        go_simp
        (try with_reducible rfl)
      simp only [Act.put, List.setIfInBounds_toArray, List.set_cons_zero, List.set_cons_succ]
      refine wpAnyH_take (i := 3) (oi := _) (v := ?_) rfl (by kernel_rfl) (by kernel_rfl) (by kernel_rfl) (fun _ _ _ h => h) (Or.inl ⟨by rfl, ?_⟩) hS ?_
      rotate_left
      · intro w' hw'
        have hcells := HC6.out w' hw'
        go_simp
        (try with_reducible rfl)
      simp only [Act.put, List.setIfInBounds_toArray, List.set_cons_zero, List.set_cons_succ]
      refine wpAnyH_take (i := 4) (oi := _) (v := ?_) rfl (by kernel_rfl) (by kernel_rfl) (by kernel_rfl) (fun _ _ _ h => h) (Or.inl ⟨by rfl, ?_⟩) hS ?_
      rotate_left
      · intro w' hw'
        have hcells := HC6.out w' hw'
        go_simp
        (try with_reducible rfl)
      simp only [Act.put, List.setIfInBounds_toArray, List.set_cons_zero, List.set_cons_succ]
      refine wpAnyH_ready (rs := [2]) (by kernel_rfl) (by simp) ?_
      refine AllReadyH.cons (o := _) rfl (fun K hK => ?_) AllReadyH.nil
      go_simp; go_at_call 27; refine (HU.out _ (HX8.out.trans (hS.mono HX8.out.size))).mono ?_
      rintro e w9 ⟨⟨ue, ua, un, uc⟩, rfl, hb1, hu1⟩
      have HU1 := hid hu1
      clear hu1
      refine hK.out _ _ (hS.trans (hb1.mono hS.size)) (fun hS => ?_)
      clear hK K
      (try simp only [Act.put, List.setIfInBounds_toArray, List.set_cons_zero, List.set_cons_succ])
      refine wpAnyH_ready (rs := [5]) (by kernel_rfl) (by simp) ?_
      refine AllReadyH.cons (o := _) rfl (fun K hK => ?_) AllReadyH.nil
      go_simp; go_at_call 25; refine (HCH.out _ (HX8.out.trans (hS.mono HX8.out.size))).mono ?_
      rintro e w10 ⟨⟨ve, va, vn, vc⟩, rfl, hb1, hu2⟩
      have HSS := hid (HSSX.out w10 ⟨ue, ua, un, uc⟩ ⟨ve, va, vn, vc⟩ (HU1.out.same (S' := fun b => b < w10.heap.size) fun b q => ⟨Nat.lt_of_lt_of_le q.2 hb1.size, hb1.block b q.2⟩) (hu2.same (S' := fun b => b < w10.heap.size) fun b q => ⟨q.2, rfl⟩))
      clear hu2
      refine hK.out _ _ (hS.trans (hb1.mono hS.size)) (fun hS => ?_)
      clear hK K
      (try simp only [Act.put, List.setIfInBounds_toArray, List.set_cons_zero, List.set_cons_succ])
      refine wpAnyH_ready (rs := [6]) (by kernel_rfl) (by simp) ?_
      refine AllReadyH.cons (o := _) rfl (fun K hK => ?_) AllReadyH.nil
      go_simp; go_at_call 26; refine HSS.out.mono ?_
      rintro e w11 ⟨rfl, hb1⟩
      refine hK.out _ _ (hS.trans (hb1.mono hS.size)) (fun hS => ?_)
      clear hK K
      (try simp only [Act.put, List.setIfInBounds_toArray, List.set_cons_zero, List.set_cons_succ])
      refine wpAnyH_take (i := 7) (oi := _) (v := ?_) rfl (by kernel_rfl) (by kernel_rfl) (by kernel_rfl) (fun _ _ _ h => h) (Or.inl ⟨by rfl, ?_⟩) hS ?_
      rotate_left
      · intro w' hw'
        have hcells := HC6.out w' hw'
        go_simp
        (try with_reducible rfl)
      simp only [Act.put, List.setIfInBounds_toArray, List.set_cons_zero, List.set_cons_succ]
      refine wpAnyH_take (i := 8) (oi := _) (v := ?_) rfl (by kernel_rfl) (by kernel_rfl) (by kernel_rfl) (fun _ _ _ h => h) (Or.inl ⟨by rfl, ?_⟩) hS ?_
      rotate_left
      · intro w' hw'
        have hcells := HC6.out w' hw'
        go_simp
        (try with_reducible rfl)
      simp only [Act.put, List.setIfInBounds_toArray, List.set_cons_zero, List.set_cons_succ]
      refine wpAnyH_take (i := 9) (oi := _) (v := ?_) rfl (by kernel_rfl) (by kernel_rfl) (by kernel_rfl) (fun _ _ _ h => h) (Or.inl ⟨by rfl, ?_⟩) hS ?_
      rotate_left
      · intro w' hw'
        have hcells := HC6.out w' hw'
        go_simp
        (try with_reducible rfl)
      simp only [Act.put, List.setIfInBounds_toArray, List.set_cons_zero, List.set_cons_succ]
      refine wpAnyH_take (i := 11) (oi := _) (v := ?_) rfl (by kernel_rfl) (by kernel_rfl) (by kernel_rfl) (fun _ _ _ h => h) (Or.inl ⟨by rfl, ?_⟩) hS ?_
      rotate_left
      · intro w' hw'
        have hcells := HC6.out w' hw'
        go_simp
        (try with_reducible rfl)
      simp only [Act.put, List.setIfInBounds_toArray, List.set_cons_zero, List.set_cons_succ]
      refine wpAnyH_ready (rs := [10]) (by kernel_rfl) (by simp) ?_
      refine AllReadyH.cons (o := _) rfl (fun K hK => ?_) AllReadyH.nil
      go_simp; go_at_call 28; refine (HWI.out _ (HX8.out.trans (hS.mono HX8.out.size))).mono ?_
      rintro e w12 ⟨⟨⟨xe, xa, xn, xc⟩, xm, xb, xbn, xbc, ⟨yk, yi, ys, yt, yla, yll, ylc, yfa, yfl, yfc⟩⟩, rfl, hb1, hi1⟩
      have HSM := hid (HSA.out w12 _ (HX8.out.trans ((hS.trans (hb1.mono hS.size)).mono HX8.out.size)) (hi1.same (S' := fun b => b < w12.heap.size) fun b q => ⟨q.2, rfl⟩))
      clear hi1
      refine hK.out _ _ (hS.trans (hb1.mono hS.size)) (fun hS => ?_)
      clear hK K
      (try simp only [Act.put, List.setIfInBounds_toArray, List.set_cons_zero, List.set_cons_succ])
      refine wpAnyH_ready (rs := [12]) (by kernel_rfl) (by simp) ?_
      refine AllReadyH.cons (o := _) rfl (fun K hK => ?_) AllReadyH.nil
      go_simp; go_at_call 21; refine HSM.out.mono ?_
      rintro e w13 ⟨rfl, hb1⟩
      refine hK.out _ _ (hS.trans (hb1.mono hS.size)) (fun hS => ?_)
      clear hK K
      (try simp only [Act.put, List.setIfInBounds_toArray, List.set_cons_zero, List.set_cons_succ])
      refine wpAnyH_take (i := 13) (oi := _) (v := ?_) rfl (by kernel_rfl) (by kernel_rfl) (by kernel_rfl) (fun _ _ _ h => h) (Or.inl ⟨by rfl, ?_⟩) hS ?_
      rotate_left
      · intro w' hw'
        have hcells := HC6.out w' hw'
        go_simp
        (try with_reducible rfl)
      simp only [Act.put, List.setIfInBounds_toArray, List.set_cons_zero, List.set_cons_succ]
      refine wpAnyH_take (i := 14) (oi := _) (v := ?_) rfl (by kernel_rfl) (by kernel_rfl) (by kernel_rfl) (fun _ _ _ h => h) (Or.inl ⟨by rfl, ?_⟩) hS ?_
      rotate_left
      · intro w' hw'
        have hcells := HC6.out w' hw'
        go_simp
        (try with_reducible rfl)
      simp only [Act.put, List.setIfInBounds_toArray, List.set_cons_zero, List.set_cons_succ]
      refine wpAnyH_take (i := 15) (oi := _) (v := ?_) rfl (by kernel_rfl) (by kernel_rfl) (by kernel_rfl) (fun _ _ _ h => h) (Or.inl ⟨by rfl, ?_⟩) hS ?_
      rotate_left
      · intro w' hw'
        have hcells := HC6.out w' hw'
        go_simp
        (try with_reducible rfl)
      simp only [Act.put, List.setIfInBounds_toArray, List.set_cons_zero, List.set_cons_succ]
      refine wpAnyH_take (i := 16) (oi := _) (v := ?_) rfl (by kernel_rfl) (by kernel_rfl) (by kernel_rfl) (fun _ _ _ h => h) (Or.inl ⟨by rfl, ?_⟩) hS ?_
      rotate_left
      · intro w' hw'
        have hcells := HC6.out w' hw'
        go_simp
        (try with_reducible rfl)
      simp only [Act.put, List.setIfInBounds_toArray, List.set_cons_zero, List.set_cons_succ]
      refine wpAnyH_take (i := 18) (oi := _) (v := ?_) rfl (by kernel_rfl) (by kernel_rfl) (by kernel_rfl) (fun _ _ _ h => h) (Or.inl ⟨by rfl, ?_⟩) hS ?_
      rotate_left
      · intro w' hw'
        have hcells := HC6.out w' hw'
        go_simp
        (try with_reducible rfl)
      simp only [Act.put, List.setIfInBounds_toArray, List.set_cons_zero, List.set_cons_succ]
      refine wpAnyH_ready (rs := [17]) (by kernel_rfl) (by simp) ?_
      refine AllReadyH.cons (o := _) rfl (fun K hK => ?_) AllReadyH.nil
      go_simp; go_at_call 29; refine (HMO.out _ (HX8.out.trans (hS.mono HX8.out.size))).mono ?_
      rintro e w14 ⟨⟨⟨xe2, xa2, xn2, xc2⟩, xm2, xb2, xbn2, xbc2, ⟨yk2, yi2, ys2, yt2, yla2, yll2, ylc2, yfa2, yfl2, yfc2⟩⟩, rfl, hb1, hi1⟩
      have HSM2 := hid (HSB.out w14 _ (HX8.out.trans ((hS.trans (hb1.mono hS.size)).mono HX8.out.size)) (hi1.same (S' := fun b => b < w14.heap.size) fun b q => ⟨q.2, rfl⟩))
      clear hi1
      refine hK.out _ _ (hS.trans (hb1.mono hS.size)) (fun hS => ?_)
      clear hK K
      (try simp only [Act.put, List.setIfInBounds_toArray, List.set_cons_zero, List.set_cons_succ])
      refine wpAnyH_ready (rs := [19]) (by kernel_rfl) (by simp) ?_
      refine AllReadyH.cons (o := _) rfl (fun K hK => ?_) AllReadyH.nil
      go_simp; go_at_call 21; refine HSM2.out.mono ?_
      rintro e w15 ⟨rfl, hb1⟩
      refine hK.out _ _ (hS.trans (hb1.mono hS.size)) (fun hS => ?_)
      clear hK K
      (try simp only [Act.put, List.setIfInBounds_toArray, List.set_cons_zero, List.set_cons_succ])
      refine wpAnyH_take (i := 20) (oi := _) (v := ?_) rfl (by kernel_rfl) (by kernel_rfl) (by kernel_rfl) (fun _ _ _ h => h) (Or.inl ⟨by rfl, ?_⟩) hS ?_
      rotate_left
      · intro w' hw'
        have hcells := HC6.out w' hw'
        go_simp
        (try with_reducible rfl)
      simp only [Act.put, List.setIfInBounds_toArray, List.set_cons_zero, List.set_cons_succ]
      refine wpAnyH_done (by kernel_rfl) ?_ _
      (try dsimp only)
      go_wp2
      go_ret
      have h1 := HWX.out.trans (HX8.out.mono HWX.out.size)
      exact ⟨rfl, h1.trans (hS.mono h1.size)⟩
    refine AllReadyH.cons (o := _) rfl (fun K hK => ?_) AllReadyH.nil
    go_simp
    refine hK.out _ _ (hS.trans (((Below.refl _ _).alloc (Nat.le_refl _) _).mono hS.size)) (fun hS => ?_)
    clear hK K
    (try simp only [Act.put, List.setIfInBounds_toArray, List.set_cons_zero, List.set_cons_succ])
    refine wpAnyH_ready (rs := [2]) (by kernel_rfl) (by simp) ?_
    refine AllReadyH.cons (o := _) rfl (fun K hK => ?_) AllReadyH.nil
    go_simp
    refine hK.out _ _ (hS.trans (((Below.refl _ _).alloc (Nat.le_refl _) _).mono hS.size)) (fun hS => ?_)
    clear hK K
    (try simp only [Act.put, List.setIfInBounds_toArray, List.set_cons_zero, List.set_cons_succ])
    refine wpAnyH_ready (rs := [4]) (by kernel_rfl) (by simp) ?_
    refine AllReadyH.cons (o := _) rfl (fun K hK => ?_) AllReadyH.nil
    generalize hw4 : World.alloc (World.alloc _ _) _ = w4 at hS ⊢
    have k1 : w4.heap[wx.heap.size]? = some (.cells #[.int .i64 0, .slice none 0 0, .int .i64 0, .slice none 0 0, .int .i64 0, .int .i64 0, .int .i64 0, .string ByteArray.empty, .slice none 0 0, .slice none 0 0] 31) := by rw [← hw4]; exact heapAlloc _ (heap_alloc_new _ _)
    have k2 : w4.heap[wx.heap.size + 1]? = some (.cells #[.int .i64 0, .slice none 0 0, .int .i64 0, .slice none 0 0, .int .i64 0, .int .i64 0, .int .i64 0, .string ByteArray.empty, .slice none 0 0, .slice none 0 0] 31) := by rw [← hw4]; exact heapNewAt _ _ _ (by simp)
    clear hw4
    have z0 := cellOf k2 0
    have zf0 := freeOf k2 0
    have z1 := cellOf k2 1
    have zf1 := freeOf k2 1
    have z2 := cellOf k2 2
    have zf2 := freeOf k2 2
    have z3 := cellOf k2 3
    have zf3 := freeOf k2 3
    have z4 := cellOf k2 4
    have zf4 := freeOf k2 4
    have z5 := cellOf k2 5
    have zf5 := freeOf k2 5
    have z6 := cellOf k2 6
    have zf6 := freeOf k2 6
    have z7 := cellOf k2 7
    have zf7 := freeOf k2 7
    have z8 := cellOf k2 8
    have zf8 := freeOf k2 8
    have z9 := cellOf k2 9
    have zf9 := freeOf k2 9
    (try dsimp only at z0 z1 z2 z3 z4 z5 z6 z7 z8 z9)
    go_simp
    obtain ⟨w5, hw5⟩ : ∃ w5, w5 = setTen w4 (wx.heap.size + 1) ⟨⟨ce, sa, sn, sc⟩, m, a, n, cap, ⟨k, i', s, t, la, ll, lc, fa, fl, fc⟩⟩ := ⟨_, rfl⟩
    dsimp only [setTen] at hw5
    rw [← hw5]
    have m8 : w5.heap[(wx.heap.size + 1)]? = some (.cells #[.int .i64 ce, .slice sa sn sc, .int .i64 m, .slice a n cap, .int .i64 k, .int .i64 i', .int .i64 s, .string t, .slice la ll lc, .slice fa fl fc] 31) := by rw [hw5]; exact setTen_heap (c := ⟨⟨ce, sa, sn, sc⟩, m, a, n, cap, ⟨k, i', s, t, la, ll, lc, fa, fl, fc⟩⟩) k2
    have m9 : w5.heap[wx.heap.size]? = some (.cells #[.int .i64 0, .slice none 0 0, .int .i64 0, .slice none 0 0, .int .i64 0, .int .i64 0, .int .i64 0, .string ByteArray.empty, .slice none 0 0, .slice none 0 0] 31) := by rw [hw5]; exact (setTen_other (c := ⟨⟨ce, sa, sn, sc⟩, m, a, n, cap, ⟨k, i', s, t, la, ll, lc, fa, fl, fc⟩⟩) w4 (wx.heap.size + 1) wx.heap.size (by omega)).trans k1
    have hS5 : Below wx.heap.size wx w5 := by rw [hw5]; exact Below.trans (show Below wx.heap.size wx w4 from ⟨hS.os, hS.tape, hS.output, hS.size, hS.block⟩) (setTen_below (c := ⟨⟨ce, sa, sn, sc⟩, m, a, n, cap, ⟨k, i', s, t, la, ll, lc, fa, fl, fc⟩⟩) w4 (wx.heap.size + 1) wx.heap.size (by omega))
    have M8 := hid m8
    have M9 := hid m9
    have HS5 := hid hS5
    clear m8 m9 k1 k2 hw5 z0 zf0 z1 zf1 z2 zf2 z3 zf3 z4 zf4 z5 zf5 z6 zf6 z7 zf7 z8 zf8 z9 zf9
    refine hK.out _ _ (HS5.out.drew) (fun hS => ?_)
    clear hK K
    (try simp only [Act.put, List.setIfInBounds_toArray, List.set_cons_zero, List.set_cons_succ])
    refine wpAnyH_ready (rs := [5]) (by kernel_rfl) (by simp) ?_
    refine AllReadyH.cons (o := _) rfl (fun K hK => ?_) AllReadyH.nil
    have m9 := M9.out
    have z0 := cellOf m9 0
    have zf0 := freeOf m9 0
    have z1 := cellOf m9 1
    have zf1 := freeOf m9 1
    have z2 := cellOf m9 2
    have zf2 := freeOf m9 2
    have z3 := cellOf m9 3
    have zf3 := freeOf m9 3
    have z4 := cellOf m9 4
    have zf4 := freeOf m9 4
    have z5 := cellOf m9 5
    have zf5 := freeOf m9 5
    have z6 := cellOf m9 6
    have zf6 := freeOf m9 6
    have z7 := cellOf m9 7
    have zf7 := freeOf m9 7
    have z8 := cellOf m9 8
    have zf8 := freeOf m9 8
    have z9 := cellOf m9 9
    have zf9 := freeOf m9 9
    (try dsimp only at z0 z1 z2 z3 z4 z5 z6 z7 z8 z9)
    clear m9
    go_simp
    obtain ⟨w6, hw6⟩ : ∃ w6, w6 = setTen w5 wx.heap.size ⟨⟨ce, sa, sn, sc⟩, m, a, n, cap, ⟨k, i', s, t, la, ll, lc, fa, fl, fc⟩⟩ := ⟨_, rfl⟩
    dsimp only [setTen] at hw6
    rw [← hw6]
    have n9 := hid (show w6.heap[wx.heap.size]? = some (.cells #[.int .i64 ce, .slice sa sn sc, .int .i64 m, .slice a n cap, .int .i64 k, .int .i64 i', .int .i64 s, .string t, .slice la ll lc, .slice fa fl fc] 31) by rw [hw6]; exact setTen_heap (c := ⟨⟨ce, sa, sn, sc⟩, m, a, n, cap, ⟨k, i', s, t, la, ll, lc, fa, fl, fc⟩⟩) M9.out)
    have n8 := hid (show w6.heap[(wx.heap.size + 1)]? = some (.cells #[.int .i64 ce, .slice sa sn sc, .int .i64 m, .slice a n cap, .int .i64 k, .int .i64 i', .int .i64 s, .string t, .slice la ll lc, .slice fa fl fc] 31) by rw [hw6]; exact (setTen_other (c := ⟨⟨ce, sa, sn, sc⟩, m, a, n, cap, ⟨k, i', s, t, la, ll, lc, fa, fl, fc⟩⟩) w5 wx.heap.size (wx.heap.size + 1) (by omega)).trans M8.out)
    have HS6 := hid (show Below wx.heap.size wx w6 by rw [hw6]; exact HS5.out.trans (setTen_below (c := ⟨⟨ce, sa, sn, sc⟩, m, a, n, cap, ⟨k, i', s, t, la, ll, lc, fa, fl, fc⟩⟩) w5 wx.heap.size wx.heap.size (by omega)))
    clear hw6 M8 M9 HS5 z0 zf0 z1 zf1 z2 zf2 z3 zf3 z4 zf4 z5 zf5 z6 zf6 z7 zf7 z8 zf8 z9 zf9
    refine hK.out _ _ (HS6.out.drew) (fun hS => ?_)
    clear hK K
    (try simp only [Act.put, List.setIfInBounds_toArray, List.set_cons_zero, List.set_cons_succ])
    refine wpAnyH_done (by kernel_rfl) ?_ _
    (try dsimp only)
    clear hS
    go_upto_region 5 with (fail)
    refine wp_region_held_drew (S := (fun w' => Below wx.heap.size wx w')) (by kernel_rfl) (HS6.out.drew.drew) (fun hS => ?_)
    refine wpAnyH_take (i := 0) (oi := _) (v := ?_) rfl (by kernel_rfl) (by kernel_rfl) (by kernel_rfl) (fun _ _ _ h => h) (Or.inl ⟨by rfl, ?_⟩) hS ?_
    rotate_left
    · intro w' hw'
      have hcells := HCX.out w' hw'
      go_simp
      (try with_reducible rfl)
    simp only [Act.put, List.setIfInBounds_toArray, List.set_cons_zero, List.set_cons_succ]
    refine wpAnyH_take (i := 1) (oi := _) (v := ?_) rfl (by kernel_rfl) (by kernel_rfl) (by kernel_rfl) (fun _ _ _ h => h) (Or.inl ⟨by rfl, ?_⟩) hS ?_
    rotate_left
    · intro w' hw'
      have hcells := HCX.out w' hw'
      go_simp
      (try with_reducible rfl)
    simp only [Act.put, List.setIfInBounds_toArray, List.set_cons_zero, List.set_cons_succ]
    refine wpAnyH_take (i := 2) (oi := _) (v := ?_) rfl (by kernel_rfl) (by kernel_rfl) (by kernel_rfl) (fun _ _ _ h => h) (Or.inl ⟨by rfl, ?_⟩) hS ?_
    rotate_left
    · intro w' hw'
      have hcells := HCX.out w' hw'
      go_simp
      (try with_reducible rfl)
    simp only [Act.put, List.setIfInBounds_toArray, List.set_cons_zero, List.set_cons_succ]
    refine wpAnyH_ready (rs := [3]) (by kernel_rfl) (by simp) ?_
    refine AllReadyH.cons (o := _) rfl (fun K hK => ?_) AllReadyH.nil
    generalize hw7 : World.drew _ = w7 at hS ⊢
    have k8 : w7.heap[(wx.heap.size + 1)]? = some (.cells #[.int .i64 ce, .slice sa sn sc, .int .i64 m, .slice a n cap, .int .i64 k, .int .i64 i', .int .i64 s, .string t, .slice la ll lc, .slice fa fl fc] 31) := by rw [← hw7]; exact n8.out
    have k9 : w7.heap[wx.heap.size]? = some (.cells #[.int .i64 ce, .slice sa sn sc, .int .i64 m, .slice a n cap, .int .i64 k, .int .i64 i', .int .i64 s, .string t, .slice la ll lc, .slice fa fl fc] 31) := by rw [← hw7]; exact n9.out
    clear hw7
    have z4 := cellOf k8 4
    have zf4 := freeOf k8 4
    have z5 := cellOf k8 5
    have zf5 := freeOf k8 5
    have z6 := cellOf k8 6
    have zf6 := freeOf k8 6
    have z7 := cellOf k8 7
    have zf7 := freeOf k8 7
    have z8 := cellOf k8 8
    have zf8 := freeOf k8 8
    have z9 := cellOf k8 9
    have zf9 := freeOf k8 9
    (try dsimp only at z4 z5 z6 z7 z8 z9)
    go_simp
    obtain ⟨w71, hw71⟩ : ∃ w71, w71 = setSix w7 (wx.heap.size + 1) ⟨9, 0, 0, ⟨#[]⟩, none, 0, 0, none, 0, 0⟩ := ⟨_, rfl⟩
    dsimp only [setSix] at hw71
    rw [← hw71]
    have m8 : w71.heap[(wx.heap.size + 1)]? = some (.cells #[.int .i64 ce, .slice sa sn sc, .int .i64 m, .slice a n cap, .int .i64 9, .int .i64 0, .int .i64 0, .string ⟨#[]⟩, .slice none 0 0, .slice none 0 0] 31) := by
      have h := (heapSet (o := 9) (.slice none 0 0) (heapSet (o := 8) (.slice none 0 0) (heapSet (o := 7) (.string ⟨#[]⟩) (heapSet (o := 6) (.int .i64 0) (heapSet (o := 5) (.int .i64 0) (heapSet (o := 4) (.int .i64 9) k8))))))
      simp only [List.setIfInBounds_toArray, List.set_cons_zero, List.set_cons_succ] at h
      rw [hw71]; exact h
    have m9 : w71.heap[wx.heap.size]? = some (.cells #[.int .i64 ce, .slice sa sn sc, .int .i64 m, .slice a n cap, .int .i64 k, .int .i64 i', .int .i64 s, .string t, .slice la ll lc, .slice fa fl fc] 31) := by rw [hw71]; exact (setSix_other (c := ⟨9, 0, 0, ⟨#[]⟩, none, 0, 0, none, 0, 0⟩) w7 (wx.heap.size + 1) wx.heap.size (by omega)).trans k9
    have hS7 : Below wx.heap.size wx w71 := by rw [hw71]; exact Below.trans hS (setSix_below (c := ⟨9, 0, 0, ⟨#[]⟩, none, 0, 0, none, 0, 0⟩) w7 (wx.heap.size + 1) wx.heap.size (by omega))
    have M8 := hid m8
    have M9 := hid m9
    have HS7 := hid hS7
    clear m8 m9 k8 k9 hw71 z4 zf4 z5 zf5 z6 zf6 z7 zf7 z8 zf8 z9 zf9
    refine hK.out _ _ (HS7.out) (fun hS => ?_)
    clear hK K
    (try simp only [Act.put, List.setIfInBounds_toArray, List.set_cons_zero, List.set_cons_succ])
    refine wpAnyH_take (i := 4) (oi := _) (v := ?_) rfl (by kernel_rfl) (by kernel_rfl) (by kernel_rfl) (fun _ _ _ h => h) (Or.inl ⟨by rfl, ?_⟩) hS ?_
    rotate_left
    · intro w' hw'
      have hcells := HCX.out w' hw'
      go_simp
      (try with_reducible rfl)
    simp only [Act.put, List.setIfInBounds_toArray, List.set_cons_zero, List.set_cons_succ]
    refine wpAnyH_ready (rs := [5]) (by kernel_rfl) (by simp) ?_
    refine AllReadyH.cons (o := _) rfl (fun K hK => ?_) AllReadyH.nil
    have m9 := M9.out
    have z0 := cellOf m9 0
    have zf0 := freeOf m9 0
    have z1 := cellOf m9 1
    have zf1 := freeOf m9 1
    (try dsimp only at z0 z1)
    clear m9
    go_simp
    obtain ⟨w8, hw8⟩ : ∃ w8, w8 = setTwo w71 wx.heap.size ⟨te, ta, tn, tc⟩ := ⟨_, rfl⟩
    dsimp only [setTwo] at hw8
    rw [← hw8]
    have n9 := hid (show w8.heap[wx.heap.size]? = some (.cells #[.int .i64 te, .slice ta tn tc, .int .i64 m, .slice a n cap, .int .i64 k, .int .i64 i', .int .i64 s, .string t, .slice la ll lc, .slice fa fl fc] 31) by
      have h := (heapSet (o := 1) (.slice ta tn tc) (heapSet (o := 0) (.int .i64 te) M9.out))
      simp only [List.setIfInBounds_toArray, List.set_cons_zero, List.set_cons_succ] at h
      rw [hw8]; exact h)
    have n8 := hid (show w8.heap[(wx.heap.size + 1)]? = some (.cells #[.int .i64 ce, .slice sa sn sc, .int .i64 m, .slice a n cap, .int .i64 9, .int .i64 0, .int .i64 0, .string ⟨#[]⟩, .slice none 0 0, .slice none 0 0] 31) by rw [hw8]; exact (setTwo_other (c := ⟨te, ta, tn, tc⟩) w71 wx.heap.size (wx.heap.size + 1) (by omega)).trans M8.out)
    have HX8 := hid (show Below wx.heap.size wx w8 by rw [hw8]; exact HS7.out.trans (setTwo_below (c := ⟨te, ta, tn, tc⟩) w71 wx.heap.size wx.heap.size (by omega)))
    clear hw8 M8 M9 HS7 z0 zf0 z1 zf1
    refine hK.out _ _ (HX8.out) (fun hS => ?_)
    clear hK K
    (try simp only [Act.put, List.setIfInBounds_toArray, List.set_cons_zero, List.set_cons_succ])
    refine wpAnyH_done (by kernel_rfl) ?_ _
    (try dsimp only)
    clear hS
    go_upto_region 6 with (fail)
    have HC6 : Hid (∀ w', Below w8.heap.size w8 w' → (w'.cell? ⟨w.heap.size, 0, none⟩ = some (.int .i64 ce) ∧ w'.cell? ⟨w.heap.size, 1, none⟩ = some (.slice sa sn sc) ∧ w'.cell? ⟨w.heap.size, 2, none⟩ = some (.int .i64 m) ∧ w'.cell? ⟨w.heap.size, 3, none⟩ = some (.slice a n cap) ∧ w'.cell? ⟨w.heap.size, 4, none⟩ = some (.int .i64 k) ∧ w'.cell? ⟨w.heap.size, 5, none⟩ = some (.int .i64 i') ∧ w'.cell? ⟨w.heap.size, 6, none⟩ = some (.int .i64 s) ∧ w'.cell? ⟨w.heap.size, 7, none⟩ = some (.string t) ∧ w'.cell? ⟨w.heap.size, 8, none⟩ = some (.slice la ll lc) ∧ w'.cell? ⟨w.heap.size, 9, none⟩ = some (.slice fa fl fc)) ∧ (w'.cell? ⟨(w.heap.size + 1), 0, none⟩ = some (.int .i64 te) ∧ w'.cell? ⟨(w.heap.size + 1), 1, none⟩ = some (.slice ta tn tc)) ∧ (w'.cell? ⟨w3.heap.size, 0, none⟩ = some (.int .i64 9) ∧ w'.cell? ⟨w3.heap.size, 1, none⟩ = some (.int .i64 0) ∧ w'.cell? ⟨w3.heap.size, 2, none⟩ = some (.int .i64 0) ∧ w'.cell? ⟨w3.heap.size, 3, none⟩ = some (.string ⟨#[]⟩) ∧ w'.cell? ⟨w3.heap.size, 4, none⟩ = some (.slice none 0 0) ∧ w'.cell? ⟨w3.heap.size, 5, none⟩ = some (.slice none 0 0)) ∧ (w'.cell? ⟨(wx.heap.size + 1), 0, none⟩ = some (.int .i64 ce) ∧ w'.cell? ⟨(wx.heap.size + 1), 1, none⟩ = some (.slice sa sn sc) ∧ w'.cell? ⟨(wx.heap.size + 1), 2, none⟩ = some (.int .i64 m) ∧ w'.cell? ⟨(wx.heap.size + 1), 3, none⟩ = some (.slice a n cap) ∧ w'.cell? ⟨(wx.heap.size + 1), 4, none⟩ = some (.int .i64 9) ∧ w'.cell? ⟨(wx.heap.size + 1), 5, none⟩ = some (.int .i64 0) ∧ w'.cell? ⟨(wx.heap.size + 1), 6, none⟩ = some (.int .i64 0) ∧ w'.cell? ⟨(wx.heap.size + 1), 7, none⟩ = some (.string ⟨#[]⟩) ∧ w'.cell? ⟨(wx.heap.size + 1), 8, none⟩ = some (.slice none 0 0) ∧ w'.cell? ⟨(wx.heap.size + 1), 9, none⟩ = some (.slice none 0 0)) ∧ (w'.cell? ⟨wx.heap.size, 0, none⟩ = some (.int .i64 te) ∧ w'.cell? ⟨wx.heap.size, 1, none⟩ = some (.slice ta tn tc) ∧ w'.cell? ⟨wx.heap.size, 2, none⟩ = some (.int .i64 m) ∧ w'.cell? ⟨wx.heap.size, 3, none⟩ = some (.slice a n cap) ∧ w'.cell? ⟨wx.heap.size, 4, none⟩ = some (.int .i64 k) ∧ w'.cell? ⟨wx.heap.size, 5, none⟩ = some (.int .i64 i') ∧ w'.cell? ⟨wx.heap.size, 6, none⟩ = some (.int .i64 s) ∧ w'.cell? ⟨wx.heap.size, 7, none⟩ = some (.string t) ∧ w'.cell? ⟨wx.heap.size, 8, none⟩ = some (.slice la ll lc) ∧ w'.cell? ⟨wx.heap.size, 9, none⟩ = some (.slice fa fl fc))) := hid fun w' h => by
      have h1 := HCX.out w' (HX8.out.trans (h.mono HX8.out.size))
      have h2 := heapExt h n8.out
      have h3 := heapExt h n9.out
      exact ⟨h1.1, h1.2.1, h1.2.2, ⟨cellOf h2 0, cellOf h2 1, cellOf h2 2, cellOf h2 3, cellOf h2 4, cellOf h2 5, cellOf h2 6, cellOf h2 7, cellOf h2 8, cellOf h2 9⟩, ⟨cellOf h3 0, cellOf h3 1, cellOf h3 2, cellOf h3 3, cellOf h3 4, cellOf h3 5, cellOf h3 6, cellOf h3 7, cellOf h3 8, cellOf h3 9⟩⟩
    clear n8 n9
    refine wp_region_split 21 (fun w' => Below w8.heap.size w8 w') (by kernel_rfl) (by kernel_rfl) (by kernel_rfl) (by decide) ((Below.refl _ _).drew) (fun hS => ?_)
    simp only [List.take_succ_cons, List.take_zero, List.drop_succ_cons, List.drop_zero]
    refine wpAnyH_take (i := 0) (oi := _) (v := ?_) rfl (by kernel_rfl) (by kernel_rfl) (by kernel_rfl) (fun _ _ _ h => h) (Or.inl ⟨by rfl, ?_⟩) hS ?_
    rotate_left
    · intro w' hw'
      have hcells := HC6.out w' hw'
      go_simp
      (try with_reducible rfl)
    simp only [Act.put, List.setIfInBounds_toArray, List.set_cons_zero, List.set_cons_succ]
    refine wpAnyH_take (i := 1) (oi := _) (v := ?_) rfl (by kernel_rfl) (by kernel_rfl) (by kernel_rfl) (fun _ _ _ h => h) (Or.inl ⟨by rfl, ?_⟩) hS ?_
    rotate_left
    · intro w' hw'
      have hcells := HC6.out w' hw'
      go_simp
      (try with_reducible rfl)
    simp only [Act.put, List.setIfInBounds_toArray, List.set_cons_zero, List.set_cons_succ]
    refine wpAnyH_take (i := 3) (oi := _) (v := ?_) rfl (by kernel_rfl) (by kernel_rfl) (by kernel_rfl) (fun _ _ _ h => h) (Or.inl ⟨by rfl, ?_⟩) hS ?_
    rotate_left
    · intro w' hw'
      have hcells := HC6.out w' hw'
      go_simp
      (try with_reducible rfl)
    simp only [Act.put, List.setIfInBounds_toArray, List.set_cons_zero, List.set_cons_succ]
    refine wpAnyH_take (i := 4) (oi := _) (v := ?_) rfl (by kernel_rfl) (by kernel_rfl) (by kernel_rfl) (fun _ _ _ h => h) (Or.inl ⟨by rfl, ?_⟩) hS ?_
    rotate_left
    · intro w' hw'
      have hcells := HC6.out w' hw'
      go_simp
      (try with_reducible rfl)
    simp only [Act.put, List.setIfInBounds_toArray, List.set_cons_zero, List.set_cons_succ]
    refine wpAnyH_ready (rs := [2]) (by kernel_rfl) (by simp) ?_
    refine AllReadyH.cons (o := _) rfl (fun K hK => ?_) AllReadyH.nil
    go_simp; go_at_call 27; refine (HU.out _ (HX8.out.trans (hS.mono HX8.out.size))).mono ?_
    rintro e w9 ⟨⟨ue, ua, un, uc⟩, rfl, hb1, hu1⟩
    have HU1 := hid hu1
    clear hu1
    refine hK.out _ _ (hS.trans (hb1.mono hS.size)) (fun hS => ?_)
    clear hK K
    (try simp only [Act.put, List.setIfInBounds_toArray, List.set_cons_zero, List.set_cons_succ])
    refine wpAnyH_ready (rs := [5]) (by kernel_rfl) (by simp) ?_
    refine AllReadyH.cons (o := _) rfl (fun K hK => ?_) AllReadyH.nil
    go_simp; go_at_call 25; refine (HCH.out _ (HX8.out.trans (hS.mono HX8.out.size))).mono ?_
    rintro e w10 ⟨⟨ve, va, vn, vc⟩, rfl, hb1, hu2⟩
    have HSS := hid (HSSX.out w10 ⟨ue, ua, un, uc⟩ ⟨ve, va, vn, vc⟩ (HU1.out.same (S' := fun b => b < w10.heap.size) fun b q => ⟨Nat.lt_of_lt_of_le q.2 hb1.size, hb1.block b q.2⟩) (hu2.same (S' := fun b => b < w10.heap.size) fun b q => ⟨q.2, rfl⟩))
    clear hu2
    refine hK.out _ _ (hS.trans (hb1.mono hS.size)) (fun hS => ?_)
    clear hK K
    (try simp only [Act.put, List.setIfInBounds_toArray, List.set_cons_zero, List.set_cons_succ])
    refine wpAnyH_ready (rs := [6]) (by kernel_rfl) (by simp) ?_
    refine AllReadyH.cons (o := _) rfl (fun K hK => ?_) AllReadyH.nil
    go_simp; go_at_call 26; refine HSS.out.mono ?_
    rintro e w11 ⟨rfl, hb1⟩
    refine hK.out _ _ (hS.trans (hb1.mono hS.size)) (fun hS => ?_)
    clear hK K
    (try simp only [Act.put, List.setIfInBounds_toArray, List.set_cons_zero, List.set_cons_succ])
    refine wpAnyH_take (i := 7) (oi := _) (v := ?_) rfl (by kernel_rfl) (by kernel_rfl) (by kernel_rfl) (fun _ _ _ h => h) (Or.inl ⟨by rfl, ?_⟩) hS ?_
    rotate_left
    · intro w' hw'
      have hcells := HC6.out w' hw'
      go_simp
      (try with_reducible rfl)
    simp only [Act.put, List.setIfInBounds_toArray, List.set_cons_zero, List.set_cons_succ]
    refine wpAnyH_take (i := 8) (oi := _) (v := ?_) rfl (by kernel_rfl) (by kernel_rfl) (by kernel_rfl) (fun _ _ _ h => h) (Or.inl ⟨by rfl, ?_⟩) hS ?_
    rotate_left
    · intro w' hw'
      have hcells := HC6.out w' hw'
      go_simp
      (try with_reducible rfl)
    simp only [Act.put, List.setIfInBounds_toArray, List.set_cons_zero, List.set_cons_succ]
    refine wpAnyH_take (i := 9) (oi := _) (v := ?_) rfl (by kernel_rfl) (by kernel_rfl) (by kernel_rfl) (fun _ _ _ h => h) (Or.inl ⟨by rfl, ?_⟩) hS ?_
    rotate_left
    · intro w' hw'
      have hcells := HC6.out w' hw'
      go_simp
      (try with_reducible rfl)
    simp only [Act.put, List.setIfInBounds_toArray, List.set_cons_zero, List.set_cons_succ]
    refine wpAnyH_take (i := 11) (oi := _) (v := ?_) rfl (by kernel_rfl) (by kernel_rfl) (by kernel_rfl) (fun _ _ _ h => h) (Or.inl ⟨by rfl, ?_⟩) hS ?_
    rotate_left
    · intro w' hw'
      have hcells := HC6.out w' hw'
      go_simp
      (try with_reducible rfl)
    simp only [Act.put, List.setIfInBounds_toArray, List.set_cons_zero, List.set_cons_succ]
    refine wpAnyH_ready (rs := [10]) (by kernel_rfl) (by simp) ?_
    refine AllReadyH.cons (o := _) rfl (fun K hK => ?_) AllReadyH.nil
    go_simp; go_at_call 28; refine (HWI.out _ (HX8.out.trans (hS.mono HX8.out.size))).mono ?_
    rintro e w12 ⟨⟨⟨xe, xa, xn, xc⟩, xm, xb, xbn, xbc, ⟨yk, yi, ys, yt, yla, yll, ylc, yfa, yfl, yfc⟩⟩, rfl, hb1, hi1⟩
    have HSM := hid (HSA.out w12 _ (HX8.out.trans ((hS.trans (hb1.mono hS.size)).mono HX8.out.size)) (hi1.same (S' := fun b => b < w12.heap.size) fun b q => ⟨q.2, rfl⟩))
    clear hi1
    refine hK.out _ _ (hS.trans (hb1.mono hS.size)) (fun hS => ?_)
    clear hK K
    (try simp only [Act.put, List.setIfInBounds_toArray, List.set_cons_zero, List.set_cons_succ])
    refine wpAnyH_ready (rs := [12]) (by kernel_rfl) (by simp) ?_
    refine AllReadyH.cons (o := _) rfl (fun K hK => ?_) AllReadyH.nil
    go_simp; go_at_call 21; refine HSM.out.mono ?_
    rintro e w13 ⟨rfl, hb1⟩
    refine hK.out _ _ (hS.trans (hb1.mono hS.size)) (fun hS => ?_)
    clear hK K
    (try simp only [Act.put, List.setIfInBounds_toArray, List.set_cons_zero, List.set_cons_succ])
    refine wpAnyH_take (i := 13) (oi := _) (v := ?_) rfl (by kernel_rfl) (by kernel_rfl) (by kernel_rfl) (fun _ _ _ h => h) (Or.inl ⟨by rfl, ?_⟩) hS ?_
    rotate_left
    · intro w' hw'
      have hcells := HC6.out w' hw'
      go_simp
      (try with_reducible rfl)
    simp only [Act.put, List.setIfInBounds_toArray, List.set_cons_zero, List.set_cons_succ]
    refine wpAnyH_take (i := 14) (oi := _) (v := ?_) rfl (by kernel_rfl) (by kernel_rfl) (by kernel_rfl) (fun _ _ _ h => h) (Or.inl ⟨by rfl, ?_⟩) hS ?_
    rotate_left
    · intro w' hw'
      have hcells := HC6.out w' hw'
      go_simp
      (try with_reducible rfl)
    simp only [Act.put, List.setIfInBounds_toArray, List.set_cons_zero, List.set_cons_succ]
    refine wpAnyH_take (i := 15) (oi := _) (v := ?_) rfl (by kernel_rfl) (by kernel_rfl) (by kernel_rfl) (fun _ _ _ h => h) (Or.inl ⟨by rfl, ?_⟩) hS ?_
    rotate_left
    · intro w' hw'
      have hcells := HC6.out w' hw'
      go_simp
      (try with_reducible rfl)
    simp only [Act.put, List.setIfInBounds_toArray, List.set_cons_zero, List.set_cons_succ]
    refine wpAnyH_take (i := 16) (oi := _) (v := ?_) rfl (by kernel_rfl) (by kernel_rfl) (by kernel_rfl) (fun _ _ _ h => h) (Or.inl ⟨by rfl, ?_⟩) hS ?_
    rotate_left
    · intro w' hw'
      have hcells := HC6.out w' hw'
      go_simp
      (try with_reducible rfl)
    simp only [Act.put, List.setIfInBounds_toArray, List.set_cons_zero, List.set_cons_succ]
    refine wpAnyH_take (i := 18) (oi := _) (v := ?_) rfl (by kernel_rfl) (by kernel_rfl) (by kernel_rfl) (fun _ _ _ h => h) (Or.inl ⟨by rfl, ?_⟩) hS ?_
    rotate_left
    · intro w' hw'
      have hcells := HC6.out w' hw'
      go_simp
      (try with_reducible rfl)
    simp only [Act.put, List.setIfInBounds_toArray, List.set_cons_zero, List.set_cons_succ]
    refine wpAnyH_ready (rs := [17]) (by kernel_rfl) (by simp) ?_
    refine AllReadyH.cons (o := _) rfl (fun K hK => ?_) AllReadyH.nil
    go_simp; go_at_call 29; refine (HMO.out _ (HX8.out.trans (hS.mono HX8.out.size))).mono ?_
    rintro e w14 ⟨⟨⟨xe2, xa2, xn2, xc2⟩, xm2, xb2, xbn2, xbc2, ⟨yk2, yi2, ys2, yt2, yla2, yll2, ylc2, yfa2, yfl2, yfc2⟩⟩, rfl, hb1, hi1⟩
    have HSM2 := hid (HSB.out w14 _ (HX8.out.trans ((hS.trans (hb1.mono hS.size)).mono HX8.out.size)) (hi1.same (S' := fun b => b < w14.heap.size) fun b q => ⟨q.2, rfl⟩))
    clear hi1
    refine hK.out _ _ (hS.trans (hb1.mono hS.size)) (fun hS => ?_)
    clear hK K
    (try simp only [Act.put, List.setIfInBounds_toArray, List.set_cons_zero, List.set_cons_succ])
    refine wpAnyH_ready (rs := [19]) (by kernel_rfl) (by simp) ?_
    refine AllReadyH.cons (o := _) rfl (fun K hK => ?_) AllReadyH.nil
    go_simp; go_at_call 21; refine HSM2.out.mono ?_
    rintro e w15 ⟨rfl, hb1⟩
    refine hK.out _ _ (hS.trans (hb1.mono hS.size)) (fun hS => ?_)
    clear hK K
    (try simp only [Act.put, List.setIfInBounds_toArray, List.set_cons_zero, List.set_cons_succ])
    refine wpAnyH_take (i := 20) (oi := _) (v := ?_) rfl (by kernel_rfl) (by kernel_rfl) (by kernel_rfl) (fun _ _ _ h => h) (Or.inl ⟨by rfl, ?_⟩) hS ?_
    rotate_left
    · intro w' hw'
      have hcells := HC6.out w' hw'
      go_simp
      (try with_reducible rfl)
    simp only [Act.put, List.setIfInBounds_toArray, List.set_cons_zero, List.set_cons_succ]
    refine wpAnyH_done (by kernel_rfl) ?_ _
    (try dsimp only)
    go_wp2
    go_ret
    have h1 := HWX.out.trans (HX8.out.mono HWX.out.size)
    exact ⟨rfl, h1.trans (hS.mono h1.size)⟩
  · have qt' : ¬ (tn : Int) ≤ 40 := by omega
    go_wp2_with (first
    | (go_at_call 15; refine (HK.out _ hb3).mono ?_; rintro e w9 ⟨rfl, hb9⟩; have hbz := HWB.out.trans ((hb3.trans (hb9.mono hb3.size)).mono HWB.out.size))
    | (go_at_call 15; refine (HK.out _ HREF.out).mono ?_; rintro e w2 ⟨rfl, hb2⟩; rw [← HEQ.out] at hb2; obtain ⟨e0, e1, e2, e3, e4, e5, e6, e7, e8, e9, f0, f1⟩ := HC.out _ hb2)
    | (go_at_call 22; refine (HS1.out _ hb2).mono ?_; rintro e w3 ⟨⟨b1, rfl, hs1⟩, hb3'⟩; have hb3 := hb2.trans (hb3'.mono hb2.size); clear e0 e1 e2 e3 e4 e5 e6 e7 e8 e9 f0 f1; obtain ⟨j0, j1, j2, j3, j4, j5, j6, j7, j8, j9, l0, l1⟩ := HC.out _ hb3; cases b1))
    all_goals go_ret
    all_goals exact ⟨rfl, hbz⟩
end Go.Proofs.YtkcoicijenclhaaGreatDoor
