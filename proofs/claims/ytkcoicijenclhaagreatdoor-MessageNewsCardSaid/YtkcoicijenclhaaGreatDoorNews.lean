/-
  MessageNews returns true. Conditions: the arguments can be read as data; Tabs.
-/
import Derived.Test.YtkcoicijenclhaaGreatDoorOrigins
import Derived.Test.YtkcoicijenclhaaGreatDoorRefl
import Derived.Test.YtkcoicijenclhaaGreatDoorSame2
namespace Go.Proofs.YtkcoicijenclhaaGreatDoor
open Go Go.RowKit Go.Shelf
set_option linter.unusedVariables false
set_option linter.unusedSimpArgs false

theorem newMsg_ok (e : Int) (d : Val) (h : newE e d = 0) : msgE ⟨⟨e, [1]⟩, 1048576, [e], d⟩ = 0 := by
  unfold newE madeE at h
  have h1 : ¬ (e < 1 ∨ 1048576 < e ∨ (0 : Int) < 0 ∨ (128 : Int) ≤ 0) := fun q => by rw [if_pos (by rw [if_pos q])] at h; cases h
  rw [if_neg (by rw [if_neg h1]; decide)] at h
  have he : 1 ≤ e ∧ e ≤ 1048576 := by omega
  have hs : stampE ⟨e, [1]⟩ = 0 := by
    unfold stampE
    rw [if_neg (by dsimp only; omega)]
    simp [badB, stampP]
  have hent : entAt [e] 0 = 0 := by
    rw [entAt_step [e] 0 (show 0 < 1 by decide) (by simp [entryB]; omega) (.inl rfl)]
    exact entAt_end [e]
  unfold msgE
  simp only [hs, hent, h]
  simp [heavyB]
def zeroD : Msg := ⟨⟨0, []⟩, 0, [], noV⟩
abbrev zeroC : MC := ⟨⟨0, none, 0, 0⟩, 0, none, 0, 0, ⟨0, 0, 0, ⟨#[]⟩, none, 0, 0, none, 0, 0⟩⟩
theorem zero_is (S : Nat → Prop) (w : World) : IsMsg S w zeroC zeroD :=
  ⟨⟨rfl, i64_0, ⟨rfl, Nat.le_refl _, by decide, (fun x hx => by cases hx), .inl rfl⟩⟩, rfl, i64_0, ⟨rfl, Nat.le_refl _, by decide, (fun x hx => by cases hx), .inl rfl⟩, noV_is S w⟩
theorem zero_same (w : World) : Calls Tryz.prog 21 #[zeroC.v, zeroC.v] w fun e w' => e = .returned (.bool true) ∧ Below w.heap.size w w' := by
  have h := same_call zeroC zeroC zeroD zeroD w (zero_is _ w) (zero_is _ w)
  rw [msgEqB_refl] at h
  exact h

set_option maxRecDepth 100000 in
set_option maxHeartbeats 8000000 in
theorem news_call (e0 : Int) (c : VC) (d : Val) (w : World) (he0 : I64 e0) (hd : IsVal (· < w.heap.size) w c d) (hT : Tabs w) : Calls Tryz.prog 4 #[.int .i64 e0, c.v] w fun e w' => e = .returned (.bool true) ∧ Below w.heap.size w w' := by
  obtain ⟨w1, hw1⟩ : ∃ w1, w1 = w.alloc (vObj c) := ⟨_, rfl⟩
  have hb1 : Below w.heap.size w w1 := by rw [hw1]; exact (Below.refl _ w).alloc (Nat.le_refl _) _
  have hbox : w1.heap[w.heap.size]? = some (vObj c) := by rw [hw1]; exact heap_alloc_new w _
  have later : ∀ w2, Below w1.heap.size w1 w2 → Below w.heap.size w w2 ∧ IsVal (· < w2.heap.size) w2 c d ∧ Tabs w2 := fun w2 h => by
    have hb := hb1.trans (h.mono hb1.size)
    exact ⟨hb, hd.same fun b q => ⟨Nat.lt_of_lt_of_le q hb.size, hb.block b q⟩, hT.below hb⟩
  have HK : Hid (∀ w2, Below w1.heap.size w1 w2 → Calls Tryz.prog 15 #[] w2 fun e w' => e = .returned (.bool true) ∧ Below w2.heap.size w2 w') := hid fun w2 h => known_call w2 (later w2 h).2.2
  have HD : Hid (∀ w2, Below w1.heap.size w1 w2 → Calls Tryz.prog 17 #[c.v] w2 (SomeInt w2)) := hid fun w2 h => depth_call c d w2 (later w2 h).2.1
  have HS : Hid (∀ w2, Below w1.heap.size w1 w2 → Calls Tryz.prog 18 #[c.v] w2 (SomeInt w2)) := hid fun w2 h => size_call' c d w2 (later w2 h).2.1
  obtain ⟨u, hu⟩ : ∃ u, u = bodyE d := ⟨_, rfl⟩
  have HBE : Hid (∀ w2, Below w1.heap.size w1 w2 → Calls Tryz.prog 20 #[c.v] w2 fun e w' => e = .returned (.int .i64 u) ∧ Below w2.heap.size w2 w') := hid fun w2 h => by rw [hu]; exact bodyError_call c d w2 (later w2 h).2.1 (later w2 h).2.2
  have HN : Hid (∀ w2, Below w1.heap.size w1 w2 → Calls Tryz.prog 19 #[.int .i64 e0, c.v] w2 (NewPost w2 e0 d)) := hid fun w2 h => new_call e0 c d w2 he0 (later w2 h).2.1 (later w2 h).2.2
  have HU := hid (show newE e0 d = if e0 < 1 ∨ 1048576 < e0 then 2 else u by
    rw [hu]; unfold newE madeE
    by_cases h : e0 < 1 ∨ 1048576 < e0
    · rw [if_pos h, if_pos (by rw [if_pos (by omega)])]
    · rw [if_neg h, if_neg (by rw [if_neg (by omega)]; decide)])
  have SIX : Hid (∀ w2, Below w1.heap.size w1 w2 → Six w2 w.heap.size c) := hid fun w2 h => sixOf (heapExt h hbox)
  -- the comparison behind a New that went well
  have HEQ : Hid (∀ (w2 w3 : World) (c' : MC), Below w1.heap.size w1 w2 → IsMsg (· < w2.heap.size) w2 c' ⟨⟨e0, [1]⟩, 1048576, [e0], d⟩ → Below w2.heap.size w2 w3 →
      Calls Tryz.prog 21 #[c'.v, MC.v ⟨⟨e0, some ⟨w3.heap.size, 0, none⟩, 1, 1⟩, 1048576, some ⟨w3.heap.size + 1, 0, none⟩, 1, 1, c⟩] ((w3.alloc (.cells #[.int .i64 1] 3)).alloc (.cells #[.int .i64 e0] 3)) fun e w' => e = .returned (.bool true) ∧ Below w3.heap.size w3 w') := hid fun w2 w3 c' h hi h3 => by
    obtain ⟨w5, hw5⟩ : ∃ w5, w5 = ((w3.alloc (.cells #[.int .i64 1] 3)).alloc (.cells #[.int .i64 e0] 3)) := ⟨_, rfl⟩
    have h35 : Below w3.heap.size w3 w5 := by rw [hw5]; exact ((Below.refl _ w3).alloc (Nat.le_refl _) _).alloc (by simp) _
    have g0 : w5.heap[w3.heap.size]? = some (.cells #[.int .i64 1] 3) := by rw [hw5]; exact heapAlloc _ (heap_alloc_new w3 _)
    have g1 : w5.heap[w3.heap.size + 1]? = some (.cells #[.int .i64 e0] 3) := by rw [hw5]; exact heapNewAt _ _ _ (by simp)
    rw [← hw5]
    have h25 : Below w2.heap.size w2 w5 := h3.trans (h35.mono h3.size)
    have h15 : Below w1.heap.size w1 w5 := h.trans (h25.mono h.size)
    have q := same_call c' ⟨⟨e0, some ⟨w3.heap.size, 0, none⟩, 1, 1⟩, 1048576, some ⟨w3.heap.size + 1, 0, none⟩, 1, 1, c⟩ ⟨⟨e0, [1]⟩, 1048576, [e0], d⟩ ⟨⟨e0, [1]⟩, 1048576, [e0], d⟩ w5 (hi.same fun b q => ⟨Nat.lt_of_lt_of_le q h25.size, h25.block b q⟩)
      ⟨⟨rfl, he0, one_isInts _ w5 w3.heap.size 1 i64_1 (ltOf g0) g0⟩, rfl, (show I64 1048576 from ⟨by decide, by decide⟩), one_isInts _ w5 (w3.heap.size + 1) e0 he0 (ltOf g1) g1, (later w5 h15).2.1⟩
    rw [msgEqB_refl] at q
    exact q.mono fun e w' ⟨he, hb⟩ => ⟨he, h35.trans (hb.mono h35.size)⟩
  have HCK : Hid (∀ (w2 w3 : World) (c' : MC), Below w1.heap.size w1 w2 → IsMsg (· < w2.heap.size) w2 c' ⟨⟨e0, [1]⟩, 1048576, [e0], d⟩ → Below w2.heap.size w2 w3 → newE e0 d = 0 →
      Calls Tryz.prog 16 #[c'.v] w3 fun e w' => e = .returned (.int .i64 0) ∧ Below w3.heap.size w3 w') := hid fun w2 w3 c' h hi h3 h0 => by
    rw [← newMsg_ok e0 d h0]
    exact msgCheck_call c' _ w3 (hi.same fun b q => ⟨Nat.lt_of_lt_of_le q h3.size, h3.block b q⟩) (later w3 (h.trans (h3.mono h.size))).2.2
  have HB1 := hid hb1
  have HZ := hid zero_same
  clear later hd hT hb1 hbox hu he0
  obtain ⟨k, i, s, t, la, ll, lc, fa, fl, fc⟩ := c
  dsimp only [VC.v, vObj, Six, MC.v] at hw1 HK HD HS HBE HN SIX HEQ HCK HZ ⊢
  subst hw1
  go_enter Tryz.func4, Tryz.ntmps4
  go_upto_region 3 with (first
    | (go_at_call 15; refine (HK.out _ hb4).mono ?_; rintro e w9 ⟨rfl, hb9⟩; have hbz := HB1.out.trans ((hb4.trans (hb9.mono hb4.size)).mono HB1.out.size))
    | (go_at_call 15; refine (HK.out _ hb3).mono ?_; rintro e w9 ⟨rfl, hb9⟩; have hbz := HB1.out.trans ((hb3.trans (hb9.mono hb3.size)).mono HB1.out.size))
    | (go_at_call 15; refine (HK.out _ (Below.refl _ _)).mono ?_; rintro e w2 ⟨rfl, hb2⟩; obtain ⟨j0, j1, j2, j3, j4, j5⟩ := SIX.out _ hb2)
    | (go_at_call 17; refine (HD.out _ hb2).mono ?_; rintro e w3 ⟨⟨n1, rfl⟩, hb3'⟩; have hb3 := hb2.trans (hb3'.mono hb2.size); clear j0 j1 j2 j3 j4 j5; obtain ⟨k0, k1, k2, k3, k4, k5⟩ := SIX.out _ hb3; rcases Int.lt_or_le 12 n1 with hn1 | hn1)
    | (go_at_call 18; refine (HS.out _ hb3).mono ?_; rintro e w4 ⟨⟨n2, rfl⟩, hb4'⟩; have hb4 := hb3.trans (hb4'.mono hb3.size); clear k0 k1 k2 k3 k4 k5; obtain ⟨l0, l1, l2, l3, l4, l5⟩ := SIX.out _ hb4; rcases Int.lt_or_le 300 n2 with hn2 | hn2))
  · go_ret
    exact ⟨rfl, hbz⟩
  · go_ret
    exact ⟨rfl, hbz⟩
  by_cases q1 : e0 < 1
  · have HR := hid (show newE e0 d = 2 by rw [HU.out, if_pos (.inl q1)])
    have NE := hid (show newE e0 d ≠ 0 by rw [HR.out]; decide)
    go_wp2_with (first
      | (go_at_call 19; refine (HN.out _ hb4).mono ?_; rintro e w5 ⟨hb5', hne, _⟩; rw [hne NE.out, HR.out]; have hb5 := hb4.trans (hb5'.mono hb4.size); clear hne l0 l1 l2 l3 l4 l5; obtain ⟨m0, m1, m2, m3, m4, m5⟩ := SIX.out _ (hb5.alloc hb5.size (.cells #[.int .i64 0, .slice none 0 0, .int .i64 0, .slice none 0 0, .int .i64 0, .int .i64 0, .int .i64 0, .string ⟨#[]⟩, .slice none 0 0, .slice none 0 0] 31)))
      | (go_at_call 20; refine (HBE.out _ (hb5.alloc hb5.size (.cells #[.int .i64 0, .slice none 0 0, .int .i64 0, .slice none 0 0, .int .i64 0, .int .i64 0, .int .i64 0, .string ⟨#[]⟩, .slice none 0 0, .slice none 0 0] 31))).mono ?_; rintro e w6 ⟨rfl, hb6⟩; clear m0 m1 m2 m3 m4 m5; have tt := tenOf (c := zeroC) (heapExt hb6 (heap_alloc_new w5 _)); dsimp only [Ten] at tt; obtain ⟨z0, z1, z2, z3, z4, z5, z6, z7, z8, z9⟩ := tt)
      | (go_at_call 21; refine (HZ.out _).mono ?_; rintro e w7 ⟨rfl, hb7⟩))
    go_ret
    have h6 := (hb5.alloc hb5.size (.cells #[.int .i64 0, .slice none 0 0, .int .i64 0, .slice none 0 0, .int .i64 0, .int .i64 0, .int .i64 0, .string ⟨#[]⟩, .slice none 0 0, .slice none 0 0] 31)).trans (hb6.mono (Nat.le_trans hb5.size (by simp)))
    exact ⟨rfl, HB1.out.trans ((h6.trans (hb7.mono h6.size)).mono HB1.out.size)⟩
  by_cases q2 : 1048576 < e0
  · have HR := hid (show newE e0 d = 2 by rw [HU.out, if_pos (.inr q2)])
    have NE := hid (show newE e0 d ≠ 0 by rw [HR.out]; decide)
    go_wp2_with (first
      | (go_at_call 19; refine (HN.out _ hb4).mono ?_; rintro e w5 ⟨hb5', hne, _⟩; rw [hne NE.out, HR.out]; have hb5 := hb4.trans (hb5'.mono hb4.size); clear hne l0 l1 l2 l3 l4 l5; obtain ⟨m0, m1, m2, m3, m4, m5⟩ := SIX.out _ (hb5.alloc hb5.size (.cells #[.int .i64 0, .slice none 0 0, .int .i64 0, .slice none 0 0, .int .i64 0, .int .i64 0, .int .i64 0, .string ⟨#[]⟩, .slice none 0 0, .slice none 0 0] 31)))
      | (go_at_call 20; refine (HBE.out _ (hb5.alloc hb5.size (.cells #[.int .i64 0, .slice none 0 0, .int .i64 0, .slice none 0 0, .int .i64 0, .int .i64 0, .int .i64 0, .string ⟨#[]⟩, .slice none 0 0, .slice none 0 0] 31))).mono ?_; rintro e w6 ⟨rfl, hb6⟩; clear m0 m1 m2 m3 m4 m5; have tt := tenOf (c := zeroC) (heapExt hb6 (heap_alloc_new w5 _)); dsimp only [Ten] at tt; obtain ⟨z0, z1, z2, z3, z4, z5, z6, z7, z8, z9⟩ := tt)
      | (go_at_call 21; refine (HZ.out _).mono ?_; rintro e w7 ⟨rfl, hb7⟩))
    go_ret
    have h6 := (hb5.alloc hb5.size (.cells #[.int .i64 0, .slice none 0 0, .int .i64 0, .slice none 0 0, .int .i64 0, .int .i64 0, .int .i64 0, .string ⟨#[]⟩, .slice none 0 0, .slice none 0 0] 31)).trans (hb6.mono (Nat.le_trans hb5.size (by simp)))
    exact ⟨rfl, HB1.out.trans ((h6.trans (hb7.mono h6.size)).mono HB1.out.size)⟩
  by_cases q3 : u = 0
  · subst q3
    have Q := hid (show newE e0 d = 0 by rw [HU.out, if_neg (by omega)])
    go_wp2_with (first
      | (go_at_call 19; refine (HN.out _ hb4).mono ?_; rintro e w5 ⟨hb5', _, heq⟩; have hb5 := hb4.trans (hb5'.mono hb4.size); obtain ⟨⟨⟨ce, sa, sn, sc⟩, m, a, n, cap, ⟨mk, mi, ms, mt, mla, mll, mlc, mfa, mfl, mfc⟩⟩, rfl, hi⟩ := heq Q.out; have HI := hid (hi.same (S' := fun b => b < w5.heap.size) fun b q => ⟨q.2, rfl⟩); clear heq hi l0 l1 l2 l3 l4 l5; obtain ⟨m0, m1, m2, m3, m4, m5⟩ := SIX.out _ (hb5.alloc hb5.size (.cells #[.int .i64 ce, .slice sa sn sc, .int .i64 m, .slice a n cap, .int .i64 mk, .int .i64 mi, .int .i64 ms, .string mt, .slice mla mll mlc, .slice mfa mfl mfc] 31)))
      | (go_at_call 20; refine (HBE.out _ (hb5.alloc hb5.size (.cells #[.int .i64 ce, .slice sa sn sc, .int .i64 m, .slice a n cap, .int .i64 mk, .int .i64 mi, .int .i64 ms, .string mt, .slice mla mll mlc, .slice mfa mfl mfc] 31))).mono ?_; rintro e w6 ⟨rfl, hb6⟩; clear m0 m1 m2 m3 m4 m5; have hbox6 := heapExt hb6 (heap_alloc_new w5 _); have tt := tenOf (c := ⟨⟨ce, sa, sn, sc⟩, m, a, n, cap, ⟨mk, mi, ms, mt, mla, mll, mlc, mfa, mfl, mfc⟩⟩) hbox6; dsimp only [Ten] at tt; obtain ⟨z0, z1, z2, z3, z4, z5, z6, z7, z8, z9⟩ := tt; have h16 := (hb5.alloc hb5.size (.cells #[.int .i64 ce, .slice sa sn sc, .int .i64 m, .slice a n cap, .int .i64 mk, .int .i64 mi, .int .i64 ms, .string mt, .slice mla mll mlc, .slice mfa mfl mfc] 31)).trans (hb6.mono (Nat.le_trans hb5.size (by simp))); have h56 := ((Below.refl _ w5).alloc (Nat.le_refl _) (.cells #[.int .i64 ce, .slice sa sn sc, .int .i64 m, .slice a n cap, .int .i64 mk, .int .i64 mi, .int .i64 ms, .string mt, .slice mla mll mlc, .slice mfa mfl mfc] 31)).trans (hb6.mono (by simp)); have HBOX6 := hid hbox6; have H16 := hid h16; have H56 := hid h56; obtain ⟨p0, p1, p2, p3, p4, p5⟩ := SIX.out _ ((h16.alloc h16.size (.cells #[.int .i64 1] 3)).alloc (Nat.le_trans h16.size (by simp)) (.cells #[.int .i64 e0] 3)); clear hbox6 h16 h56)
      | (go_at_call 21; refine (HEQ.out w5 w6 _ hb5 HI.out H56.out).mono ?_; rintro e w7 ⟨rfl, hb7⟩; clear p0 p1 p2 p3 p4 p5 z0 z1 z2 z3 z4 z5 z6 z7 z8 z9; have tt := tenOf (c := ⟨⟨ce, sa, sn, sc⟩, m, a, n, cap, ⟨mk, mi, ms, mt, mla, mll, mlc, mfa, mfl, mfc⟩⟩) (heapExt hb7 HBOX6.out); dsimp only [Ten] at tt; obtain ⟨y0, y1, y2, y3, y4, y5, y6, y7, y8, y9⟩ := tt)
      | (go_at_call 16; refine (HCK.out w5 w7 _ hb5 HI.out (H56.out.trans (hb7.mono H56.out.size)) Q.out).mono ?_; rintro e w8 ⟨rfl, hb8⟩))
    go_ret
    have h7 := H16.out.trans (hb7.mono H16.out.size)
    exact ⟨rfl, HB1.out.trans ((h7.trans (hb8.mono h7.size)).mono HB1.out.size)⟩
  · have HR := hid (show newE e0 d = u by rw [HU.out, if_neg (by omega)])
    have NE := hid (show newE e0 d ≠ 0 by rw [HR.out]; exact q3)
    go_wp2_with (first
      | (go_at_call 19; refine (HN.out _ hb4).mono ?_; rintro e w5 ⟨hb5', hne, _⟩; rw [hne NE.out, HR.out]; have hb5 := hb4.trans (hb5'.mono hb4.size); clear hne l0 l1 l2 l3 l4 l5; obtain ⟨m0, m1, m2, m3, m4, m5⟩ := SIX.out _ (hb5.alloc hb5.size (.cells #[.int .i64 0, .slice none 0 0, .int .i64 0, .slice none 0 0, .int .i64 0, .int .i64 0, .int .i64 0, .string ⟨#[]⟩, .slice none 0 0, .slice none 0 0] 31)))
      | (go_at_call 20; refine (HBE.out _ (hb5.alloc hb5.size (.cells #[.int .i64 0, .slice none 0 0, .int .i64 0, .slice none 0 0, .int .i64 0, .int .i64 0, .int .i64 0, .string ⟨#[]⟩, .slice none 0 0, .slice none 0 0] 31))).mono ?_; rintro e w6 ⟨rfl, hb6⟩; clear m0 m1 m2 m3 m4 m5; have tt := tenOf (c := zeroC) (heapExt hb6 (heap_alloc_new w5 _)); dsimp only [Ten] at tt; obtain ⟨z0, z1, z2, z3, z4, z5, z6, z7, z8, z9⟩ := tt)
      | (go_at_call 21; refine (HZ.out _).mono ?_; rintro e w7 ⟨rfl, hb7⟩))
    go_ret
    have h6 := (hb5.alloc hb5.size (.cells #[.int .i64 0, .slice none 0 0, .int .i64 0, .slice none 0 0, .int .i64 0, .int .i64 0, .int .i64 0, .string ⟨#[]⟩, .slice none 0 0, .slice none 0 0] 31)).trans (hb6.mono (Nat.le_trans hb5.size (by simp)))
    exact ⟨rfl, HB1.out.trans ((h6.trans (hb7.mono h6.size)).mono HB1.out.size)⟩
end Go.Proofs.YtkcoicijenclhaaGreatDoor
