/-
  message.With returns a copy in memory of its own, with a new body. Condition: what is copied can be read as data.
-/
import Derived.Test.YthjlgpmajeafpaaGreatDoorCopy
namespace Go.Proofs.YthjlgpmajeafpaaGreatDoor
open Go Go.RowKit Go.Shelf
set_option linter.unusedVariables false
set_option linter.unusedSimpArgs false

abbrev setSix (w : World) (B : Nat) (c : VC) : World := (((((w.setCell ⟨B, 4, none⟩ (.int .i64 c.k)).setCell ⟨B, 5, none⟩ (.int .i64 c.i)).setCell ⟨B, 6, none⟩ (.int .i64 c.s)).setCell ⟨B, 7, none⟩ (.string c.t)).setCell ⟨B, 8, none⟩ (.slice c.la c.ll c.lc)).setCell ⟨B, 9, none⟩ (.slice c.fa c.fl c.fc)
theorem setSix_other {c : VC} (w : World) (B b : Nat) (hb : b ≠ B) : (setSix w B c).heap[b]? = w.heap[b]? := by
  unfold setSix
  rw [Below.heap_setCell _ _ _ _ hb, Below.heap_setCell _ _ _ _ hb, Below.heap_setCell _ _ _ _ hb, Below.heap_setCell _ _ _ _ hb, Below.heap_setCell _ _ _ _ hb, Below.heap_setCell _ _ _ _ hb]
theorem setSix_size {c : VC} (w : World) (B : Nat) : (setSix w B c).heap.size = w.heap.size := by simp [setSix, World.setCell]
theorem setSix_below {c : VC} (w : World) (B N : Nat) (hN : N ≤ B) : Below N w (setSix w B c) :=
  ((((((Below.refl _ _).setCell (p := ⟨B, 4, none⟩) (by dsimp only; omega) _).setCell (p := ⟨B, 5, none⟩) (by dsimp only; omega) _).setCell (p := ⟨B, 6, none⟩) (by dsimp only; omega) _).setCell (p := ⟨B, 7, none⟩) (by dsimp only; omega) _).setCell (p := ⟨B, 8, none⟩) (by dsimp only; omega) _).setCell (p := ⟨B, 9, none⟩) (by dsimp only; omega) _
abbrev setTwo (w : World) (B : Nat) (c : SC) : World := (w.setCell ⟨B, 0, none⟩ (.int .i64 c.e)).setCell ⟨B, 1, none⟩ (.slice c.a c.n c.c)
theorem setTwo_other {c : SC} (w : World) (B b : Nat) (hb : b ≠ B) : (setTwo w B c).heap[b]? = w.heap[b]? := by
  unfold setTwo
  rw [Below.heap_setCell _ _ _ _ hb, Below.heap_setCell _ _ _ _ hb]
theorem setTwo_size {c : SC} (w : World) (B : Nat) : (setTwo w B c).heap.size = w.heap.size := by simp [setTwo, World.setCell]
theorem setTwo_below {c : SC} (w : World) (B N : Nat) (hN : N ≤ B) : Below N w (setTwo w B c) :=
  ((Below.refl _ _).setCell (p := ⟨B, 0, none⟩) (by dsimp only; omega) _).setCell (p := ⟨B, 1, none⟩) (by dsimp only; omega) _

set_option maxRecDepth 100000 in
set_option maxHeartbeats 8000000 in
theorem with_call (c : MC) (d : Msg) (cv : VC) (dv : Val) (w : World) (hd : IsMsg (· < w.heap.size) w c d) (hdv : IsVal (· < w.heap.size) w cv dv) : Calls Tryz.prog 63 #[c.v, cv.v] w (MsgPost w { d with b := dv }) := by
  have HWB : Hid (Below w.heap.size w (((w.alloc (.cells #[.int .i64 c.st.e, .slice c.st.a c.st.n c.st.c, .int .i64 c.m, .slice c.a c.n c.c, .int .i64 c.b.k, .int .i64 c.b.i, .int .i64 c.b.s, .string c.b.t, .slice c.b.la c.b.ll c.b.lc, .slice c.b.fa c.b.fl c.b.fc] 30)).alloc (.cells #[.int .i64 cv.k, .int .i64 cv.i, .int .i64 cv.s, .string cv.t, .slice cv.la cv.ll cv.lc, .slice cv.fa cv.fl cv.fc] 28)).alloc (.cells #[.int .i64 0, .slice none 0 0, .int .i64 0, .slice none 0 0, .int .i64 0, .int .i64 0, .int .i64 0, .string ByteArray.empty, .slice none 0 0, .slice none 0 0] 30))) := hid ((((Below.refl _ w).alloc (Nat.le_refl _) _).alloc (by simp) _).alloc (by simp; omega) _)
  obtain ⟨wb, hwb⟩ : ∃ wb, wb = (((w.alloc (.cells #[.int .i64 c.st.e, .slice c.st.a c.st.n c.st.c, .int .i64 c.m, .slice c.a c.n c.c, .int .i64 c.b.k, .int .i64 c.b.i, .int .i64 c.b.s, .string c.b.t, .slice c.b.la c.b.ll c.b.lc, .slice c.b.fa c.b.fl c.b.fc] 30)).alloc (.cells #[.int .i64 cv.k, .int .i64 cv.i, .int .i64 cv.s, .string cv.t, .slice cv.la cv.ll cv.lc, .slice cv.fa cv.fl cv.fc] 28)).alloc (.cells #[.int .i64 0, .slice none 0 0, .int .i64 0, .slice none 0 0, .int .i64 0, .int .i64 0, .int .i64 0, .string ByteArray.empty, .slice none 0 0, .slice none 0 0] 30)) := ⟨_, rfl⟩
  have hbwb : Below w.heap.size w wb := by rw [hwb]; exact HWB.out
  have hsw : wb.heap.size = w.heap.size + 3 := by rw [hwb]; simp
  have o0 : wb.heap[w.heap.size]? = some (.cells #[.int .i64 c.st.e, .slice c.st.a c.st.n c.st.c, .int .i64 c.m, .slice c.a c.n c.c, .int .i64 c.b.k, .int .i64 c.b.i, .int .i64 c.b.s, .string c.b.t, .slice c.b.la c.b.ll c.b.lc, .slice c.b.fa c.b.fl c.b.fc] 30 (0, 0)) := by rw [hwb]; exact heapAlloc _ (heapAlloc _ (heap_alloc_new w _))
  have o1 : wb.heap[w.heap.size + 1]? = some (.cells #[.int .i64 cv.k, .int .i64 cv.i, .int .i64 cv.s, .string cv.t, .slice cv.la cv.ll cv.lc, .slice cv.fa cv.fl cv.fc] 28 (0, 0)) := by rw [hwb]; exact heapAlloc _ (heapNewAt _ _ _ (by simp))
  have o2 : wb.heap[w.heap.size + 2]? = some (.cells #[.int .i64 0, .slice none 0 0, .int .i64 0, .slice none 0 0, .int .i64 0, .int .i64 0, .int .i64 0, .string ByteArray.empty, .slice none 0 0, .slice none 0 0] 30 (0, 0)) := by rw [hwb]; exact heapNewAt _ _ _ (by simp)
  -- the first call
  have hv1 : Calls Tryz.prog 88 #[.agg #[.int .i64 c.st.e, .slice c.st.a c.st.n c.st.c, .int .i64 c.m, .slice c.a c.n c.c, .int .i64 c.b.k, .int .i64 c.b.i, .int .i64 c.b.s, .string c.b.t, .slice c.b.la c.b.ll c.b.lc, .slice c.b.fa c.b.fl c.b.fc]] wb fun e w1 => ∃ c1 : MC, e = .returned c1.v ∧ Below wb.heap.size wb w1 ∧ IsMsg (fun b => wb.heap.size ≤ b ∧ b < w1.heap.size) w1 c1 d :=
    msgClone_call c d wb (hd.same fun b q => ⟨by omega, hbwb.block b q⟩)
  -- the world behind it, with the copy in the box
  have hm1 : ∀ (w1 : World) (c1 : MC), Below wb.heap.size wb w1 → IsMsg (fun b => wb.heap.size ≤ b ∧ b < w1.heap.size) w1 c1 d → (setTen w1 w.heap.size c1).heap[w.heap.size]? = some (.cells #[.int .i64 c1.st.e, .slice c1.st.a c1.st.n c1.st.c, .int .i64 c1.m, .slice c1.a c1.n c1.c, .int .i64 c1.b.k, .int .i64 c1.b.i, .int .i64 c1.b.s, .string c1.b.t, .slice c1.b.la c1.b.ll c1.b.lc, .slice c1.b.fa c1.b.fl c1.b.fc] 30 (0, 0)) ∧ (setTen w1 w.heap.size c1).heap[w.heap.size + 1]? = some (.cells #[.int .i64 cv.k, .int .i64 cv.i, .int .i64 cv.s, .string cv.t, .slice cv.la cv.ll cv.lc, .slice cv.fa cv.fl cv.fc] 28 (0, 0)) ∧ (setTen w1 w.heap.size c1).heap[w.heap.size + 2]? = some (.cells #[.int .i64 0, .slice none 0 0, .int .i64 0, .slice none 0 0, .int .i64 0, .int .i64 0, .int .i64 0, .string ByteArray.empty, .slice none 0 0, .slice none 0 0] 30 (0, 0)) ∧
      Below w.heap.size w (setTen w1 w.heap.size c1) ∧ IsMsg (fun b => wb.heap.size ≤ b ∧ b < w1.heap.size) (setTen w1 w.heap.size c1) c1 d ∧ (setTen w1 w.heap.size c1).heap.size = w1.heap.size ∧
      Calls Tryz.prog 107 #[.agg #[.int .i64 cv.k, .int .i64 cv.i, .int .i64 cv.s, .string cv.t, .slice cv.la cv.ll cv.lc, .slice cv.fa cv.fl cv.fc]] (setTen w1 w.heap.size c1) fun e w2 => ∃ c2, e = .returned (c2 : VC).v ∧ Below w1.heap.size (setTen w1 w.heap.size c1) w2 ∧ IsVal (fun b => w1.heap.size ≤ b ∧ b < w2.heap.size) w2 c2 dv := fun w1 c1 hb hi => by
    have hs := hb.size
    have hbw2 : Below w.heap.size w (setTen w1 w.heap.size c1) := (hbwb.trans (hb.mono (by omega))).trans (setTen_below w1 _ _ (Nat.le_refl _))
    obtain ⟨w2, hw2⟩ : ∃ w2, w2 = setTen w1 w.heap.size c1 := ⟨_, rfl⟩
    have hsz : w2.heap.size = w1.heap.size := by rw [hw2]; exact setTen_size w1 _
    have ho : ∀ b, b ≠ w.heap.size → w2.heap[b]? = w1.heap[b]? := fun b hb => by rw [hw2]; exact setTen_other (c := c1) w1 w.heap.size b hb
    have hh := setTen_heap (c := c1) (heapExt hb o0)
    rw [← hw2] at hbw2 hh ⊢
    refine ⟨hh, (ho _ (by omega)).trans (heapExt hb o1), (ho _ (by omega)).trans (heapExt hb o2), hbw2, hi.same (fun b q => ⟨q, ho b (by omega)⟩), hsz, ?_⟩
    refine (clone_call (hdv.same fun b q => ⟨by omega, hbw2.block b q⟩)).mono fun e w3 h => ?_
    obtain ⟨c2, he, hb3, hi3⟩ := h
    simp only [hsz] at hb3 hi3
    exact ⟨c2, he, hb3, hi3⟩
  have HM1 := hid hm1
  have HHWB := hid hwb
  have HO := hid (show wb.heap[w.heap.size]? = _ ∧ wb.heap[w.heap.size + 1]? = _ ∧ wb.heap[w.heap.size + 2]? = _ from ⟨o0, o1, o2⟩)
  have HBWB := hid hbwb
  have HSW := hid hsw
  rw [hwb] at hv1
  have HV1 := hid hv1
  clear hm1 hwb o0 o1 o2 hbwb hsw hv1 hd hdv
  go_enter Tryz.func63, Tryz.ntmps63
  go_wp2_with (first
    | (go_at_call 88; refine HV1.out.mono ?_; rintro e w1 ⟨c1, rfl, hb1, hi1⟩; rw [← HHWB.out] at hb1 hi1; obtain ⟨p0, p1, p2, p3, p4, p5, p6⟩ := HM1.out w1 c1 hb1 hi1; have g0 := heapExt hb1 HO.out.1
       have u0 := cellOf g0 0; have v0 := freeOf g0 0; have u1 := cellOf g0 1; have v1 := freeOf g0 1; have u2 := cellOf g0 2; have v2 := freeOf g0 2; have u3 := cellOf g0 3; have v3 := freeOf g0 3; have u4 := cellOf g0 4; have v4 := freeOf g0 4; have u5 := cellOf g0 5; have v5 := freeOf g0 5; have u6 := cellOf g0 6; have v6 := freeOf g0 6; have u7 := cellOf g0 7; have v7 := freeOf g0 7; have u8 := cellOf g0 8; have v8 := freeOf g0 8; have u9 := cellOf g0 9; have v9 := freeOf g0 9; (try dsimp only at u0 u1 u2 u3 u4 u5 u6 u7 u8 u9)
       have gx := heapExt hb1 HO.out.2.1
       have x0 := cellOf gx 0; have x1 := cellOf gx 1; have x2 := cellOf gx 2; have x3 := cellOf gx 3; have x4 := cellOf gx 4; have x5 := cellOf gx 5; have P0 := hid p0; have P1 := hid p1; have P2 := hid p2; have P3 := hid p3; have P4 := hid p4; have P5 := hid p5; have P6 := hid p6; clear p0 p1 p2 p3 p4 p5 p6 g0 gx hi1)
    | (go_at_call 107; refine P6.out.mono ?_; rintro e w2 ⟨c2, rfl, hb2, hi2⟩; clear u0 v0 u1 v1 u2 v2 u3 v3 u4 v4 u5 v5 u6 v6 u7 v7 u8 v8 u9 v9 x0 x1 x2 x3 x4 x5
       have hb2' : Below (setTen w1 w.heap.size c1).heap.size (setTen w1 w.heap.size c1) w2 := by (rw [P5.out]; exact hb2)
       have g0 := heapExt hb2' P0.out; have g2 := heapExt hb2' P2.out
       have u0 := cellOf g0 0; have v0 := freeOf g0 0; have y0 := freeOf g2 0; have z0 := cellOf g2 0; have u1 := cellOf g0 1; have v1 := freeOf g0 1; have y1 := freeOf g2 1; have z1 := cellOf g2 1; have u2 := cellOf g0 2; have v2 := freeOf g0 2; have y2 := freeOf g2 2; have z2 := cellOf g2 2; have u3 := cellOf g0 3; have v3 := freeOf g0 3; have y3 := freeOf g2 3; have z3 := cellOf g2 3; have u4 := cellOf g0 4; have v4 := freeOf g0 4; have y4 := freeOf g2 4; have z4 := cellOf g2 4; have u5 := cellOf g0 5; have v5 := freeOf g0 5; have y5 := freeOf g2 5; have z5 := cellOf g2 5; have u6 := cellOf g0 6; have v6 := freeOf g0 6; have y6 := freeOf g2 6; have z6 := cellOf g2 6; have u7 := cellOf g0 7; have v7 := freeOf g0 7; have y7 := freeOf g2 7; have z7 := cellOf g2 7; have u8 := cellOf g0 8; have v8 := freeOf g0 8; have y8 := freeOf g2 8; have z8 := cellOf g2 8; have u9 := cellOf g0 9; have v9 := freeOf g0 9; have y9 := freeOf g2 9; have z9 := cellOf g2 9; (try dsimp only at u0 u1 u2 u3 u4 u5 u6 u7 u8 u9 z0 z1 z2 z3 z4 z5 z6 z7 z8 z9)
       have G2 := hid g2; have HI2 := hid hi2; clear g0 g2 hi2))
  have hsz1 := hb1.size
  have hsz2 := hb2.size
  rw [P5.out] at hsz2
  have hsw := HSW.out
  have h1 := setTen_heap (c := ⟨c1.st, c1.m, c1.a, c1.n, c1.c, c2⟩) (B := w.heap.size + 1 + 1) (w := setSix w2 w.heap.size c2) ((setSix_other w2 w.heap.size (w.heap.size + 1 + 1) (by omega)).trans G2.out)
  have h2 : Below w.heap.size w (setTen (setSix w2 w.heap.size c2) (w.heap.size + 1 + 1) ⟨c1.st, c1.m, c1.a, c1.n, c1.c, c2⟩) := ((P3.out.trans (hb2.mono (by omega))).trans (setSix_below w2 w.heap.size w.heap.size (Nat.le_refl _))).trans (setTen_below _ (w.heap.size + 1 + 1) w.heap.size (by omega))
  have h3 : ∀ b, wb.heap.size ≤ b → (setTen (setSix w2 w.heap.size c2) (w.heap.size + 1 + 1) ⟨c1.st, c1.m, c1.a, c1.n, c1.c, c2⟩).heap[b]? = w2.heap[b]? := fun b hb => (setTen_other _ _ _ (by omega)).trans (setSix_other _ _ _ (by omega))
  have h4 : (setTen (setSix w2 w.heap.size c2) (w.heap.size + 1 + 1) ⟨c1.st, c1.m, c1.a, c1.n, c1.c, c2⟩).heap.size = w2.heap.size := (setTen_size _ _).trans (setSix_size _ _)
  have HI1a := hid (P4.out.same (S' := fun b => w.heap.size ≤ b ∧ b < (setTen (setSix w2 w.heap.size c2) (w.heap.size + 1 + 1) ⟨c1.st, c1.m, c1.a, c1.n, c1.c, c2⟩).heap.size) (w' := setTen (setSix w2 w.heap.size c2) (w.heap.size + 1 + 1) ⟨c1.st, c1.m, c1.a, c1.n, c1.c, c2⟩) fun b hb => ⟨by rw [h4]; omega, (h3 b hb.1).trans (hb2.block b hb.2)⟩)
  have HI2a := hid (HI2.out.same (S' := fun b => w.heap.size ≤ b ∧ b < (setTen (setSix w2 w.heap.size c2) (w.heap.size + 1 + 1) ⟨c1.st, c1.m, c1.a, c1.n, c1.c, c2⟩).heap.size) (w' := setTen (setSix w2 w.heap.size c2) (w.heap.size + 1 + 1) ⟨c1.st, c1.m, c1.a, c1.n, c1.c, c2⟩) fun b hb => ⟨by rw [h4]; omega, h3 b (by omega)⟩)
  dsimp only [setTen, setSix] at h1 h2 HI1a HI2a
  exact bodyPost_ret (v := MC.v ⟨c1.st, c1.m, c1.a, c1.n, c1.c, c2⟩) (by simp [results, Tryz.results63, go_sem, cellOf h1]) rfl ⟨_, rfl, h2, ⟨HI1a.out.st, HI1a.out.m, HI1a.out.rm, HI1a.out.es, HI2a.out⟩⟩

end Go.Proofs.YthjlgpmajeafpaaGreatDoor
