/-
  message.fate returns a fate of a message with what one option adds. Condition: the message and the option's stamps can be read as data.
-/
import Derived.Test.YthjlgpmajeafpaaGreatDoorFateC
namespace Go.Proofs.YthjlgpmajeafpaaGreatDoor
open Go Go.RowKit Go.Shelf
set_option linter.unusedVariables false
set_option linter.unusedSimpArgs false

abbrev setFt (w : World) (B : Nat) (c : FtC) : World := ((((((w.setCell ⟨B, 0, none⟩ (.int .i64 c.st.e)).setCell ⟨B, 1, none⟩ (.slice c.st.a c.st.n c.st.c)).setCell ⟨B, 2, none⟩ (.int .i64 c.k)).setCell ⟨B, 3, none⟩ (.string c.node)).setCell ⟨B, 4, none⟩ (.slice c.a c.n c.c)).setCell ⟨B, 5, none⟩ (.string c.text))
theorem setFt_heap {w : World} {B : Nat} {c : FtC} {t : TypeId} {x0 x1 x2 x3 x4 x5 : Value} {fr : Nat × Nat} (h : w.heap[B]? = some (.cells #[x0, x1, x2, x3, x4, x5] t fr)) : (setFt w B c).heap[B]? = some (.cells #[.int .i64 c.st.e, .slice c.st.a c.st.n c.st.c, .int .i64 c.k, .string c.node, .slice c.a c.n c.c, .string c.text] t fr) := by
  have e := (heapSet (o := 5) (.string c.text) (heapSet (o := 4) (.slice c.a c.n c.c) (heapSet (o := 3) (.string c.node) (heapSet (o := 2) (.int .i64 c.k) (heapSet (o := 1) (.slice c.st.a c.st.n c.st.c) (heapSet (o := 0) (.int .i64 c.st.e) h))))))
  simp only [List.setIfInBounds_toArray, List.set_cons_zero, List.set_cons_succ] at e
  exact e
theorem setFt_other {c : FtC} (w : World) (B b : Nat) (hb : b ≠ B) : (setFt w B c).heap[b]? = w.heap[b]? := by
  unfold setFt
  rw [Below.heap_setCell _ _ _ _ hb, Below.heap_setCell _ _ _ _ hb, Below.heap_setCell _ _ _ _ hb, Below.heap_setCell _ _ _ _ hb, Below.heap_setCell _ _ _ _ hb, Below.heap_setCell _ _ _ _ hb]
theorem setFt_size {c : FtC} (w : World) (B : Nat) : (setFt w B c).heap.size = w.heap.size := by simp [setFt, World.setCell]
theorem setFt_below {c : FtC} (w : World) (B N : Nat) (hN : N ≤ B) : Below N w (setFt w B c) := (((((((Below.refl _ _).setCell (p := ⟨B, 0, none⟩) (by dsimp only; omega) _).setCell (p := ⟨B, 1, none⟩) (by dsimp only; omega) _).setCell (p := ⟨B, 2, none⟩) (by dsimp only; omega) _).setCell (p := ⟨B, 3, none⟩) (by dsimp only; omega) _).setCell (p := ⟨B, 4, none⟩) (by dsimp only; omega) _).setCell (p := ⟨B, 5, none⟩) (by dsimp only; omega) _)
def FtPost (w : World) (d : Fate) (e : Ending) (w' : World) : Prop := ∃ c' : FtC, e = .returned c'.v ∧ Below w.heap.size w w' ∧ IsFt (fun b => w.heap.size ≤ b ∧ b < w'.heap.size) w' c' d

def RejPost (st : SC) (kk : Int) (nd tx : ByteArray) (fb : Nat) (w : World) (e : Ending) (w' : World) : Prop := e = .returned (.tuple #[]) ∧ w.grownBy w' (some fb) ∧ w'.heap[fb]? = some (ftO st kk nd (.slice none 0 0) tx)
theorem rej1_call (st : SC) (kk : Int) (nd tx : ByteArray) (fb lb : Nat) (w : World) (hf : w.heap[fb]? = some (ftO st kk nd (.slice none 0 0) ByteArray.empty)) (hl : w.heap[lb]? = some (.cells #[.string tx] 9)) :
    Calls Tryz.prog 69 #[.pointer (some ⟨fb, 0, none⟩), .pointer (some ⟨lb, 0, none⟩)] w (RejPost st kk nd tx fb w) := by
  have z0 := cellOf hl 0
  have z5 := cellOf hf 5
  have zf5 := freeOf hf 5
  (try dsimp only at z0 z5)
  have HF := hid hf
  clear hf hl
  go_enter Tryz.func69, Tryz.ntmps69
  go_wp2
  have h := heapSet (o := 5) (.string tx) HF.out
  simp only [List.setIfInBounds_toArray, List.set_cons_zero, List.set_cons_succ] at h
  exact bodyPost_ret (v := .tuple #[]) (by simp [results, Tryz.results69, go_sem]) rfl ⟨rfl, grownSet (w := w) (w' := w) (fb := fb) ⟨rfl, rfl, rfl, Nat.le_refl _, fun _ _ _ => rfl⟩ 5 (.string tx), h⟩

set_option maxRecDepth 100000 in
set_option maxHeartbeats 8000000 in
theorem fate0_call (c : MC) (d : Msg) (kk : Int) (nd : ByteArray) (w : World) (hd : IsMsg (· < w.heap.size) w c d)  : Calls Tryz.prog 67 #[c.v, .string nd, .int .i64 kk, .slice none 0 0] w (FtPost w ⟨d.st, kk, nd, [], ByteArray.empty⟩) := by
  obtain ⟨wb, hwb⟩ : ∃ wb, wb = ((w.alloc (.cells #[.int .i64 c.st.e, .slice c.st.a c.st.n c.st.c, .int .i64 c.m, .slice c.a c.n c.c, .int .i64 c.b.k, .int .i64 c.b.i, .int .i64 c.b.s, .string c.b.t, .slice c.b.la c.b.ll c.b.lc, .slice c.b.fa c.b.fl c.b.fc] 30)).alloc (.cells #[.int .i64 0, .slice none 0 0, .int .i64 0, .string ByteArray.empty, .slice none 0 0, .string ByteArray.empty] 45)) := ⟨_, rfl⟩
  have hb0 : Below w.heap.size w wb := by rw [hwb]; exact ((Below.refl _ w).alloc (Nat.le_refl _) _).alloc (by simp) _
  have hsb : wb.heap.size = w.heap.size + 2 := by rw [hwb]; simp
  have g2 : wb.heap[(w.heap.size + 1)]? = some (.cells #[.int .i64 0, .slice none 0 0, .int .i64 0, .string ByteArray.empty, .slice none 0 0, .string ByteArray.empty] 45) := by rw [hwb]; exact heapNewAt _ _ _ (by simp)
  have hcs := copyStamp_call c.st d.st wb (hd.st.same fun b q => ⟨by have := hb0.size; omega, hb0.block b q⟩)
  dsimp only [SC.v] at hcs
  have HST := hid hd.st
  clear hd
  have HWB := hid hwb
  have HB0 := hid hb0
  have HSB := hid hsb
  have G2 := hid g2
  rw [hwb] at hcs
  have HCS := hid hcs
  clear hwb hb0 hsb g2 hcs
  go_enter Tryz.func67, Tryz.ntmps67
  go_wp2_with (go_at_call 66; refine HCS.out.mono ?_; rintro e w3 ⟨c3, rfl, hb3, hi3⟩; rw [← HWB.out] at hb3 hi3)
  obtain ⟨w4, hw4⟩ : ∃ w4, w4 = w3.alloc (ftO c3 kk nd (.slice none 0 0) ByteArray.empty) := ⟨_, rfl⟩
  dsimp only [ftO] at hw4
  (try rw [← hw4])
  have hb4 : Below w.heap.size w w4 := by rw [hw4]; exact (HB0.out.trans (hb3.mono HB0.out.size)).alloc (by have h1 := HB0.out.size; have h2 := hb3.size; omega) _
  have F4 := hid (show w4.heap[w3.heap.size]? = some (ftO c3 kk nd (.slice none 0 0) ByteArray.empty) by rw [hw4]; exact heap_alloc_new _ _)
  have Z4 := hid (show w4.heap[(w.heap.size + 1)]? = some (.cells #[.int .i64 0, .slice none 0 0, .int .i64 0, .string ByteArray.empty, .slice none 0 0, .string ByteArray.empty] 45) by rw [hw4]; exact heapAlloc _ (heapExt hb3 G2.out))
  have I4 := hid (show IsSt (fun b => w.heap.size + 2 ≤ b ∧ b < w4.heap.size ∧ b ≠ w3.heap.size) w4 c3 d.st by rw [hw4]; exact hi3.same fun b q => ⟨⟨by have := HSB.out; omega, by simp; omega, by omega⟩, Below.heap_alloc _ _ _ q.2⟩)
  have HSZ := hid (show w.heap.size + 2 ≤ w3.heap.size ∧ w4.heap.size = w3.heap.size + 1 by refine ⟨by have := HSB.out; have := hb3.size; omega, by rw [hw4]; simp⟩)
  have HB4 := hid hb4
  have HW4 := hid hw4
  clear hw4 hi3 hb3 hb4
  go_loopw [20] (fun i wr => i = .int .i64 0 ∧ wr = w4) (fun _ _ => 0)
  case atStart => exact ⟨rfl, HW4.out.symm⟩
  case round =>
    obtain ⟨rfl, rfl⟩ := hrel
    have hz := HSZ.out
    have f6 := F4.out
    have z6 := Z4.out
    have q0 := cellOf f6 0
    have q1 := cellOf f6 1
    have q2 := cellOf f6 2
    have q3 := cellOf f6 3
    have q4 := cellOf f6 4
    have q5 := cellOf f6 5
    have y0 := cellOf z6 0
    have y1 := cellOf z6 1
    have y2 := cellOf z6 2
    have y3 := cellOf z6 3
    have y4 := cellOf z6 4
    have y5 := cellOf z6 5
    have u0 := freeOf z6 0
    have u1 := freeOf z6 1
    have u2 := freeOf z6 2
    have u3 := freeOf z6 3
    have u4 := freeOf z6 4
    have u5 := freeOf z6 5
    (try dsimp only at q0 y0 q1 y1 q2 y2 q3 y3 q4 y4 q5 y5)
    have Z6 := hid z6
    have F6 := hid f6
    clear f6 z6
    go_wp2
    clear q0 y0 u0 q1 y1 u1 q2 y2 u2 q3 y3 u3 q4 y4 u4 q5 y5 u5
    have h1 := setFt_heap (c := ⟨c3, kk, nd, none, 0, 0, ByteArray.empty⟩) Z6.out
    refine bodyPost_ret (v := FtC.v ⟨c3, kk, nd, none, 0, 0, ByteArray.empty⟩) (by dsimp only [setFt] at h1; simp [results, Tryz.results67, go_sem, cellOf h1]) rfl ⟨(⟨c3, kk, nd, none, 0, 0, ByteArray.empty⟩ : FtC), rfl, ?_, ⟨?_, rfl, rfl, ?_, rfl⟩⟩
    · exact (HB4.out).trans (setFt_below (c := ⟨c3, kk, nd, none, 0, 0, ByteArray.empty⟩) wr (w.heap.size + 1) w.heap.size (by omega))
    · exact (I4.out).same fun b q => ⟨⟨by omega, by rw [setFt_size (c := ⟨c3, kk, nd, none, 0, 0, ByteArray.empty⟩)]; omega⟩, setFt_other (c := ⟨c3, kk, nd, none, 0, 0, ByteArray.empty⟩) wr (w.heap.size + 1) b (by omega)⟩
    · exact ⟨rfl, Nat.le_refl _, (show 0 * 32 ≤ 140737488351232 by decide), .inl rfl⟩

set_option maxRecDepth 100000 in
set_option maxHeartbeats 8000000 in
theorem fate1_call (c : MC) (d : Msg) (kk : Int) (nd : ByteArray) (w : World) (hd : IsMsg (· < w.heap.size) w c d) (ob lb : Nat) (a : Option Addr) (n cap : Nat) (l : List St) (ho : w.heap[ob]? = some (.cells #[.func (.func 115) #[] #[.pointer (some ⟨lb, 0, none⟩)]] 103)) (hl : w.heap[lb]? = some (.cells #[.slice a n cap] 42)) (hr : IsRow stK (· < w.heap.size) w a n cap l) : Calls Tryz.prog 67 #[c.v, .string nd, .int .i64 kk, .slice (some ⟨ob, 0, none⟩) 1 1] w (FtPost w ⟨d.st, kk, nd, l, ByteArray.empty⟩) := by
  have hen : ∀ args w, (callFunc 115 args).run Tryz.prog w = .ok (.enter 115 args) w := enters_of Tryz.func115 (by kernel_rfl) rfl
  obtain ⟨wb, hwb⟩ : ∃ wb, wb = ((w.alloc (.cells #[.int .i64 c.st.e, .slice c.st.a c.st.n c.st.c, .int .i64 c.m, .slice c.a c.n c.c, .int .i64 c.b.k, .int .i64 c.b.i, .int .i64 c.b.s, .string c.b.t, .slice c.b.la c.b.ll c.b.lc, .slice c.b.fa c.b.fl c.b.fc] 30)).alloc (.cells #[.int .i64 0, .slice none 0 0, .int .i64 0, .string ByteArray.empty, .slice none 0 0, .string ByteArray.empty] 45)) := ⟨_, rfl⟩
  have hb0 : Below w.heap.size w wb := by rw [hwb]; exact ((Below.refl _ w).alloc (Nat.le_refl _) _).alloc (by simp) _
  have hsb : wb.heap.size = w.heap.size + 2 := by rw [hwb]; simp
  have g2 : wb.heap[(w.heap.size + 1)]? = some (.cells #[.int .i64 0, .slice none 0 0, .int .i64 0, .string ByteArray.empty, .slice none 0 0, .string ByteArray.empty] 45) := by rw [hwb]; exact heapNewAt _ _ _ (by simp)
  have hcs := copyStamp_call c.st d.st wb (hd.st.same fun b q => ⟨by have := hb0.size; omega, hb0.block b q⟩)
  dsimp only [SC.v] at hcs
  have HST := hid hd.st
  clear hd
  have HWB := hid hwb
  have HB0 := hid hb0
  have HSB := hid hsb
  have G2 := hid g2
  rw [hwb] at hcs
  have HCS := hid hcs
  have HO := hid ho
  have HLB := hid hl
  have hob := ltOf ho
  have hlb := ltOf hl
  have HR := hid hr
  clear hr
  clear hwb hb0 hsb g2 hcs ho hl
  go_enter Tryz.func67, Tryz.ntmps67
  go_wp2_with (go_at_call 66; refine HCS.out.mono ?_; rintro e w3 ⟨c3, rfl, hb3, hi3⟩; rw [← HWB.out] at hb3 hi3)
  obtain ⟨w4, hw4⟩ : ∃ w4, w4 = w3.alloc (ftO c3 kk nd (.slice none 0 0) ByteArray.empty) := ⟨_, rfl⟩
  dsimp only [ftO] at hw4
  (try rw [← hw4])
  have hb4 : Below w.heap.size w w4 := by rw [hw4]; exact (HB0.out.trans (hb3.mono HB0.out.size)).alloc (by have h1 := HB0.out.size; have h2 := hb3.size; omega) _
  have F4 := hid (show w4.heap[w3.heap.size]? = some (ftO c3 kk nd (.slice none 0 0) ByteArray.empty) by rw [hw4]; exact heap_alloc_new _ _)
  have Z4 := hid (show w4.heap[(w.heap.size + 1)]? = some (.cells #[.int .i64 0, .slice none 0 0, .int .i64 0, .string ByteArray.empty, .slice none 0 0, .string ByteArray.empty] 45) by rw [hw4]; exact heapAlloc _ (heapExt hb3 G2.out))
  have I4 := hid (show IsSt (fun b => w.heap.size + 2 ≤ b ∧ b < w4.heap.size ∧ b ≠ w3.heap.size) w4 c3 d.st by rw [hw4]; exact hi3.same fun b q => ⟨⟨by have := HSB.out; omega, by simp; omega, by omega⟩, Below.heap_alloc _ _ _ q.2⟩)
  have HSZ := hid (show w.heap.size + 2 ≤ w3.heap.size ∧ w4.heap.size = w3.heap.size + 1 by refine ⟨by have := HSB.out; have := hb3.size; omega, by rw [hw4]; simp⟩)
  have HB4 := hid hb4
  have HW4 := hid hw4
  clear hw4 hi3 hb3 hb4
  go_loopw [20] (fun i wr => (i = .int .i64 0 ∧ wr = w4) ∨ (i = .int .i64 1 ∧ ∃ aa ac, w4.grownBy wr (some w3.heap.size) ∧ wr.heap[w3.heap.size]? = some (ftO c3 kk nd (.slice aa n ac) ByteArray.empty) ∧ IsRow stK (fun b => w4.heap.size ≤ b ∧ b < wr.heap.size) wr aa n ac l)) (fun i _ => 1 - (intOf i).toNat)
  case atStart => exact .inl ⟨rfl, HW4.out.symm⟩
  case round =>
    have hz := HSZ.out
    rcases hrel with ⟨rfl, rfl⟩ | ⟨rfl, hrel⟩
    · have ho4 := cellOf (heapBelow HB4.out HO.out hob) 0
      (try dsimp only at ho4)
      have HIN := hid (into1_call c3 kk nd ByteArray.empty w3.heap.size lb a n cap l wr F4.out (heapBelow HB4.out HLB.out hlb) (by omega) (HR.out.same fun b q => ⟨⟨by omega, by omega⟩, HB4.out.block b q⟩))
      go_wp2_with (go_at_call 115; refine HIN.out.mono ?_; rintro e w5 ⟨aa, ac, rfl, hg5, hf5, hr5⟩)
      go_roundw
      case rel => exact .inr ⟨by go_num, aa, ac, hg5, hf5, hr5⟩
      case measure => simp [intOf]
    · obtain ⟨aa, ac, hg5, hf5, hr5⟩ := hrel
      have HF5 := hid hf5
      have HR5 := hid hr5
      have HG5 := hid hg5
      have hs5 := hg5.size
      have hbw : Below w.heap.size w wr := HB4.out.grown hg5 (by omega) (fun r e => by have := Option.some.inj e; omega)
      have HBW := hid hbw
      clear hg5 hf5 hr5 hbw
      have f6 := HF5.out
      have z6 := (HG5.out.block (w.heap.size + 1) (by omega) (fun e => by have := Option.some.inj e; omega)).trans Z4.out
      have q0 := cellOf f6 0
      have q1 := cellOf f6 1
      have q2 := cellOf f6 2
      have q3 := cellOf f6 3
      have q4 := cellOf f6 4
      have q5 := cellOf f6 5
      have y0 := cellOf z6 0
      have y1 := cellOf z6 1
      have y2 := cellOf z6 2
      have y3 := cellOf z6 3
      have y4 := cellOf z6 4
      have y5 := cellOf z6 5
      have u0 := freeOf z6 0
      have u1 := freeOf z6 1
      have u2 := freeOf z6 2
      have u3 := freeOf z6 3
      have u4 := freeOf z6 4
      have u5 := freeOf z6 5
      (try dsimp only at q0 y0 q1 y1 q2 y2 q3 y3 q4 y4 q5 y5)
      have Z6 := hid z6
      have F6 := hid f6
      clear f6 z6
      go_wp2
      clear q0 y0 u0 q1 y1 u1 q2 y2 u2 q3 y3 u3 q4 y4 u4 q5 y5 u5
      have h1 := setFt_heap (c := ⟨c3, kk, nd, aa, n, ac, ByteArray.empty⟩) Z6.out
      refine bodyPost_ret (v := FtC.v ⟨c3, kk, nd, aa, n, ac, ByteArray.empty⟩) (by dsimp only [setFt] at h1; simp [results, Tryz.results67, go_sem, cellOf h1]) rfl ⟨(⟨c3, kk, nd, aa, n, ac, ByteArray.empty⟩ : FtC), rfl, ?_, ⟨?_, rfl, rfl, ?_, rfl⟩⟩
      · exact (HBW.out).trans (setFt_below (c := ⟨c3, kk, nd, aa, n, ac, ByteArray.empty⟩) wr (w.heap.size + 1) w.heap.size (by omega))
      · exact (I4.out.same (S' := fun b => w.heap.size + 2 ≤ b ∧ b < wr.heap.size ∧ b ≠ w3.heap.size) (w' := wr) fun b q => ⟨⟨q.1, by omega, q.2.2⟩, HG5.out.block b q.2.1 (fun e => q.2.2 (Option.some.inj e))⟩).same fun b q => ⟨⟨by omega, by rw [setFt_size (c := ⟨c3, kk, nd, aa, n, ac, ByteArray.empty⟩)]; omega⟩, setFt_other (c := ⟨c3, kk, nd, aa, n, ac, ByteArray.empty⟩) wr (w.heap.size + 1) b (by omega)⟩
      · exact HR5.out.same fun b q => ⟨⟨by omega, by rw [setFt_size (c := ⟨c3, kk, nd, aa, n, ac, ByteArray.empty⟩)]; omega⟩, setFt_other (c := ⟨c3, kk, nd, aa, n, ac, ByteArray.empty⟩) wr (w.heap.size + 1) b (by omega)⟩

set_option maxRecDepth 100000 in
set_option maxHeartbeats 8000000 in
theorem fate2_call (c : MC) (d : Msg) (kk : Int) (nd : ByteArray) (w : World) (hd : IsMsg (· < w.heap.size) w c d) (ob lb : Nat) (tx : ByteArray) (ho : w.heap[ob]? = some (.cells #[.func (.func 69) #[] #[.pointer (some ⟨lb, 0, none⟩)]] 103)) (hl : w.heap[lb]? = some (.cells #[.string tx] 9)) : Calls Tryz.prog 67 #[c.v, .string nd, .int .i64 kk, .slice (some ⟨ob, 0, none⟩) 1 1] w (FtPost w ⟨d.st, kk, nd, [], tx⟩) := by
  have hen : ∀ args w, (callFunc 69 args).run Tryz.prog w = .ok (.enter 69 args) w := enters_of Tryz.func69 (by kernel_rfl) rfl
  obtain ⟨wb, hwb⟩ : ∃ wb, wb = ((w.alloc (.cells #[.int .i64 c.st.e, .slice c.st.a c.st.n c.st.c, .int .i64 c.m, .slice c.a c.n c.c, .int .i64 c.b.k, .int .i64 c.b.i, .int .i64 c.b.s, .string c.b.t, .slice c.b.la c.b.ll c.b.lc, .slice c.b.fa c.b.fl c.b.fc] 30)).alloc (.cells #[.int .i64 0, .slice none 0 0, .int .i64 0, .string ByteArray.empty, .slice none 0 0, .string ByteArray.empty] 45)) := ⟨_, rfl⟩
  have hb0 : Below w.heap.size w wb := by rw [hwb]; exact ((Below.refl _ w).alloc (Nat.le_refl _) _).alloc (by simp) _
  have hsb : wb.heap.size = w.heap.size + 2 := by rw [hwb]; simp
  have g2 : wb.heap[(w.heap.size + 1)]? = some (.cells #[.int .i64 0, .slice none 0 0, .int .i64 0, .string ByteArray.empty, .slice none 0 0, .string ByteArray.empty] 45) := by rw [hwb]; exact heapNewAt _ _ _ (by simp)
  have hcs := copyStamp_call c.st d.st wb (hd.st.same fun b q => ⟨by have := hb0.size; omega, hb0.block b q⟩)
  dsimp only [SC.v] at hcs
  have HST := hid hd.st
  clear hd
  have HWB := hid hwb
  have HB0 := hid hb0
  have HSB := hid hsb
  have G2 := hid g2
  rw [hwb] at hcs
  have HCS := hid hcs
  have HO := hid ho
  have HLB := hid hl
  have hob := ltOf ho
  have hlb := ltOf hl
  clear hwb hb0 hsb g2 hcs ho hl
  go_enter Tryz.func67, Tryz.ntmps67
  go_wp2_with (go_at_call 66; refine HCS.out.mono ?_; rintro e w3 ⟨c3, rfl, hb3, hi3⟩; rw [← HWB.out] at hb3 hi3)
  obtain ⟨w4, hw4⟩ : ∃ w4, w4 = w3.alloc (ftO c3 kk nd (.slice none 0 0) ByteArray.empty) := ⟨_, rfl⟩
  dsimp only [ftO] at hw4
  (try rw [← hw4])
  have hb4 : Below w.heap.size w w4 := by rw [hw4]; exact (HB0.out.trans (hb3.mono HB0.out.size)).alloc (by have h1 := HB0.out.size; have h2 := hb3.size; omega) _
  have F4 := hid (show w4.heap[w3.heap.size]? = some (ftO c3 kk nd (.slice none 0 0) ByteArray.empty) by rw [hw4]; exact heap_alloc_new _ _)
  have Z4 := hid (show w4.heap[(w.heap.size + 1)]? = some (.cells #[.int .i64 0, .slice none 0 0, .int .i64 0, .string ByteArray.empty, .slice none 0 0, .string ByteArray.empty] 45) by rw [hw4]; exact heapAlloc _ (heapExt hb3 G2.out))
  have I4 := hid (show IsSt (fun b => w.heap.size + 2 ≤ b ∧ b < w4.heap.size ∧ b ≠ w3.heap.size) w4 c3 d.st by rw [hw4]; exact hi3.same fun b q => ⟨⟨by have := HSB.out; omega, by simp; omega, by omega⟩, Below.heap_alloc _ _ _ q.2⟩)
  have HSZ := hid (show w.heap.size + 2 ≤ w3.heap.size ∧ w4.heap.size = w3.heap.size + 1 by refine ⟨by have := HSB.out; have := hb3.size; omega, by rw [hw4]; simp⟩)
  have HB4 := hid hb4
  have HW4 := hid hw4
  clear hw4 hi3 hb3 hb4
  go_loopw [20] (fun i wr => (i = .int .i64 0 ∧ wr = w4) ∨ (i = .int .i64 1 ∧ w4.grownBy wr (some w3.heap.size) ∧ wr.heap[w3.heap.size]? = some (ftO c3 kk nd (.slice none 0 0) tx))) (fun i _ => 1 - (intOf i).toNat)
  case atStart => exact .inl ⟨rfl, HW4.out.symm⟩
  case round =>
    have hz := HSZ.out
    rcases hrel with ⟨rfl, rfl⟩ | ⟨rfl, hrel⟩
    · have ho4 := cellOf (heapBelow HB4.out HO.out hob) 0
      (try dsimp only at ho4)
      have HIN := hid (rej1_call c3 kk nd tx w3.heap.size lb wr F4.out (heapBelow HB4.out HLB.out hlb))
      go_wp2_with (go_at_call 69; refine HIN.out.mono ?_; rintro e w5 ⟨rfl, hg5, hf5⟩)
      go_roundw
      case rel => exact .inr ⟨by go_num, hg5, hf5⟩
      case measure => simp [intOf]
    · obtain ⟨hg5, hf5⟩ := hrel
      have HF5 := hid hf5
      have HG5 := hid hg5
      have hs5 := hg5.size
      have hbw : Below w.heap.size w wr := HB4.out.grown hg5 (by omega) (fun r e => by have := Option.some.inj e; omega)
      have HBW := hid hbw
      clear hg5 hf5 hbw
      have f6 := HF5.out
      have z6 := (HG5.out.block (w.heap.size + 1) (by omega) (fun e => by have := Option.some.inj e; omega)).trans Z4.out
      have q0 := cellOf f6 0
      have q1 := cellOf f6 1
      have q2 := cellOf f6 2
      have q3 := cellOf f6 3
      have q4 := cellOf f6 4
      have q5 := cellOf f6 5
      have y0 := cellOf z6 0
      have y1 := cellOf z6 1
      have y2 := cellOf z6 2
      have y3 := cellOf z6 3
      have y4 := cellOf z6 4
      have y5 := cellOf z6 5
      have u0 := freeOf z6 0
      have u1 := freeOf z6 1
      have u2 := freeOf z6 2
      have u3 := freeOf z6 3
      have u4 := freeOf z6 4
      have u5 := freeOf z6 5
      (try dsimp only at q0 y0 q1 y1 q2 y2 q3 y3 q4 y4 q5 y5)
      have Z6 := hid z6
      have F6 := hid f6
      clear f6 z6
      go_wp2
      clear q0 y0 u0 q1 y1 u1 q2 y2 u2 q3 y3 u3 q4 y4 u4 q5 y5 u5
      have h1 := setFt_heap (c := ⟨c3, kk, nd, none, 0, 0, tx⟩) Z6.out
      refine bodyPost_ret (v := FtC.v ⟨c3, kk, nd, none, 0, 0, tx⟩) (by dsimp only [setFt] at h1; simp [results, Tryz.results67, go_sem, cellOf h1]) rfl ⟨(⟨c3, kk, nd, none, 0, 0, tx⟩ : FtC), rfl, ?_, ⟨?_, rfl, rfl, ?_, rfl⟩⟩
      · exact (HBW.out).trans (setFt_below (c := ⟨c3, kk, nd, none, 0, 0, tx⟩) wr (w.heap.size + 1) w.heap.size (by omega))
      · exact (I4.out.same (S' := fun b => w.heap.size + 2 ≤ b ∧ b < wr.heap.size ∧ b ≠ w3.heap.size) (w' := wr) fun b q => ⟨⟨q.1, by omega, q.2.2⟩, HG5.out.block b q.2.1 (fun e => q.2.2 (Option.some.inj e))⟩).same fun b q => ⟨⟨by omega, by rw [setFt_size (c := ⟨c3, kk, nd, none, 0, 0, tx⟩)]; omega⟩, setFt_other (c := ⟨c3, kk, nd, none, 0, 0, tx⟩) wr (w.heap.size + 1) b (by omega)⟩
      · exact ⟨rfl, Nat.le_refl _, (show 0 * 32 ≤ 140737488351232 by decide), .inl rfl⟩
end Go.Proofs.YthjlgpmajeafpaaGreatDoor
