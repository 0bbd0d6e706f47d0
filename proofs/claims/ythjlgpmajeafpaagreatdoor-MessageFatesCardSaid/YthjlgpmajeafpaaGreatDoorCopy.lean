/-
  message.copyStamp and message.Clone return copies in memory of their own. Condition: what is copied can be read as data.
-/
import Derived.Test.YthjlgpmajeafpaaGreatDoorMsg
import Derived.Test.YthjlgpmajeafpaaGreatDoorClone
import Derived.Test.YthjlgpmajeafpaaGreatDoorShelf
namespace Go.Proofs.YthjlgpmajeafpaaGreatDoor
open Go Go.RowKit Go.Shelf
set_option linter.unusedVariables false
set_option linter.unusedSimpArgs false

theorem ints_of_row {w : World} {base n : Nat} {v : Value} {xs : List Int} (h : w.ownsRow base 3 1 v n (xs.map (Value.int .i64))) (hbig : n * 8 ≤ 140737488351232) (hr : ∀ x ∈ xs, I64 x) : ∃ a c, v = .slice a n c ∧ IsInts (fun b => base ≤ b ∧ b < w.heap.size) w a n c xs := by
  obtain ⟨hl, hv⟩ := h
  rw [List.length_map, Nat.mul_one] at hl
  rcases hv with ⟨rfl, rfl⟩ | ⟨g, cap, cur, rfl, hb, hg, hn, _, _, ht⟩
  · exact ⟨none, 0, rfl, hl.symm, Nat.le_refl _, hbig, hr, .inl (List.eq_nil_of_length_eq_zero hl)⟩
  · refine ⟨_, _, rfl, hl.symm, hn, hbig, hr, .inr ⟨g, 0, rfl, ⟨hb, ltOf hg⟩, fun j hj => ?_⟩⟩
    rw [cellOf hg, Nat.zero_add]
    have h1 : (cur.toList.take (n * 1))[j]? = some (Value.int .i64 xs[j]) := by rw [ht]; simp [hj]
    rw [List.getElem?_take] at h1
    split at h1
    · simpa using h1
    · cases h1

theorem clInts_call (a : Option Addr) (n c : Nat) (xs : List Int) (w : World) (hx : IsInts (· < w.heap.size) w a n c xs) (B : Nat) (hB : B ≤ w.heap.size) :
    Calls Tryz.prog 114 #[.slice a n c] w fun e w' => ∃ a' c', e = .returned (.slice a' n c') ∧ Below w.heap.size w w' ∧ IsInts (fun b => B ≤ b ∧ b < w'.heap.size) w' a' n c' xs := by
  have low : ∀ {w' : World} {a' : Option Addr} {c' : Nat}, IsInts (fun b => w.heap.size ≤ b ∧ b < w'.heap.size) w' a' n c' xs → IsInts (fun b => B ≤ b ∧ b < w'.heap.size) w' a' n c' xs := fun h => h.same fun b hb => ⟨⟨by omega, hb.2⟩, rfl⟩
  have hl := hx.len
  have hbig := hx.big
  cases hn : n with
  | zero =>
    subst hn
    have h0 : xs = [] := List.eq_nil_of_length_eq_zero hl.symm
    subst h0
    cases a with
    | none => exact (Tryz.slices_Clone_int_nil 0 c w).mono fun e w' ⟨he, hw⟩ => ⟨none, 0, he, by rw [hw]; exact Below.refl _ _, ⟨rfl, Nat.le_refl _, by omega, fun x h => by (cases h), .inl rfl⟩⟩
    | some a =>
      refine (Tryz.slices_Clone_int_zero a c w).mono fun e w' ⟨v, he, ho, _, hb⟩ => ?_
      obtain ⟨a', c', rfl, hi⟩ := ints_of_row (xs := []) ho (by omega) (fun x h => by (cases h))
      exact ⟨a', c', he, hb, low hi⟩
  | succ m =>
    rw [← hn]
    obtain ⟨b, o, rfl, hb, hc⟩ := hx.slot (show 0 < n by omega)
    refine (Tryz.slices_Clone_int b o n c xs w (by omega) (by omega) (fun j hj => by rw [hc j hj]; simp [List.getD_eq_getElem?_getD, hj])).mono fun e w' ⟨v, he, ho, _, hb'⟩ => ?_
    rw [List.take_of_length_le (by omega)] at ho
    obtain ⟨a', c', rfl, hi⟩ := ints_of_row ho hbig hx.rng
    exact ⟨a', c', he, hb', low hi⟩

abbrev setTen (w : World) (B : Nat) (c : MC) : World := (((((((((w.setCell ⟨B, 0, none⟩ (.int .i64 c.st.e)).setCell ⟨B, 1, none⟩ (.slice c.st.a c.st.n c.st.c)).setCell ⟨B, 2, none⟩ (.int .i64 c.m)).setCell ⟨B, 3, none⟩ (.slice c.a c.n c.c)).setCell ⟨B, 4, none⟩ (.int .i64 c.b.k)).setCell ⟨B, 5, none⟩ (.int .i64 c.b.i)).setCell ⟨B, 6, none⟩ (.int .i64 c.b.s)).setCell ⟨B, 7, none⟩ (.string c.b.t)).setCell ⟨B, 8, none⟩ (.slice c.b.la c.b.ll c.b.lc)).setCell ⟨B, 9, none⟩ (.slice c.b.fa c.b.fl c.b.fc)
theorem setTen_heap {w : World} {B : Nat} {c : MC} {t : TypeId} {x0 x1 x2 x3 x4 x5 x6 x7 x8 x9 : Value} {fr : Nat × Nat} (h : w.heap[B]? = some (.cells #[x0, x1, x2, x3, x4, x5, x6, x7, x8, x9] t fr)) : (setTen w B c).heap[B]? = some (.cells #[.int .i64 c.st.e, .slice c.st.a c.st.n c.st.c, .int .i64 c.m, .slice c.a c.n c.c, .int .i64 c.b.k, .int .i64 c.b.i, .int .i64 c.b.s, .string c.b.t, .slice c.b.la c.b.ll c.b.lc, .slice c.b.fa c.b.fl c.b.fc] t fr) := by
  have e := heapSet (o := 9) (.slice c.b.fa c.b.fl c.b.fc) (heapSet (o := 8) (.slice c.b.la c.b.ll c.b.lc) (heapSet (o := 7) (.string c.b.t) (heapSet (o := 6) (.int .i64 c.b.s) (heapSet (o := 5) (.int .i64 c.b.i) (heapSet (o := 4) (.int .i64 c.b.k) (heapSet (o := 3) (.slice c.a c.n c.c) (heapSet (o := 2) (.int .i64 c.m) (heapSet (o := 1) (.slice c.st.a c.st.n c.st.c) (heapSet (o := 0) (.int .i64 c.st.e) (h))))))))))
  simp only [List.setIfInBounds_toArray, List.set_cons_zero, List.set_cons_succ] at e
  exact e
theorem setTen_other {c : MC} (w : World) (B b : Nat) (hb : b ≠ B) : (setTen w B c).heap[b]? = w.heap[b]? := by
  unfold setTen
  rw [Below.heap_setCell _ _ _ _ hb, Below.heap_setCell _ _ _ _ hb, Below.heap_setCell _ _ _ _ hb, Below.heap_setCell _ _ _ _ hb, Below.heap_setCell _ _ _ _ hb, Below.heap_setCell _ _ _ _ hb, Below.heap_setCell _ _ _ _ hb, Below.heap_setCell _ _ _ _ hb, Below.heap_setCell _ _ _ _ hb, Below.heap_setCell _ _ _ _ hb]
theorem setTen_size {c : MC} (w : World) (B : Nat) : (setTen w B c).heap.size = w.heap.size := by simp [setTen, World.setCell]
theorem setTen_below {c : MC} (w : World) (B N : Nat) (hN : N ≤ B) : Below N w (setTen w B c) :=
  ((((((((((Below.refl _ _).setCell (p := ⟨B, 0, none⟩) (by dsimp only; omega) _).setCell (p := ⟨B, 1, none⟩) (by dsimp only; omega) _).setCell (p := ⟨B, 2, none⟩) (by dsimp only; omega) _).setCell (p := ⟨B, 3, none⟩) (by dsimp only; omega) _).setCell (p := ⟨B, 4, none⟩) (by dsimp only; omega) _).setCell (p := ⟨B, 5, none⟩) (by dsimp only; omega) _).setCell (p := ⟨B, 6, none⟩) (by dsimp only; omega) _).setCell (p := ⟨B, 7, none⟩) (by dsimp only; omega) _).setCell (p := ⟨B, 8, none⟩) (by dsimp only; omega) _).setCell (p := ⟨B, 9, none⟩) (by dsimp only; omega) _

def StPost (w : World) (d : St) (e : Ending) (w' : World) : Prop := ∃ c' : SC, e = .returned c'.v ∧ Below w.heap.size w w' ∧ IsSt (fun b => w.heap.size ≤ b ∧ b < w'.heap.size) w' c' d
def MsgPost (w : World) (d : Msg) (e : Ending) (w' : World) : Prop := ∃ c' : MC, e = .returned c'.v ∧ Below w.heap.size w w' ∧ IsMsg (fun b => w.heap.size ≤ b ∧ b < w'.heap.size) w' c' d

set_option maxRecDepth 100000 in
set_option maxHeartbeats 4000000 in
theorem copyStamp_call (c : SC) (d : St) (w : World) (hd : IsSt (· < w.heap.size) w c d) : Calls Tryz.prog 66 #[c.v] w (StPost w d) := by
  have HWB : Hid (Below w.heap.size w ((w.alloc (.cells #[.int .i64 c.e, .slice c.a c.n c.c] 24)).alloc (.cells #[.int .i64 0, .slice none 0 0] 24))) := hid (((Below.refl _ w).alloc (Nat.le_refl _) _).alloc (by simp) _)
  have HV : Hid (∀ w', Below ((w.alloc (.cells #[.int .i64 c.e, .slice c.a c.n c.c] 24)).alloc (.cells #[.int .i64 0, .slice none 0 0] 24)).heap.size ((w.alloc (.cells #[.int .i64 c.e, .slice c.a c.n c.c] 24)).alloc (.cells #[.int .i64 0, .slice none 0 0] 24)) w' → Calls Tryz.prog 114 #[.slice c.a c.n c.c] w' fun e w2 => ∃ a' c', e = .returned (.slice a' c.n c') ∧ Below w'.heap.size w' w2 ∧ IsInts (fun b => ((w.alloc (.cells #[.int .i64 c.e, .slice c.a c.n c.c] 24)).alloc (.cells #[.int .i64 0, .slice none 0 0] 24)).heap.size ≤ b ∧ b < w2.heap.size) w2 a' c.n c' d.ps) := hid fun w' h => by
    have hb := HWB.out.trans (h.mono HWB.out.size)
    exact clInts_call _ _ _ _ w' (hd.ps.same fun b q => ⟨Nat.lt_of_lt_of_le q hb.size, hb.block b q⟩) _ h.size
  have HC : Hid (∀ w', Below ((w.alloc (.cells #[.int .i64 c.e, .slice c.a c.n c.c] 24)).alloc (.cells #[.int .i64 0, .slice none 0 0] 24)).heap.size ((w.alloc (.cells #[.int .i64 c.e, .slice c.a c.n c.c] 24)).alloc (.cells #[.int .i64 0, .slice none 0 0] 24)) w' → w'.cell? ⟨w.heap.size, 0, none⟩ = some (.int .i64 c.e) ∧ w'.cell? ⟨w.heap.size, 1, none⟩ = some (.slice c.a c.n c.c)) := hid fun w' h => by
    have h1 : w'.heap[w.heap.size]? = some ((.cells #[.int .i64 c.e, .slice c.a c.n c.c] 24 (0, 0))) := heapExt h (heapAlloc _ (heap_alloc_new w _))
    exact ⟨cellOf h1 0, cellOf h1 1⟩
  have HE := hid hd.e
  have HRE := hid hd.re
  clear hd
  go_enter Tryz.func66, Tryz.ntmps66
  go_upto_region 1 with (fail)
  refine wp_region_split 6 (fun w' => Below ((w.alloc (.cells #[.int .i64 c.e, .slice c.a c.n c.c] 24)).alloc (.cells #[.int .i64 0, .slice none 0 0] 24)).heap.size ((w.alloc (.cells #[.int .i64 c.e, .slice c.a c.n c.c] 24)).alloc (.cells #[.int .i64 0, .slice none 0 0] 24)) w') (by kernel_rfl) (by kernel_rfl) (by kernel_rfl) (by decide) ((Below.refl _ _).drew) (fun hS => ?_)
  simp only [List.take_succ_cons, List.take_zero, List.drop_succ_cons, List.drop_zero]
  refine wpAnyH_take (i := 0) (oi := _) (v := ?_) rfl (by kernel_rfl) (by kernel_rfl) (by kernel_rfl) (fun _ _ _ h => h) (Or.inl ⟨by rfl, ?_⟩) hS ?_
  rotate_left
  · intro w' hw'
    have hcells := HC.out w' hw'
    go_simp
    (try with_reducible rfl)
  simp only [Act.put, List.setIfInBounds_toArray, List.set_cons_zero, List.set_cons_succ]
  refine wpAnyH_take (i := 1) (oi := _) (v := ?_) rfl (by kernel_rfl) (by kernel_rfl) (by kernel_rfl) (fun _ _ _ h => h) (Or.inl ⟨by rfl, ?_⟩) hS ?_
  rotate_left
  · intro w' hw'
    have hcells := HC.out w' hw'
    go_simp
    (try with_reducible rfl)
  simp only [Act.put, List.setIfInBounds_toArray, List.set_cons_zero, List.set_cons_succ]
  refine wpAnyH_take (i := 2) (oi := _) (v := ?_) rfl (by kernel_rfl) (by kernel_rfl) (by kernel_rfl) (fun _ _ _ h => h) (Or.inl ⟨by rfl, ?_⟩) hS ?_
  rotate_left
  · intro w' hw'
    have hcells := HC.out w' hw'
    go_simp
    (try with_reducible rfl)
  simp only [Act.put, List.setIfInBounds_toArray, List.set_cons_zero, List.set_cons_succ]
  refine wpAnyH_take (i := 3) (oi := _) (v := ?_) rfl (by kernel_rfl) (by kernel_rfl) (by kernel_rfl) (fun _ _ _ h => h) (Or.inl ⟨by rfl, ?_⟩) hS ?_
  rotate_left
  · intro w' hw'
    have hcells := HC.out w' hw'
    go_simp
    (try with_reducible rfl)
  simp only [Act.put, List.setIfInBounds_toArray, List.set_cons_zero, List.set_cons_succ]
  refine wpAnyH_ready (rs := [4]) (by kernel_rfl) (by simp) ?_
  refine AllReadyH.cons (o := _) rfl (fun K hK => ?_) AllReadyH.nil
  go_simp; go_at_call 114; refine (HV.out _ hS).mono ?_
  rintro e w1 ⟨a', c', rfl, hb1, hi⟩
  refine hK.out _ _ (hS.trans (hb1.mono hS.size)) (fun hS => ?_)
  clear hK K
  (try simp only [Act.put, List.setIfInBounds_toArray, List.set_cons_zero, List.set_cons_succ])
  refine wpAnyH_take (i := 5) (oi := _) (v := ?_) rfl (by kernel_rfl) (by kernel_rfl) (by kernel_rfl) (fun _ _ _ h => h) (Or.inl ⟨by rfl, ?_⟩) hS ?_
  rotate_left
  · intro w' hw'
    have hcells := HC.out w' hw'
    go_simp
    (try with_reducible rfl)
  simp only [Act.put, List.setIfInBounds_toArray, List.set_cons_zero, List.set_cons_succ]
  refine wpAnyH_done (by kernel_rfl) ?_ _
  (try dsimp only)
  have hB := heapExt hS (heapNewAt (w.alloc (.cells #[.int .i64 c.e, .slice c.a c.n c.c] 24)) (.cells #[.int .i64 0, .slice none 0 0] 24) (w.heap.size + 1) (by simp))
  have z0 := cellOf hB 0
  have z1 := cellOf hB 1
  have y0 := freeOf hB 0
  have y1 := freeOf hB 1
  (try dsimp only at z0 z1)
  have HB := hid hB
  have HI := hid hi
  have HS := hid hS
  clear hB hi hS HV HC
  go_wp2
  have h1 := heapSet (o := 1) (Value.slice a' c.n c') (heapSet (o := 0) (Value.int .i64 c.e) HB.out)
  refine bodyPost_ret (v := .agg #[.int .i64 c.e, .slice a' c.n c']) (by simp [results, Tryz.results66, go_sem, cellOf h1]) rfl ⟨⟨c.e, a', c.n, c'⟩, rfl, ?_, ⟨HE.out, HRE.out, ?_⟩⟩
  · exact ((HWB.out.trans (HS.out.mono HWB.out.size)).setCell (p := ⟨w.heap.size + 1, 0, none⟩) (by dsimp only; omega) _).setCell (p := ⟨w.heap.size + 1, 1, none⟩) (by dsimp only; omega) _
  · refine HI.out.same fun b hb => ⟨⟨?_, by simpa [World.setCell] using hb.2⟩, (Below.heap_setCell _ _ _ _ ?_).trans (Below.heap_setCell _ _ _ _ ?_)⟩ <;> (have := hb.1; simp at this ⊢; omega)

set_option maxRecDepth 100000 in
set_option maxHeartbeats 8000000 in
theorem msgClone_call (c : MC) (d : Msg) (w : World) (hd : IsMsg (· < w.heap.size) w c d) : Calls Tryz.prog 88 #[c.v] w (MsgPost w d) := by
  have HWB : Hid (Below w.heap.size w ((w.alloc (.cells #[.int .i64 c.st.e, .slice c.st.a c.st.n c.st.c, .int .i64 c.m, .slice c.a c.n c.c, .int .i64 c.b.k, .int .i64 c.b.i, .int .i64 c.b.s, .string c.b.t, .slice c.b.la c.b.ll c.b.lc, .slice c.b.fa c.b.fl c.b.fc] 30)).alloc (.cells #[.int .i64 0, .slice none 0 0, .int .i64 0, .slice none 0 0, .int .i64 0, .int .i64 0, .int .i64 0, .string ByteArray.empty, .slice none 0 0, .slice none 0 0] 30))) := hid (((Below.refl _ w).alloc (Nat.le_refl _) _).alloc (by simp) _)
  have later : ∀ w', Below ((w.alloc (.cells #[.int .i64 c.st.e, .slice c.st.a c.st.n c.st.c, .int .i64 c.m, .slice c.a c.n c.c, .int .i64 c.b.k, .int .i64 c.b.i, .int .i64 c.b.s, .string c.b.t, .slice c.b.la c.b.ll c.b.lc, .slice c.b.fa c.b.fl c.b.fc] 30)).alloc (.cells #[.int .i64 0, .slice none 0 0, .int .i64 0, .slice none 0 0, .int .i64 0, .int .i64 0, .int .i64 0, .string ByteArray.empty, .slice none 0 0, .slice none 0 0] 30)).heap.size ((w.alloc (.cells #[.int .i64 c.st.e, .slice c.st.a c.st.n c.st.c, .int .i64 c.m, .slice c.a c.n c.c, .int .i64 c.b.k, .int .i64 c.b.i, .int .i64 c.b.s, .string c.b.t, .slice c.b.la c.b.ll c.b.lc, .slice c.b.fa c.b.fl c.b.fc] 30)).alloc (.cells #[.int .i64 0, .slice none 0 0, .int .i64 0, .slice none 0 0, .int .i64 0, .int .i64 0, .int .i64 0, .string ByteArray.empty, .slice none 0 0, .slice none 0 0] 30)) w' → IsMsg (· < w'.heap.size) w' c d ∧ ((w.alloc (.cells #[.int .i64 c.st.e, .slice c.st.a c.st.n c.st.c, .int .i64 c.m, .slice c.a c.n c.c, .int .i64 c.b.k, .int .i64 c.b.i, .int .i64 c.b.s, .string c.b.t, .slice c.b.la c.b.ll c.b.lc, .slice c.b.fa c.b.fl c.b.fc] 30)).alloc (.cells #[.int .i64 0, .slice none 0 0, .int .i64 0, .slice none 0 0, .int .i64 0, .int .i64 0, .int .i64 0, .string ByteArray.empty, .slice none 0 0, .slice none 0 0] 30)).heap.size ≤ w'.heap.size := fun w' h => by
    have hb := HWB.out.trans (h.mono HWB.out.size)
    exact ⟨hd.same fun b q => ⟨Nat.lt_of_lt_of_le q hb.size, hb.block b q⟩, h.size⟩
  have HV : Hid (∀ w', Below ((w.alloc (.cells #[.int .i64 c.st.e, .slice c.st.a c.st.n c.st.c, .int .i64 c.m, .slice c.a c.n c.c, .int .i64 c.b.k, .int .i64 c.b.i, .int .i64 c.b.s, .string c.b.t, .slice c.b.la c.b.ll c.b.lc, .slice c.b.fa c.b.fl c.b.fc] 30)).alloc (.cells #[.int .i64 0, .slice none 0 0, .int .i64 0, .slice none 0 0, .int .i64 0, .int .i64 0, .int .i64 0, .string ByteArray.empty, .slice none 0 0, .slice none 0 0] 30)).heap.size ((w.alloc (.cells #[.int .i64 c.st.e, .slice c.st.a c.st.n c.st.c, .int .i64 c.m, .slice c.a c.n c.c, .int .i64 c.b.k, .int .i64 c.b.i, .int .i64 c.b.s, .string c.b.t, .slice c.b.la c.b.ll c.b.lc, .slice c.b.fa c.b.fl c.b.fc] 30)).alloc (.cells #[.int .i64 0, .slice none 0 0, .int .i64 0, .slice none 0 0, .int .i64 0, .int .i64 0, .int .i64 0, .string ByteArray.empty, .slice none 0 0, .slice none 0 0] 30)) w' → Calls Tryz.prog 66 #[.agg #[.int .i64 c.st.e, .slice c.st.a c.st.n c.st.c]] w' fun e w2 => ∃ c' : SC, e = .returned c'.v ∧ Below w'.heap.size w' w2 ∧ IsSt (fun b => ((w.alloc (.cells #[.int .i64 c.st.e, .slice c.st.a c.st.n c.st.c, .int .i64 c.m, .slice c.a c.n c.c, .int .i64 c.b.k, .int .i64 c.b.i, .int .i64 c.b.s, .string c.b.t, .slice c.b.la c.b.ll c.b.lc, .slice c.b.fa c.b.fl c.b.fc] 30)).alloc (.cells #[.int .i64 0, .slice none 0 0, .int .i64 0, .slice none 0 0, .int .i64 0, .int .i64 0, .int .i64 0, .string ByteArray.empty, .slice none 0 0, .slice none 0 0] 30)).heap.size ≤ b ∧ b < w2.heap.size) w2 c' d.st) := hid fun w' h =>
    (copyStamp_call c.st d.st w' (later w' h).1.st).mono fun e w2 ⟨c', he, hb, hi⟩ => ⟨c', he, hb, hi.same fun b q => ⟨⟨Nat.le_trans h.size q.1, q.2⟩, rfl⟩⟩
  have HV2 : Hid (∀ w', Below ((w.alloc (.cells #[.int .i64 c.st.e, .slice c.st.a c.st.n c.st.c, .int .i64 c.m, .slice c.a c.n c.c, .int .i64 c.b.k, .int .i64 c.b.i, .int .i64 c.b.s, .string c.b.t, .slice c.b.la c.b.ll c.b.lc, .slice c.b.fa c.b.fl c.b.fc] 30)).alloc (.cells #[.int .i64 0, .slice none 0 0, .int .i64 0, .slice none 0 0, .int .i64 0, .int .i64 0, .int .i64 0, .string ByteArray.empty, .slice none 0 0, .slice none 0 0] 30)).heap.size ((w.alloc (.cells #[.int .i64 c.st.e, .slice c.st.a c.st.n c.st.c, .int .i64 c.m, .slice c.a c.n c.c, .int .i64 c.b.k, .int .i64 c.b.i, .int .i64 c.b.s, .string c.b.t, .slice c.b.la c.b.ll c.b.lc, .slice c.b.fa c.b.fl c.b.fc] 30)).alloc (.cells #[.int .i64 0, .slice none 0 0, .int .i64 0, .slice none 0 0, .int .i64 0, .int .i64 0, .int .i64 0, .string ByteArray.empty, .slice none 0 0, .slice none 0 0] 30)) w' → Calls Tryz.prog 114 #[.slice c.a c.n c.c] w' fun e w2 => ∃ a' c', e = .returned (.slice a' c.n c') ∧ Below w'.heap.size w' w2 ∧ IsInts (fun b => ((w.alloc (.cells #[.int .i64 c.st.e, .slice c.st.a c.st.n c.st.c, .int .i64 c.m, .slice c.a c.n c.c, .int .i64 c.b.k, .int .i64 c.b.i, .int .i64 c.b.s, .string c.b.t, .slice c.b.la c.b.ll c.b.lc, .slice c.b.fa c.b.fl c.b.fc] 30)).alloc (.cells #[.int .i64 0, .slice none 0 0, .int .i64 0, .slice none 0 0, .int .i64 0, .int .i64 0, .int .i64 0, .string ByteArray.empty, .slice none 0 0, .slice none 0 0] 30)).heap.size ≤ b ∧ b < w2.heap.size) w2 a' c.n c' d.es) := hid fun w' h =>
    clInts_call _ _ _ _ w' (later w' h).1.es _ h.size
  have HV3 : Hid (∀ w', Below ((w.alloc (.cells #[.int .i64 c.st.e, .slice c.st.a c.st.n c.st.c, .int .i64 c.m, .slice c.a c.n c.c, .int .i64 c.b.k, .int .i64 c.b.i, .int .i64 c.b.s, .string c.b.t, .slice c.b.la c.b.ll c.b.lc, .slice c.b.fa c.b.fl c.b.fc] 30)).alloc (.cells #[.int .i64 0, .slice none 0 0, .int .i64 0, .slice none 0 0, .int .i64 0, .int .i64 0, .int .i64 0, .string ByteArray.empty, .slice none 0 0, .slice none 0 0] 30)).heap.size ((w.alloc (.cells #[.int .i64 c.st.e, .slice c.st.a c.st.n c.st.c, .int .i64 c.m, .slice c.a c.n c.c, .int .i64 c.b.k, .int .i64 c.b.i, .int .i64 c.b.s, .string c.b.t, .slice c.b.la c.b.ll c.b.lc, .slice c.b.fa c.b.fl c.b.fc] 30)).alloc (.cells #[.int .i64 0, .slice none 0 0, .int .i64 0, .slice none 0 0, .int .i64 0, .int .i64 0, .int .i64 0, .string ByteArray.empty, .slice none 0 0, .slice none 0 0] 30)) w' → Calls Tryz.prog 107 #[.agg #[.int .i64 c.b.k, .int .i64 c.b.i, .int .i64 c.b.s, .string c.b.t, .slice c.b.la c.b.ll c.b.lc, .slice c.b.fa c.b.fl c.b.fc]] w' fun e w2 => ∃ c' : VC, e = .returned c'.v ∧ Below w'.heap.size w' w2 ∧ IsVal (fun b => ((w.alloc (.cells #[.int .i64 c.st.e, .slice c.st.a c.st.n c.st.c, .int .i64 c.m, .slice c.a c.n c.c, .int .i64 c.b.k, .int .i64 c.b.i, .int .i64 c.b.s, .string c.b.t, .slice c.b.la c.b.ll c.b.lc, .slice c.b.fa c.b.fl c.b.fc] 30)).alloc (.cells #[.int .i64 0, .slice none 0 0, .int .i64 0, .slice none 0 0, .int .i64 0, .int .i64 0, .int .i64 0, .string ByteArray.empty, .slice none 0 0, .slice none 0 0] 30)).heap.size ≤ b ∧ b < w2.heap.size) w2 c' d.b) := hid fun w' h =>
    (clone_call (later w' h).1.b).mono fun e w2 ⟨c', he, hb, hi⟩ => ⟨c', he, hb, hi.same fun b q => ⟨⟨Nat.le_trans h.size q.1, q.2⟩, rfl⟩⟩
  have HC : Hid (∀ w', Below ((w.alloc (.cells #[.int .i64 c.st.e, .slice c.st.a c.st.n c.st.c, .int .i64 c.m, .slice c.a c.n c.c, .int .i64 c.b.k, .int .i64 c.b.i, .int .i64 c.b.s, .string c.b.t, .slice c.b.la c.b.ll c.b.lc, .slice c.b.fa c.b.fl c.b.fc] 30)).alloc (.cells #[.int .i64 0, .slice none 0 0, .int .i64 0, .slice none 0 0, .int .i64 0, .int .i64 0, .int .i64 0, .string ByteArray.empty, .slice none 0 0, .slice none 0 0] 30)).heap.size ((w.alloc (.cells #[.int .i64 c.st.e, .slice c.st.a c.st.n c.st.c, .int .i64 c.m, .slice c.a c.n c.c, .int .i64 c.b.k, .int .i64 c.b.i, .int .i64 c.b.s, .string c.b.t, .slice c.b.la c.b.ll c.b.lc, .slice c.b.fa c.b.fl c.b.fc] 30)).alloc (.cells #[.int .i64 0, .slice none 0 0, .int .i64 0, .slice none 0 0, .int .i64 0, .int .i64 0, .int .i64 0, .string ByteArray.empty, .slice none 0 0, .slice none 0 0] 30)) w' → w'.cell? ⟨w.heap.size, 0, none⟩ = some (.int .i64 c.st.e) ∧ w'.cell? ⟨w.heap.size, 1, none⟩ = some (.slice c.st.a c.st.n c.st.c) ∧ w'.cell? ⟨w.heap.size, 2, none⟩ = some (.int .i64 c.m) ∧ w'.cell? ⟨w.heap.size, 3, none⟩ = some (.slice c.a c.n c.c) ∧ w'.cell? ⟨w.heap.size, 4, none⟩ = some (.int .i64 c.b.k) ∧ w'.cell? ⟨w.heap.size, 5, none⟩ = some (.int .i64 c.b.i) ∧ w'.cell? ⟨w.heap.size, 6, none⟩ = some (.int .i64 c.b.s) ∧ w'.cell? ⟨w.heap.size, 7, none⟩ = some (.string c.b.t) ∧ w'.cell? ⟨w.heap.size, 8, none⟩ = some (.slice c.b.la c.b.ll c.b.lc) ∧ w'.cell? ⟨w.heap.size, 9, none⟩ = some (.slice c.b.fa c.b.fl c.b.fc)) := hid fun w' h => by
    have h1 : w'.heap[w.heap.size]? = some (mObj c) := heapExt h (heapAlloc _ (heap_alloc_new w _))
    exact ⟨cellOf h1 0, cellOf h1 1, cellOf h1 2, cellOf h1 3, cellOf h1 4, cellOf h1 5, cellOf h1 6, cellOf h1 7, cellOf h1 8, cellOf h1 9⟩
  have HM := hid hd.m
  have HNN := hid hd.st.ps.len.symm
  have HRM := hid hd.rm
  clear hd later
  go_enter Tryz.func88, Tryz.ntmps88
  go_upto_region 1 with (fail)
  refine wp_region_split 12 (fun w' => Below ((w.alloc (.cells #[.int .i64 c.st.e, .slice c.st.a c.st.n c.st.c, .int .i64 c.m, .slice c.a c.n c.c, .int .i64 c.b.k, .int .i64 c.b.i, .int .i64 c.b.s, .string c.b.t, .slice c.b.la c.b.ll c.b.lc, .slice c.b.fa c.b.fl c.b.fc] 30)).alloc (.cells #[.int .i64 0, .slice none 0 0, .int .i64 0, .slice none 0 0, .int .i64 0, .int .i64 0, .int .i64 0, .string ByteArray.empty, .slice none 0 0, .slice none 0 0] 30)).heap.size ((w.alloc (.cells #[.int .i64 c.st.e, .slice c.st.a c.st.n c.st.c, .int .i64 c.m, .slice c.a c.n c.c, .int .i64 c.b.k, .int .i64 c.b.i, .int .i64 c.b.s, .string c.b.t, .slice c.b.la c.b.ll c.b.lc, .slice c.b.fa c.b.fl c.b.fc] 30)).alloc (.cells #[.int .i64 0, .slice none 0 0, .int .i64 0, .slice none 0 0, .int .i64 0, .int .i64 0, .int .i64 0, .string ByteArray.empty, .slice none 0 0, .slice none 0 0] 30)) w') (by kernel_rfl) (by kernel_rfl) (by kernel_rfl) (by decide) ((Below.refl _ _).drew) (fun hS => ?_)
  simp only [List.take_succ_cons, List.take_zero, List.drop_succ_cons, List.drop_zero]
  refine wpAnyH_take (i := 0) (oi := _) (v := ?_) rfl (by kernel_rfl) (by kernel_rfl) (by kernel_rfl) (fun _ _ _ h => h) (Or.inl ⟨by rfl, ?_⟩) hS ?_
  rotate_left
  · intro w' hw'
    have hcells := HC.out w' hw'
    go_simp
    (try with_reducible rfl)
  simp only [Act.put, List.setIfInBounds_toArray, List.set_cons_zero, List.set_cons_succ]
  refine wpAnyH_take (i := 1) (oi := _) (v := ?_) rfl (by kernel_rfl) (by kernel_rfl) (by kernel_rfl) (fun _ _ _ h => h) (Or.inl ⟨by rfl, ?_⟩) hS ?_
  rotate_left
  · intro w' hw'
    have hcells := HC.out w' hw'
    go_simp
    (try with_reducible rfl)
  simp only [Act.put, List.setIfInBounds_toArray, List.set_cons_zero, List.set_cons_succ]
  refine wpAnyH_take (i := 3) (oi := _) (v := ?_) rfl (by kernel_rfl) (by kernel_rfl) (by kernel_rfl) (fun _ _ _ h => h) (Or.inl ⟨by rfl, ?_⟩) hS ?_
  rotate_left
  · intro w' hw'
    have hcells := HC.out w' hw'
    go_simp
    (try with_reducible rfl)
  simp only [Act.put, List.setIfInBounds_toArray, List.set_cons_zero, List.set_cons_succ]
  refine wpAnyH_take (i := 4) (oi := _) (v := ?_) rfl (by kernel_rfl) (by kernel_rfl) (by kernel_rfl) (fun _ _ _ h => h) (Or.inl ⟨by rfl, ?_⟩) hS ?_
  rotate_left
  · intro w' hw'
    have hcells := HC.out w' hw'
    go_simp
    (try with_reducible rfl)
  simp only [Act.put, List.setIfInBounds_toArray, List.set_cons_zero, List.set_cons_succ]
  refine wpAnyH_take (i := 5) (oi := _) (v := ?_) rfl (by kernel_rfl) (by kernel_rfl) (by kernel_rfl) (fun _ _ _ h => h) (Or.inl ⟨by rfl, ?_⟩) hS ?_
  rotate_left
  · intro w' hw'
    have hcells := HC.out w' hw'
    go_simp
    (try with_reducible rfl)
  simp only [Act.put, List.setIfInBounds_toArray, List.set_cons_zero, List.set_cons_succ]
  refine wpAnyH_take (i := 6) (oi := _) (v := ?_) rfl (by kernel_rfl) (by kernel_rfl) (by kernel_rfl) (fun _ _ _ h => h) (Or.inl ⟨by rfl, ?_⟩) hS ?_
  rotate_left
  · intro w' hw'
    have hcells := HC.out w' hw'
    go_simp
    (try with_reducible rfl)
  simp only [Act.put, List.setIfInBounds_toArray, List.set_cons_zero, List.set_cons_succ]
  refine wpAnyH_take (i := 8) (oi := _) (v := ?_) rfl (by kernel_rfl) (by kernel_rfl) (by kernel_rfl) (fun _ _ _ h => h) (Or.inl ⟨by rfl, ?_⟩) hS ?_
  rotate_left
  · intro w' hw'
    have hcells := HC.out w' hw'
    go_simp
    (try with_reducible rfl)
  simp only [Act.put, List.setIfInBounds_toArray, List.set_cons_zero, List.set_cons_succ]
  refine wpAnyH_take (i := 9) (oi := _) (v := ?_) rfl (by kernel_rfl) (by kernel_rfl) (by kernel_rfl) (fun _ _ _ h => h) (Or.inl ⟨by rfl, ?_⟩) hS ?_
  rotate_left
  · intro w' hw'
    have hcells := HC.out w' hw'
    go_simp
    (try with_reducible rfl)
  simp only [Act.put, List.setIfInBounds_toArray, List.set_cons_zero, List.set_cons_succ]
  refine wpAnyH_ready (rs := [2]) (by kernel_rfl) (by simp) ?_
  refine AllReadyH.cons (o := _) rfl (fun K hK => ?_) AllReadyH.nil
  go_simp; go_at_call 66; refine (HV.out _ hS).mono ?_
  rintro e w1 ⟨⟨se, sa, sn, sc⟩, rfl, hb1, hi1⟩
  obtain rfl : se = d.st.e := hi1.e
  obtain rfl : sn = c.st.n := hi1.ps.len.trans HNN.out
  have hsz0 := hS.size
  refine hK.out _ _ (hS.trans (hb1.mono hS.size)) (fun hS => ?_)
  clear hK K
  (try simp only [Act.put, List.setIfInBounds_toArray, List.set_cons_zero, List.set_cons_succ])
  refine wpAnyH_ready (rs := [7]) (by kernel_rfl) (by simp) ?_
  refine AllReadyH.cons (o := _) rfl (fun K hK => ?_) AllReadyH.nil
  go_simp; go_at_call 114; refine (HV2.out _ hS).mono ?_
  rintro e w2 ⟨ea, ec, rfl, hb1, hi2⟩
  have hi1' := hi1.same (S' := fun b => ((w.alloc (.cells #[.int .i64 c.st.e, .slice c.st.a c.st.n c.st.c, .int .i64 c.m, .slice c.a c.n c.c, .int .i64 c.b.k, .int .i64 c.b.i, .int .i64 c.b.s, .string c.b.t, .slice c.b.la c.b.ll c.b.lc, .slice c.b.fa c.b.fl c.b.fc] 30)).alloc (.cells #[.int .i64 0, .slice none 0 0, .int .i64 0, .slice none 0 0, .int .i64 0, .int .i64 0, .int .i64 0, .string ByteArray.empty, .slice none 0 0, .slice none 0 0] 30)).heap.size ≤ b ∧ b < w2.heap.size) (fun b hb => ⟨⟨hb.1, Nat.lt_of_lt_of_le hb.2 hb1.size⟩, hb1.block b hb.2⟩)
  refine hK.out _ _ (hS.trans (hb1.mono hS.size)) (fun hS => ?_)
  clear hK K
  (try simp only [Act.put, List.setIfInBounds_toArray, List.set_cons_zero, List.set_cons_succ])
  refine wpAnyH_ready (rs := [10]) (by kernel_rfl) (by simp) ?_
  refine AllReadyH.cons (o := _) rfl (fun K hK => ?_) AllReadyH.nil
  go_simp; go_at_call 107; refine (HV3.out _ hS).mono ?_
  rintro e w3 ⟨cb, rfl, hb1, hi3⟩
  have hi1'' := hi1'.same (S' := fun b => ((w.alloc (.cells #[.int .i64 c.st.e, .slice c.st.a c.st.n c.st.c, .int .i64 c.m, .slice c.a c.n c.c, .int .i64 c.b.k, .int .i64 c.b.i, .int .i64 c.b.s, .string c.b.t, .slice c.b.la c.b.ll c.b.lc, .slice c.b.fa c.b.fl c.b.fc] 30)).alloc (.cells #[.int .i64 0, .slice none 0 0, .int .i64 0, .slice none 0 0, .int .i64 0, .int .i64 0, .int .i64 0, .string ByteArray.empty, .slice none 0 0, .slice none 0 0] 30)).heap.size ≤ b ∧ b < w3.heap.size) (fun b hb => ⟨⟨hb.1, Nat.lt_of_lt_of_le hb.2 hb1.size⟩, hb1.block b hb.2⟩)
  have hi2' := hi2.same (S' := fun b => ((w.alloc (.cells #[.int .i64 c.st.e, .slice c.st.a c.st.n c.st.c, .int .i64 c.m, .slice c.a c.n c.c, .int .i64 c.b.k, .int .i64 c.b.i, .int .i64 c.b.s, .string c.b.t, .slice c.b.la c.b.ll c.b.lc, .slice c.b.fa c.b.fl c.b.fc] 30)).alloc (.cells #[.int .i64 0, .slice none 0 0, .int .i64 0, .slice none 0 0, .int .i64 0, .int .i64 0, .int .i64 0, .string ByteArray.empty, .slice none 0 0, .slice none 0 0] 30)).heap.size ≤ b ∧ b < w3.heap.size) (fun b hb => ⟨⟨hb.1, Nat.lt_of_lt_of_le hb.2 hb1.size⟩, hb1.block b hb.2⟩)
  refine hK.out _ _ (hS.trans (hb1.mono hS.size)) (fun hS => ?_)
  clear hK K
  (try simp only [Act.put, List.setIfInBounds_toArray, List.set_cons_zero, List.set_cons_succ])
  refine wpAnyH_take (i := 11) (oi := _) (v := ?_) rfl (by kernel_rfl) (by kernel_rfl) (by kernel_rfl) (fun _ _ _ h => h) (Or.inl ⟨by rfl, ?_⟩) hS ?_
  rotate_left
  · intro w' hw'
    have hcells := HC.out w' hw'
    go_simp
    (try with_reducible rfl)
  simp only [Act.put, List.setIfInBounds_toArray, List.set_cons_zero, List.set_cons_succ]
  refine wpAnyH_done (by kernel_rfl) ?_ _
  (try dsimp only)
  have hB := heapExt hS (heapNewAt (w.alloc (.cells #[.int .i64 c.st.e, .slice c.st.a c.st.n c.st.c, .int .i64 c.m, .slice c.a c.n c.c, .int .i64 c.b.k, .int .i64 c.b.i, .int .i64 c.b.s, .string c.b.t, .slice c.b.la c.b.ll c.b.lc, .slice c.b.fa c.b.fl c.b.fc] 30)) (.cells #[.int .i64 0, .slice none 0 0, .int .i64 0, .slice none 0 0, .int .i64 0, .int .i64 0, .int .i64 0, .string ByteArray.empty, .slice none 0 0, .slice none 0 0] 30) (w.heap.size + 1) (by simp))
  have z0 := cellOf hB 0
  have z1 := cellOf hB 1
  have z2 := cellOf hB 2
  have z3 := cellOf hB 3
  have z4 := cellOf hB 4
  have z5 := cellOf hB 5
  have z6 := cellOf hB 6
  have z7 := cellOf hB 7
  have z8 := cellOf hB 8
  have z9 := cellOf hB 9
  have y0 := freeOf hB 0
  have y1 := freeOf hB 1
  have y2 := freeOf hB 2
  have y3 := freeOf hB 3
  have y4 := freeOf hB 4
  have y5 := freeOf hB 5
  have y6 := freeOf hB 6
  have y7 := freeOf hB 7
  have y8 := freeOf hB 8
  have y9 := freeOf hB 9
  (try dsimp only at z0 z1 z2 z3 z4 z5 z6 z7 z8 z9)
  have HB := hid hB
  have HI1 := hid hi1''
  have HI2 := hid hi2'
  have HI3 := hid hi3
  have HS := hid hS
  clear hB hi1 hi1' hi1'' hi2 hi2' hi3 hS HV HV2 HV3 HC
  go_wp2
  have h1 := setTen_heap (c := ⟨⟨d.st.e, sa, c.st.n, sc⟩, c.m, ea, c.n, ec, cb⟩) HB.out
  have h2 := setTen_below (c := ⟨⟨d.st.e, sa, c.st.n, sc⟩, c.m, ea, c.n, ec, cb⟩) w3 (w.heap.size + 1) w.heap.size (by omega)
  have h3 := fun b hb => setTen_other (c := ⟨⟨d.st.e, sa, c.st.n, sc⟩, c.m, ea, c.n, ec, cb⟩) w3 (w.heap.size + 1) b hb
  have h4 := setTen_size (c := ⟨⟨d.st.e, sa, c.st.n, sc⟩, c.m, ea, c.n, ec, cb⟩) w3 (w.heap.size + 1)
  dsimp only [setTen] at h1 h2 h3 h4
  refine bodyPost_ret (v := MC.v ⟨⟨d.st.e, sa, c.st.n, sc⟩, c.m, ea, c.n, ec, cb⟩) (by simp [results, Tryz.results88, go_sem, cellOf h1]) rfl ⟨_, rfl, ?_, ?_⟩
  · exact (HWB.out.trans (HS.out.mono HWB.out.size)).trans h2
  · have key : ∀ b, ((w.alloc (.cells #[.int .i64 c.st.e, .slice c.st.a c.st.n c.st.c, .int .i64 c.m, .slice c.a c.n c.c, .int .i64 c.b.k, .int .i64 c.b.i, .int .i64 c.b.s, .string c.b.t, .slice c.b.la c.b.ll c.b.lc, .slice c.b.fa c.b.fl c.b.fc] 30)).alloc (.cells #[.int .i64 0, .slice none 0 0, .int .i64 0, .slice none 0 0, .int .i64 0, .int .i64 0, .int .i64 0, .string ByteArray.empty, .slice none 0 0, .slice none 0 0] 30)).heap.size ≤ b ∧ b < w3.heap.size → (w.heap.size ≤ b ∧ b < w3.heap.size) ∧ b ≠ w.heap.size + 1 := fun b hb => by (have := hb.1; simp at this; omega)
    exact IsMsg.same (w := w3) (fun b hb => ⟨by rw [h4]; exact (key b hb).1, h3 b (key b hb).2⟩) ⟨⟨rfl, HI1.out.re, HI1.out.ps⟩, HM.out, HRM.out, HI2.out, HI3.out⟩
end Go.Proofs.YthjlgpmajeafpaaGreatDoor
