/-
  message.copyStamp and message.Clone return copies in memory of their own. Condition: what is copied can be read as data.
-/
import Derived.Test.YthjlgpmajeafpaaGreatDoorReflMrg
import Derived.Test.YthjlgpmajeafpaaGreatDoorPartsMrg
import Derived.Test.YthjlgpmajeafpaaGreatDoorShelf
import Derived.Deep.AppendLies
import Derived.Test.YthjlgpmajeafpaaGreatDoorVisitMrg
import Derived.Laws.EntriesVeiled
namespace Go.Proofs.YthjlgpmajeafpaaGreatDoor
open Go Go.RowKit Go.Shelf
set_option linter.unusedVariables false
set_option linter.unusedSimpArgs false

theorem ints_of_row {w : World} {base n : Nat} {v : Value} {xs : List Int} (h : w.ownsRow base 3 1 v n (xs.map (Value.int .i64))) (hbig : n * 8 ≤ 140737488351232) (hr : ∀ x ∈ xs, I64 x) : ∃ a c, v = .slice a n c ∧ IsInts (fun b => base ≤ b ∧ b < w.heap.size) w a n c xs := by
  obtain ⟨hl, hv⟩ := h
  rw [List.length_map, Nat.mul_one] at hl
  rcases hv with ⟨rfl, rfl⟩ | ⟨g, cap, cur, rfl, hb, hg, hn, _, _, ht⟩
  · exact ⟨none, 0, rfl, hl.symm, Nat.le_refl _, hbig, hr, .inl (List.eq_nil_of_length_eq_zero hl)⟩
  · refine ⟨_, _, rfl, hl.symm, hn, hbig, hr, .inr ⟨g, 0, rfl, ⟨hb, ltOf hg⟩, fun j hj => ?_⟩⟩
    rw [cellOf hg, Nat.zero_add]
    have h1 : (cur.toList.take (n * 1))[j]? = some (Value.int .i64 xs[j]) := by rw [ht]; simp [hj]
    rw [List.getElem?_take] at h1
    split at h1
    · simpa using h1
    · cases h1

theorem clInts_call (a : Option Addr) (n c : Nat) (xs : List Int) (w : World) (hx : IsInts (· < w.heap.size) w a n c xs) (B : Nat) (hB : B ≤ w.heap.size) :
    Calls Tryz.prog 114 #[.slice a n c] w fun e w' => ∃ a' c', e = .returned (.slice a' n c') ∧ Below w.heap.size w w' ∧ IsInts (fun b => B ≤ b ∧ b < w'.heap.size) w' a' n c' xs := by
  have low : ∀ {w' : World} {a' : Option Addr} {c' : Nat}, IsInts (fun b => w.heap.size ≤ b ∧ b < w'.heap.size) w' a' n c' xs → IsInts (fun b => B ≤ b ∧ b < w'.heap.size) w' a' n c' xs := fun h => h.same fun b hb => ⟨⟨by omega, hb.2⟩, rfl⟩
  have hl := hx.len
  have hbig := hx.big
  cases hn : n with
  | zero =>
    subst hn
    have h0 : xs = [] := List.eq_nil_of_length_eq_zero hl.symm
    subst h0
    cases a with
    | none => exact (Tryz.slices_Clone_int_nil 0 c w).mono fun e w' ⟨he, hw⟩ => ⟨none, 0, he, by rw [hw]; exact Below.refl _ _, ⟨rfl, Nat.le_refl _, by omega, fun x h => by (cases h), .inl rfl⟩⟩
    | some a =>
      refine (Tryz.slices_Clone_int_zero a c w).mono fun e w' ⟨v, he, ho, _, hb⟩ => ?_
      obtain ⟨a', c', rfl, hi⟩ := ints_of_row (xs := []) ho (by omega) (fun x h => by (cases h))
      exact ⟨a', c', he, hb, low hi⟩
  | succ m =>
    rw [← hn]
    obtain ⟨b, o, rfl, hb, hc⟩ := hx.slot (show 0 < n by omega)
    refine (Tryz.slices_Clone_int b o n c xs w (by omega) (by omega) (fun j hj => by rw [hc j hj]; simp [List.getD_eq_getElem?_getD, hj])).mono fun e w' ⟨v, he, ho, _, hb'⟩ => ?_
    rw [List.take_of_length_le (by omega)] at ho
    obtain ⟨a', c', rfl, hi⟩ := ints_of_row ho hbig hx.rng
    exact ⟨a', c', he, hb', low hi⟩

abbrev setTen (w : World) (B : Nat) (c : MC) : World := (((((((((w.setCell ⟨B, 0, none⟩ (.int .i64 c.st.e)).setCell ⟨B, 1, none⟩ (.slice c.st.a c.st.n c.st.c)).setCell ⟨B, 2, none⟩ (.int .i64 c.m)).setCell ⟨B, 3, none⟩ (.slice c.a c.n c.c)).setCell ⟨B, 4, none⟩ (.int .i64 c.b.k)).setCell ⟨B, 5, none⟩ (.int .i64 c.b.i)).setCell ⟨B, 6, none⟩ (.int .i64 c.b.s)).setCell ⟨B, 7, none⟩ (.string c.b.t)).setCell ⟨B, 8, none⟩ (.slice c.b.la c.b.ll c.b.lc)).setCell ⟨B, 9, none⟩ (.slice c.b.fa c.b.fl c.b.fc)
theorem setTen_heap {w : World} {B : Nat} {c : MC} {t : TypeId} {x0 x1 x2 x3 x4 x5 x6 x7 x8 x9 : Value} {fr : Nat × Nat} (h : w.heap[B]? = some (.cells #[x0, x1, x2, x3, x4, x5, x6, x7, x8, x9] t fr)) : (setTen w B c).heap[B]? = some (.cells #[.int .i64 c.st.e, .slice c.st.a c.st.n c.st.c, .int .i64 c.m, .slice c.a c.n c.c, .int .i64 c.b.k, .int .i64 c.b.i, .int .i64 c.b.s, .string c.b.t, .slice c.b.la c.b.ll c.b.lc, .slice c.b.fa c.b.fl c.b.fc] t fr) := by
  have e := heapSet (o := 9) (.slice c.b.fa c.b.fl c.b.fc) (heapSet (o := 8) (.slice c.b.la c.b.ll c.b.lc) (heapSet (o := 7) (.string c.b.t) (heapSet (o := 6) (.int .i64 c.b.s) (heapSet (o := 5) (.int .i64 c.b.i) (heapSet (o := 4) (.int .i64 c.b.k) (heapSet (o := 3) (.slice c.a c.n c.c) (heapSet (o := 2) (.int .i64 c.m) (heapSet (o := 1) (.slice c.st.a c.st.n c.st.c) (heapSet (o := 0) (.int .i64 c.st.e) (h))))))))))
  simp only [List.setIfInBounds_toArray, List.set_cons_zero, List.set_cons_succ] at e
  exact e
theorem setTen_other {c : MC} (w : World) (B b : Nat) (hb : b ≠ B) : (setTen w B c).heap[b]? = w.heap[b]? := by
  unfold setTen
  rw [Below.heap_setCell _ _ _ _ hb, Below.heap_setCell _ _ _ _ hb, Below.heap_setCell _ _ _ _ hb, Below.heap_setCell _ _ _ _ hb, Below.heap_setCell _ _ _ _ hb, Below.heap_setCell _ _ _ _ hb, Below.heap_setCell _ _ _ _ hb, Below.heap_setCell _ _ _ _ hb, Below.heap_setCell _ _ _ _ hb, Below.heap_setCell _ _ _ _ hb]
theorem setTen_size {c : MC} (w : World) (B : Nat) : (setTen w B c).heap.size = w.heap.size := by simp [setTen, World.setCell]
theorem setTen_below {c : MC} (w : World) (B N : Nat) (hN : N ≤ B) : Below N w (setTen w B c) :=
  ((((((((((Below.refl _ _).setCell (p := ⟨B, 0, none⟩) (by dsimp only; omega) _).setCell (p := ⟨B, 1, none⟩) (by dsimp only; omega) _).setCell (p := ⟨B, 2, none⟩) (by dsimp only; omega) _).setCell (p := ⟨B, 3, none⟩) (by dsimp only; omega) _).setCell (p := ⟨B, 4, none⟩) (by dsimp only; omega) _).setCell (p := ⟨B, 5, none⟩) (by dsimp only; omega) _).setCell (p := ⟨B, 6, none⟩) (by dsimp only; omega) _).setCell (p := ⟨B, 7, none⟩) (by dsimp only; omega) _).setCell (p := ⟨B, 8, none⟩) (by dsimp only; omega) _).setCell (p := ⟨B, 9, none⟩) (by dsimp only; omega) _

def StPost (w : World) (d : St) (e : Ending) (w' : World) : Prop := ∃ c' : SC, e = .returned c'.v ∧ Below w.heap.size w w' ∧ IsSt (fun b => w.heap.size ≤ b ∧ b < w'.heap.size) w' c' d
def MsgPost (w : World) (d : Msg) (e : Ending) (w' : World) : Prop := ∃ c' : MC, e = .returned c'.v ∧ Below w.heap.size w w' ∧ IsMsg (fun b => w.heap.size ≤ b ∧ b < w'.heap.size) w' c' d

set_option maxRecDepth 100000 in
set_option maxHeartbeats 4000000 in
theorem copyStamp_call (c : SC) (d : St) (w : World) (hd : IsSt (· < w.heap.size) w c d) : Calls Tryz.prog 66 #[c.v] w (StPost w d) := by
  have HWB : Hid (Below w.heap.size w ((w.alloc (.cells #[.int .i64 c.e, .slice c.a c.n c.c] 24)).alloc (.cells #[.int .i64 0, .slice none 0 0] 24))) := hid (((Below.refl _ w).alloc (Nat.le_refl _) _).alloc (by simp) _)
  have HV : Hid (∀ w', Below ((w.alloc (.cells #[.int .i64 c.e, .slice c.a c.n c.c] 24)).alloc (.cells #[.int .i64 0, .slice none 0 0] 24)).heap.size ((w.alloc (.cells #[.int .i64 c.e, .slice c.a c.n c.c] 24)).alloc (.cells #[.int .i64 0, .slice none 0 0] 24)) w' → Calls Tryz.prog 114 #[.slice c.a c.n c.c] w' fun e w2 => ∃ a' c', e = .returned (.slice a' c.n c') ∧ Below w'.heap.size w' w2 ∧ IsInts (fun b => ((w.alloc (.cells #[.int .i64 c.e, .slice c.a c.n c.c] 24)).alloc (.cells #[.int .i64 0, .slice none 0 0] 24)).heap.size ≤ b ∧ b < w2.heap.size) w2 a' c.n c' d.ps) := hid fun w' h => by
    have hb := HWB.out.trans (h.mono HWB.out.size)
    exact clInts_call _ _ _ _ w' (hd.ps.same fun b q => ⟨Nat.lt_of_lt_of_le q hb.size, hb.block b q⟩) _ h.size
  have HC : Hid (∀ w', Below ((w.alloc (.cells #[.int .i64 c.e, .slice c.a c.n c.c] 24)).alloc (.cells #[.int .i64 0, .slice none 0 0] 24)).heap.size ((w.alloc (.cells #[.int .i64 c.e, .slice c.a c.n c.c] 24)).alloc (.cells #[.int .i64 0, .slice none 0 0] 24)) w' → w'.cell? ⟨w.heap.size, 0, none⟩ = some (.int .i64 c.e) ∧ w'.cell? ⟨w.heap.size, 1, none⟩ = some (.slice c.a c.n c.c)) := hid fun w' h => by
    have h1 : w'.heap[w.heap.size]? = some ((.cells #[.int .i64 c.e, .slice c.a c.n c.c] 24 (0, 0))) := heapExt h (heapAlloc _ (heap_alloc_new w _))
    exact ⟨cellOf h1 0, cellOf h1 1⟩
  have HE := hid hd.e
  have HRE := hid hd.re
  clear hd
  go_enter Tryz.func66, Tryz.ntmps66
  go_upto_region 1 with (fail)
  refine wp_region_split 6 (fun w' => Below ((w.alloc (.cells #[.int .i64 c.e, .slice c.a c.n c.c] 24)).alloc (.cells #[.int .i64 0, .slice none 0 0] 24)).heap.size ((w.alloc (.cells #[.int .i64 c.e, .slice c.a c.n c.c] 24)).alloc (.cells #[.int .i64 0, .slice none 0 0] 24)) w') (by kernel_rfl) (by kernel_rfl) (by kernel_rfl) (by decide) ((Below.refl _ _).drew) (fun hS => ?_)
  simp only [List.take_succ_cons, List.take_zero, List.drop_succ_cons, List.drop_zero]
  refine wpAnyH_take (i := 0) (oi := _) (v := ?_) rfl (by kernel_rfl) (by kernel_rfl) (by kernel_rfl) (fun _ _ _ h => h) (Or.inl ⟨by rfl, ?_⟩) hS ?_
  rotate_left
  · intro w' hw'
    have hcells := HC.out w' hw'
    go_simp
    (try with_reducible rfl)
  simp only [Act.put, List.setIfInBounds_toArray, List.set_cons_zero, List.set_cons_succ]
  refine wpAnyH_take (i := 1) (oi := _) (v := ?_) rfl (by kernel_rfl) (by kernel_rfl) (by kernel_rfl) (fun _ _ _ h => h) (Or.inl ⟨by rfl, ?_⟩) hS ?_
  rotate_left
  · intro w' hw'
    have hcells := HC.out w' hw'
    go_simp
    (try with_reducible rfl)
  simp only [Act.put, List.setIfInBounds_toArray, List.set_cons_zero, List.set_cons_succ]
  refine wpAnyH_take (i := 2) (oi := _) (v := ?_) rfl (by kernel_rfl) (by kernel_rfl) (by kernel_rfl) (fun _ _ _ h => h) (Or.inl ⟨by rfl, ?_⟩) hS ?_
  rotate_left
  · intro w' hw'
    have hcells := HC.out w' hw'
    go_simp
    (try with_reducible rfl)
  simp only [Act.put, List.setIfInBounds_toArray, List.set_cons_zero, List.set_cons_succ]
  refine wpAnyH_take (i := 3) (oi := _) (v := ?_) rfl (by kernel_rfl) (by kernel_rfl) (by kernel_rfl) (fun _ _ _ h => h) (Or.inl ⟨by rfl, ?_⟩) hS ?_
  rotate_left
  · intro w' hw'
    have hcells := HC.out w' hw'
    go_simp
    (try with_reducible rfl)
  simp only [Act.put, List.setIfInBounds_toArray, List.set_cons_zero, List.set_cons_succ]
  refine wpAnyH_ready (rs := [4]) (by kernel_rfl) (by simp) ?_
  refine AllReadyH.cons (o := _) rfl (fun K hK => ?_) AllReadyH.nil
  go_simp; go_at_call 114; refine (HV.out _ hS).mono ?_
  rintro e w1 ⟨a', c', rfl, hb1, hi⟩
  refine hK.out _ _ (hS.trans (hb1.mono hS.size)) (fun hS => ?_)
  clear hK K
  (try simp only [Act.put, List.setIfInBounds_toArray, List.set_cons_zero, List.set_cons_succ])
  refine wpAnyH_take (i := 5) (oi := _) (v := ?_) rfl (by kernel_rfl) (by kernel_rfl) (by kernel_rfl) (fun _ _ _ h => h) (Or.inl ⟨by rfl, ?_⟩) hS ?_
  rotate_left
  · intro w' hw'
    have hcells := HC.out w' hw'
    go_simp
    (try with_reducible rfl)
  simp only [Act.put, List.setIfInBounds_toArray, List.set_cons_zero, List.set_cons_succ]
  refine wpAnyH_done (by kernel_rfl) ?_ _
  (try dsimp only)
  have hB := heapExt hS (heapNewAt (w.alloc (.cells #[.int .i64 c.e, .slice c.a c.n c.c] 24)) (.cells #[.int .i64 0, .slice none 0 0] 24) (w.heap.size + 1) (by simp))
  have z0 := cellOf hB 0
  have z1 := cellOf hB 1
  have y0 := freeOf hB 0
  have y1 := freeOf hB 1
  (try dsimp only at z0 z1)
  have HB := hid hB
  have HI := hid hi
  have HS := hid hS
  clear hB hi hS HV HC
  go_wp2
  have h1 := heapSet (o := 1) (Value.slice a' c.n c') (heapSet (o := 0) (Value.int .i64 c.e) HB.out)
  refine bodyPost_ret (v := .agg #[.int .i64 c.e, .slice a' c.n c']) (by simp [results, Tryz.results66, go_sem, cellOf h1]) rfl ⟨⟨c.e, a', c.n, c'⟩, rfl, ?_, ⟨HE.out, HRE.out, ?_⟩⟩
  · exact ((HWB.out.trans (HS.out.mono HWB.out.size)).setCell (p := ⟨w.heap.size + 1, 0, none⟩) (by dsimp only; omega) _).setCell (p := ⟨w.heap.size + 1, 1, none⟩) (by dsimp only; omega) _
  · refine HI.out.same fun b hb => ⟨⟨?_, by simpa [World.setCell] using hb.2⟩, (Below.heap_setCell _ _ _ _ ?_).trans (Below.heap_setCell _ _ _ _ ?_)⟩ <;> (have := hb.1; simp at this ⊢; omega)

set_option maxRecDepth 100000 in
set_option maxHeartbeats 8000000 in
theorem msgClone_call (c : MC) (d : Msg) (w : World) (hd : IsMsg (· < w.heap.size) w c d) : Calls Tryz.prog 88 #[c.v] w (MsgPost w d) := by
  have HWB : Hid (Below w.heap.size w ((w.alloc (.cells #[.int .i64 c.st.e, .slice c.st.a c.st.n c.st.c, .int .i64 c.m, .slice c.a c.n c.c, .int .i64 c.b.k, .int .i64 c.b.i, .int .i64 c.b.s, .string c.b.t, .slice c.b.la c.b.ll c.b.lc, .slice c.b.fa c.b.fl c.b.fc] 30)).alloc (.cells #[.int .i64 0, .slice none 0 0, .int .i64 0, .slice none 0 0, .int .i64 0, .int .i64 0, .int .i64 0, .string ByteArray.empty, .slice none 0 0, .slice none 0 0] 30))) := hid (((Below.refl _ w).alloc (Nat.le_refl _) _).alloc (by simp) _)
  have later : ∀ w', Below ((w.alloc (.cells #[.int .i64 c.st.e, .slice c.st.a c.st.n c.st.c, .int .i64 c.m, .slice c.a c.n c.c, .int .i64 c.b.k, .int .i64 c.b.i, .int .i64 c.b.s, .string c.b.t, .slice c.b.la c.b.ll c.b.lc, .slice c.b.fa c.b.fl c.b.fc] 30)).alloc (.cells #[.int .i64 0, .slice none 0 0, .int .i64 0, .slice none 0 0, .int .i64 0, .int .i64 0, .int .i64 0, .string ByteArray.empty, .slice none 0 0, .slice none 0 0] 30)).heap.size ((w.alloc (.cells #[.int .i64 c.st.e, .slice c.st.a c.st.n c.st.c, .int .i64 c.m, .slice c.a c.n c.c, .int .i64 c.b.k, .int .i64 c.b.i, .int .i64 c.b.s, .string c.b.t, .slice c.b.la c.b.ll c.b.lc, .slice c.b.fa c.b.fl c.b.fc] 30)).alloc (.cells #[.int .i64 0, .slice none 0 0, .int .i64 0, .slice none 0 0, .int .i64 0, .int .i64 0, .int .i64 0, .string ByteArray.empty, .slice none 0 0, .slice none 0 0] 30)) w' → IsMsg (· < w'.heap.size) w' c d ∧ ((w.alloc (.cells #[.int .i64 c.st.e, .slice c.st.a c.st.n c.st.c, .int .i64 c.m, .slice c.a c.n c.c, .int .i64 c.b.k, .int .i64 c.b.i, .int .i64 c.b.s, .string c.b.t, .slice c.b.la c.b.ll c.b.lc, .slice c.b.fa c.b.fl c.b.fc] 30)).alloc (.cells #[.int .i64 0, .slice none 0 0, .int .i64 0, .slice none 0 0, .int .i64 0, .int .i64 0, .int .i64 0, .string ByteArray.empty, .slice none 0 0, .slice none 0 0] 30)).heap.size ≤ w'.heap.size := fun w' h => by
    have hb := HWB.out.trans (h.mono HWB.out.size)
    exact ⟨hd.same fun b q => ⟨Nat.lt_of_lt_of_le q hb.size, hb.block b q⟩, h.size⟩
  have HV : Hid (∀ w', Below ((w.alloc (.cells #[.int .i64 c.st.e, .slice c.st.a c.st.n c.st.c, .int .i64 c.m, .slice c.a c.n c.c, .int .i64 c.b.k, .int .i64 c.b.i, .int .i64 c.b.s, .string c.b.t, .slice c.b.la c.b.ll c.b.lc, .slice c.b.fa c.b.fl c.b.fc] 30)).alloc (.cells #[.int .i64 0, .slice none 0 0, .int .i64 0, .slice none 0 0, .int .i64 0, .int .i64 0, .int .i64 0, .string ByteArray.empty, .slice none 0 0, .slice none 0 0] 30)).heap.size ((w.alloc (.cells #[.int .i64 c.st.e, .slice c.st.a c.st.n c.st.c, .int .i64 c.m, .slice c.a c.n c.c, .int .i64 c.b.k, .int .i64 c.b.i, .int .i64 c.b.s, .string c.b.t, .slice c.b.la c.b.ll c.b.lc, .slice c.b.fa c.b.fl c.b.fc] 30)).alloc (.cells #[.int .i64 0, .slice none 0 0, .int .i64 0, .slice none 0 0, .int .i64 0, .int .i64 0, .int .i64 0, .string ByteArray.empty, .slice none 0 0, .slice none 0 0] 30)) w' → Calls Tryz.prog 66 #[.agg #[.int .i64 c.st.e, .slice c.st.a c.st.n c.st.c]] w' fun e w2 => ∃ c' : SC, e = .returned c'.v ∧ Below w'.heap.size w' w2 ∧ IsSt (fun b => ((w.alloc (.cells #[.int .i64 c.st.e, .slice c.st.a c.st.n c.st.c, .int .i64 c.m, .slice c.a c.n c.c, .int .i64 c.b.k, .int .i64 c.b.i, .int .i64 c.b.s, .string c.b.t, .slice c.b.la c.b.ll c.b.lc, .slice c.b.fa c.b.fl c.b.fc] 30)).alloc (.cells #[.int .i64 0, .slice none 0 0, .int .i64 0, .slice none 0 0, .int .i64 0, .int .i64 0, .int .i64 0, .string ByteArray.empty, .slice none 0 0, .slice none 0 0] 30)).heap.size ≤ b ∧ b < w2.heap.size) w2 c' d.st) := hid fun w' h =>
    (copyStamp_call c.st d.st w' (later w' h).1.st).mono fun e w2 ⟨c', he, hb, hi⟩ => ⟨c', he, hb, hi.same fun b q => ⟨⟨Nat.le_trans h.size q.1, q.2⟩, rfl⟩⟩
  have HV2 : Hid (∀ w', Below ((w.alloc (.cells #[.int .i64 c.st.e, .slice c.st.a c.st.n c.st.c, .int .i64 c.m, .slice c.a c.n c.c, .int .i64 c.b.k, .int .i64 c.b.i, .int .i64 c.b.s, .string c.b.t, .slice c.b.la c.b.ll c.b.lc, .slice c.b.fa c.b.fl c.b.fc] 30)).alloc (.cells #[.int .i64 0, .slice none 0 0, .int .i64 0, .slice none 0 0, .int .i64 0, .int .i64 0, .int .i64 0, .string ByteArray.empty, .slice none 0 0, .slice none 0 0] 30)).heap.size ((w.alloc (.cells #[.int .i64 c.st.e, .slice c.st.a c.st.n c.st.c, .int .i64 c.m, .slice c.a c.n c.c, .int .i64 c.b.k, .int .i64 c.b.i, .int .i64 c.b.s, .string c.b.t, .slice c.b.la c.b.ll c.b.lc, .slice c.b.fa c.b.fl c.b.fc] 30)).alloc (.cells #[.int .i64 0, .slice none 0 0, .int .i64 0, .slice none 0 0, .int .i64 0, .int .i64 0, .int .i64 0, .string ByteArray.empty, .slice none 0 0, .slice none 0 0] 30)) w' → Calls Tryz.prog 114 #[.slice c.a c.n c.c] w' fun e w2 => ∃ a' c', e = .returned (.slice a' c.n c') ∧ Below w'.heap.size w' w2 ∧ IsInts (fun b => ((w.alloc (.cells #[.int .i64 c.st.e, .slice c.st.a c.st.n c.st.c, .int .i64 c.m, .slice c.a c.n c.c, .int .i64 c.b.k, .int .i64 c.b.i, .int .i64 c.b.s, .string c.b.t, .slice c.b.la c.b.ll c.b.lc, .slice c.b.fa c.b.fl c.b.fc] 30)).alloc (.cells #[.int .i64 0, .slice none 0 0, .int .i64 0, .slice none 0 0, .int .i64 0, .int .i64 0, .int .i64 0, .string ByteArray.empty, .slice none 0 0, .slice none 0 0] 30)).heap.size ≤ b ∧ b < w2.heap.size) w2 a' c.n c' d.es) := hid fun w' h =>
    clInts_call _ _ _ _ w' (later w' h).1.es _ h.size
  have HV3 : Hid (∀ w', Below ((w.alloc (.cells #[.int .i64 c.st.e, .slice c.st.a c.st.n c.st.c, .int .i64 c.m, .slice c.a c.n c.c, .int .i64 c.b.k, .int .i64 c.b.i, .int .i64 c.b.s, .string c.b.t, .slice c.b.la c.b.ll c.b.lc, .slice c.b.fa c.b.fl c.b.fc] 30)).alloc (.cells #[.int .i64 0, .slice none 0 0, .int .i64 0, .slice none 0 0, .int .i64 0, .int .i64 0, .int .i64 0, .string ByteArray.empty, .slice none 0 0, .slice none 0 0] 30)).heap.size ((w.alloc (.cells #[.int .i64 c.st.e, .slice c.st.a c.st.n c.st.c, .int .i64 c.m, .slice c.a c.n c.c, .int .i64 c.b.k, .int .i64 c.b.i, .int .i64 c.b.s, .string c.b.t, .slice c.b.la c.b.ll c.b.lc, .slice c.b.fa c.b.fl c.b.fc] 30)).alloc (.cells #[.int .i64 0, .slice none 0 0, .int .i64 0, .slice none 0 0, .int .i64 0, .int .i64 0, .int .i64 0, .string ByteArray.empty, .slice none 0 0, .slice none 0 0] 30)) w' → Calls Tryz.prog 107 #[.agg #[.int .i64 c.b.k, .int .i64 c.b.i, .int .i64 c.b.s, .string c.b.t, .slice c.b.la c.b.ll c.b.lc, .slice c.b.fa c.b.fl c.b.fc]] w' fun e w2 => ∃ c' : VC, e = .returned c'.v ∧ Below w'.heap.size w' w2 ∧ IsVal (fun b => ((w.alloc (.cells #[.int .i64 c.st.e, .slice c.st.a c.st.n c.st.c, .int .i64 c.m, .slice c.a c.n c.c, .int .i64 c.b.k, .int .i64 c.b.i, .int .i64 c.b.s, .string c.b.t, .slice c.b.la c.b.ll c.b.lc, .slice c.b.fa c.b.fl c.b.fc] 30)).alloc (.cells #[.int .i64 0, .slice none 0 0, .int .i64 0, .slice none 0 0, .int .i64 0, .int .i64 0, .int .i64 0, .string ByteArray.empty, .slice none 0 0, .slice none 0 0] 30)).heap.size ≤ b ∧ b < w2.heap.size) w2 c' d.b) := hid fun w' h =>
    (clone_call (later w' h).1.b).mono fun e w2 ⟨c', he, hb, hi⟩ => ⟨c', he, hb, hi.same fun b q => ⟨⟨Nat.le_trans h.size q.1, q.2⟩, rfl⟩⟩
  have HC : Hid (∀ w', Below ((w.alloc (.cells #[.int .i64 c.st.e, .slice c.st.a c.st.n c.st.c, .int .i64 c.m, .slice c.a c.n c.c, .int .i64 c.b.k, .int .i64 c.b.i, .int .i64 c.b.s, .string c.b.t, .slice c.b.la c.b.ll c.b.lc, .slice c.b.fa c.b.fl c.b.fc] 30)).alloc (.cells #[.int .i64 0, .slice none 0 0, .int .i64 0, .slice none 0 0, .int .i64 0, .int .i64 0, .int .i64 0, .string ByteArray.empty, .slice none 0 0, .slice none 0 0] 30)).heap.size ((w.alloc (.cells #[.int .i64 c.st.e, .slice c.st.a c.st.n c.st.c, .int .i64 c.m, .slice c.a c.n c.c, .int .i64 c.b.k, .int .i64 c.b.i, .int .i64 c.b.s, .string c.b.t, .slice c.b.la c.b.ll c.b.lc, .slice c.b.fa c.b.fl c.b.fc] 30)).alloc (.cells #[.int .i64 0, .slice none 0 0, .int .i64 0, .slice none 0 0, .int .i64 0, .int .i64 0, .int .i64 0, .string ByteArray.empty, .slice none 0 0, .slice none 0 0] 30)) w' → w'.cell? ⟨w.heap.size, 0, none⟩ = some (.int .i64 c.st.e) ∧ w'.cell? ⟨w.heap.size, 1, none⟩ = some (.slice c.st.a c.st.n c.st.c) ∧ w'.cell? ⟨w.heap.size, 2, none⟩ = some (.int .i64 c.m) ∧ w'.cell? ⟨w.heap.size, 3, none⟩ = some (.slice c.a c.n c.c) ∧ w'.cell? ⟨w.heap.size, 4, none⟩ = some (.int .i64 c.b.k) ∧ w'.cell? ⟨w.heap.size, 5, none⟩ = some (.int .i64 c.b.i) ∧ w'.cell? ⟨w.heap.size, 6, none⟩ = some (.int .i64 c.b.s) ∧ w'.cell? ⟨w.heap.size, 7, none⟩ = some (.string c.b.t) ∧ w'.cell? ⟨w.heap.size, 8, none⟩ = some (.slice c.b.la c.b.ll c.b.lc) ∧ w'.cell? ⟨w.heap.size, 9, none⟩ = some (.slice c.b.fa c.b.fl c.b.fc)) := hid fun w' h => by
    have h1 : w'.heap[w.heap.size]? = some (mObj c) := heapExt h (heapAlloc _ (heap_alloc_new w _))
    exact ⟨cellOf h1 0, cellOf h1 1, cellOf h1 2, cellOf h1 3, cellOf h1 4, cellOf h1 5, cellOf h1 6, cellOf h1 7, cellOf h1 8, cellOf h1 9⟩
  have HM := hid hd.m
  have HNN := hid hd.st.ps.len.symm
  have HRM := hid hd.rm
  clear hd later
  go_enter Tryz.func88, Tryz.ntmps88
  go_upto_region 1 with (fail)
  refine wp_region_split 12 (fun w' => Below ((w.alloc (.cells #[.int .i64 c.st.e, .slice c.st.a c.st.n c.st.c, .int .i64 c.m, .slice c.a c.n c.c, .int .i64 c.b.k, .int .i64 c.b.i, .int .i64 c.b.s, .string c.b.t, .slice c.b.la c.b.ll c.b.lc, .slice c.b.fa c.b.fl c.b.fc] 30)).alloc (.cells #[.int .i64 0, .slice none 0 0, .int .i64 0, .slice none 0 0, .int .i64 0, .int .i64 0, .int .i64 0, .string ByteArray.empty, .slice none 0 0, .slice none 0 0] 30)).heap.size ((w.alloc (.cells #[.int .i64 c.st.e, .slice c.st.a c.st.n c.st.c, .int .i64 c.m, .slice c.a c.n c.c, .int .i64 c.b.k, .int .i64 c.b.i, .int .i64 c.b.s, .string c.b.t, .slice c.b.la c.b.ll c.b.lc, .slice c.b.fa c.b.fl c.b.fc] 30)).alloc (.cells #[.int .i64 0, .slice none 0 0, .int .i64 0, .slice none 0 0, .int .i64 0, .int .i64 0, .int .i64 0, .string ByteArray.empty, .slice none 0 0, .slice none 0 0] 30)) w') (by kernel_rfl) (by kernel_rfl) (by kernel_rfl) (by decide) ((Below.refl _ _).drew) (fun hS => ?_)
  simp only [List.take_succ_cons, List.take_zero, List.drop_succ_cons, List.drop_zero]
  refine wpAnyH_take (i := 0) (oi := _) (v := ?_) rfl (by kernel_rfl) (by kernel_rfl) (by kernel_rfl) (fun _ _ _ h => h) (Or.inl ⟨by rfl, ?_⟩) hS ?_
  rotate_left
  · intro w' hw'
    have hcells := HC.out w' hw'
    go_simp
    (try with_reducible rfl)
  simp only [Act.put, List.setIfInBounds_toArray, List.set_cons_zero, List.set_cons_succ]
  refine wpAnyH_take (i := 1) (oi := _) (v := ?_) rfl (by kernel_rfl) (by kernel_rfl) (by kernel_rfl) (fun _ _ _ h => h) (Or.inl ⟨by rfl, ?_⟩) hS ?_
  rotate_left
  · intro w' hw'
    have hcells := HC.out w' hw'
    go_simp
    (try with_reducible rfl)
  simp only [Act.put, List.setIfInBounds_toArray, List.set_cons_zero, List.set_cons_succ]
  refine wpAnyH_take (i := 3) (oi := _) (v := ?_) rfl (by kernel_rfl) (by kernel_rfl) (by kernel_rfl) (fun _ _ _ h => h) (Or.inl ⟨by rfl, ?_⟩) hS ?_
  rotate_left
  · intro w' hw'
    have hcells := HC.out w' hw'
    go_simp
    (try with_reducible rfl)
  simp only [Act.put, List.setIfInBounds_toArray, List.set_cons_zero, List.set_cons_succ]
  refine wpAnyH_take (i := 4) (oi := _) (v := ?_) rfl (by kernel_rfl) (by kernel_rfl) (by kernel_rfl) (fun _ _ _ h => h) (Or.inl ⟨by rfl, ?_⟩) hS ?_
  rotate_left
  · intro w' hw'
    have hcells := HC.out w' hw'
    go_simp
    (try with_reducible rfl)
  simp only [Act.put, List.setIfInBounds_toArray, List.set_cons_zero, List.set_cons_succ]
  refine wpAnyH_take (i := 5) (oi := _) (v := ?_) rfl (by kernel_rfl) (by kernel_rfl) (by kernel_rfl) (fun _ _ _ h => h) (Or.inl ⟨by rfl, ?_⟩) hS ?_
  rotate_left
  · intro w' hw'
    have hcells := HC.out w' hw'
    go_simp
    (try with_reducible rfl)
  simp only [Act.put, List.setIfInBounds_toArray, List.set_cons_zero, List.set_cons_succ]
  refine wpAnyH_take (i := 6) (oi := _) (v := ?_) rfl (by kernel_rfl) (by kernel_rfl) (by kernel_rfl) (fun _ _ _ h => h) (Or.inl ⟨by rfl, ?_⟩) hS ?_
  rotate_left
  · intro w' hw'
    have hcells := HC.out w' hw'
    go_simp
    (try with_reducible rfl)
  simp only [Act.put, List.setIfInBounds_toArray, List.set_cons_zero, List.set_cons_succ]
  refine wpAnyH_take (i := 8) (oi := _) (v := ?_) rfl (by kernel_rfl) (by kernel_rfl) (by kernel_rfl) (fun _ _ _ h => h) (Or.inl ⟨by rfl, ?_⟩) hS ?_
  rotate_left
  · intro w' hw'
    have hcells := HC.out w' hw'
    go_simp
    (try with_reducible rfl)
  simp only [Act.put, List.setIfInBounds_toArray, List.set_cons_zero, List.set_cons_succ]
  refine wpAnyH_take (i := 9) (oi := _) (v := ?_) rfl (by kernel_rfl) (by kernel_rfl) (by kernel_rfl) (fun _ _ _ h => h) (Or.inl ⟨by rfl, ?_⟩) hS ?_
  rotate_left
  · intro w' hw'
    have hcells := HC.out w' hw'
    go_simp
    (try with_reducible rfl)
  simp only [Act.put, List.setIfInBounds_toArray, List.set_cons_zero, List.set_cons_succ]
  refine wpAnyH_ready (rs := [2]) (by kernel_rfl) (by simp) ?_
  refine AllReadyH.cons (o := _) rfl (fun K hK => ?_) AllReadyH.nil
  go_simp; go_at_call 66; refine (HV.out _ hS).mono ?_
  rintro e w1 ⟨⟨se, sa, sn, sc⟩, rfl, hb1, hi1⟩
  obtain rfl : se = d.st.e := hi1.e
  obtain rfl : sn = c.st.n := hi1.ps.len.trans HNN.out
  have hsz0 := hS.size
  refine hK.out _ _ (hS.trans (hb1.mono hS.size)) (fun hS => ?_)
  clear hK K
  (try simp only [Act.put, List.setIfInBounds_toArray, List.set_cons_zero, List.set_cons_succ])
  refine wpAnyH_ready (rs := [7]) (by kernel_rfl) (by simp) ?_
  refine AllReadyH.cons (o := _) rfl (fun K hK => ?_) AllReadyH.nil
  go_simp; go_at_call 114; refine (HV2.out _ hS).mono ?_
  rintro e w2 ⟨ea, ec, rfl, hb1, hi2⟩
  have hi1' := hi1.same (S' := fun b => ((w.alloc (.cells #[.int .i64 c.st.e, .slice c.st.a c.st.n c.st.c, .int .i64 c.m, .slice c.a c.n c.c, .int .i64 c.b.k, .int .i64 c.b.i, .int .i64 c.b.s, .string c.b.t, .slice c.b.la c.b.ll c.b.lc, .slice c.b.fa c.b.fl c.b.fc] 30)).alloc (.cells #[.int .i64 0, .slice none 0 0, .int .i64 0, .slice none 0 0, .int .i64 0, .int .i64 0, .int .i64 0, .string ByteArray.empty, .slice none 0 0, .slice none 0 0] 30)).heap.size ≤ b ∧ b < w2.heap.size) (fun b hb => ⟨⟨hb.1, Nat.lt_of_lt_of_le hb.2 hb1.size⟩, hb1.block b hb.2⟩)
  refine hK.out _ _ (hS.trans (hb1.mono hS.size)) (fun hS => ?_)
  clear hK K
  (try simp only [Act.put, List.setIfInBounds_toArray, List.set_cons_zero, List.set_cons_succ])
  refine wpAnyH_ready (rs := [10]) (by kernel_rfl) (by simp) ?_
  refine AllReadyH.cons (o := _) rfl (fun K hK => ?_) AllReadyH.nil
  go_simp; go_at_call 107; refine (HV3.out _ hS).mono ?_
  rintro e w3 ⟨cb, rfl, hb1, hi3⟩
  have hi1'' := hi1'.same (S' := fun b => ((w.alloc (.cells #[.int .i64 c.st.e, .slice c.st.a c.st.n c.st.c, .int .i64 c.m, .slice c.a c.n c.c, .int .i64 c.b.k, .int .i64 c.b.i, .int .i64 c.b.s, .string c.b.t, .slice c.b.la c.b.ll c.b.lc, .slice c.b.fa c.b.fl c.b.fc] 30)).alloc (.cells #[.int .i64 0, .slice none 0 0, .int .i64 0, .slice none 0 0, .int .i64 0, .int .i64 0, .int .i64 0, .string ByteArray.empty, .slice none 0 0, .slice none 0 0] 30)).heap.size ≤ b ∧ b < w3.heap.size) (fun b hb => ⟨⟨hb.1, Nat.lt_of_lt_of_le hb.2 hb1.size⟩, hb1.block b hb.2⟩)
  have hi2' := hi2.same (S' := fun b => ((w.alloc (.cells #[.int .i64 c.st.e, .slice c.st.a c.st.n c.st.c, .int .i64 c.m, .slice c.a c.n c.c, .int .i64 c.b.k, .int .i64 c.b.i, .int .i64 c.b.s, .string c.b.t, .slice c.b.la c.b.ll c.b.lc, .slice c.b.fa c.b.fl c.b.fc] 30)).alloc (.cells #[.int .i64 0, .slice none 0 0, .int .i64 0, .slice none 0 0, .int .i64 0, .int .i64 0, .int .i64 0, .string ByteArray.empty, .slice none 0 0, .slice none 0 0] 30)).heap.size ≤ b ∧ b < w3.heap.size) (fun b hb => ⟨⟨hb.1, Nat.lt_of_lt_of_le hb.2 hb1.size⟩, hb1.block b hb.2⟩)
  refine hK.out _ _ (hS.trans (hb1.mono hS.size)) (fun hS => ?_)
  clear hK K
  (try simp only [Act.put, List.setIfInBounds_toArray, List.set_cons_zero, List.set_cons_succ])
  refine wpAnyH_take (i := 11) (oi := _) (v := ?_) rfl (by kernel_rfl) (by kernel_rfl) (by kernel_rfl) (fun _ _ _ h => h) (Or.inl ⟨by rfl, ?_⟩) hS ?_
  rotate_left
  · intro w' hw'
    have hcells := HC.out w' hw'
    go_simp
    (try with_reducible rfl)
  simp only [Act.put, List.setIfInBounds_toArray, List.set_cons_zero, List.set_cons_succ]
  refine wpAnyH_done (by kernel_rfl) ?_ _
  (try dsimp only)
  have hB := heapExt hS (heapNewAt (w.alloc (.cells #[.int .i64 c.st.e, .slice c.st.a c.st.n c.st.c, .int .i64 c.m, .slice c.a c.n c.c, .int .i64 c.b.k, .int .i64 c.b.i, .int .i64 c.b.s, .string c.b.t, .slice c.b.la c.b.ll c.b.lc, .slice c.b.fa c.b.fl c.b.fc] 30)) (.cells #[.int .i64 0, .slice none 0 0, .int .i64 0, .slice none 0 0, .int .i64 0, .int .i64 0, .int .i64 0, .string ByteArray.empty, .slice none 0 0, .slice none 0 0] 30) (w.heap.size + 1) (by simp))
  have z0 := cellOf hB 0
  have z1 := cellOf hB 1
  have z2 := cellOf hB 2
  have z3 := cellOf hB 3
  have z4 := cellOf hB 4
  have z5 := cellOf hB 5
  have z6 := cellOf hB 6
  have z7 := cellOf hB 7
  have z8 := cellOf hB 8
  have z9 := cellOf hB 9
  have y0 := freeOf hB 0
  have y1 := freeOf hB 1
  have y2 := freeOf hB 2
  have y3 := freeOf hB 3
  have y4 := freeOf hB 4
  have y5 := freeOf hB 5
  have y6 := freeOf hB 6
  have y7 := freeOf hB 7
  have y8 := freeOf hB 8
  have y9 := freeOf hB 9
  (try dsimp only at z0 z1 z2 z3 z4 z5 z6 z7 z8 z9)
  have HB := hid hB
  have HI1 := hid hi1''
  have HI2 := hid hi2'
  have HI3 := hid hi3
  have HS := hid hS
  clear hB hi1 hi1' hi1'' hi2 hi2' hi3 hS HV HV2 HV3 HC
  go_wp2
  have h1 := setTen_heap (c := ⟨⟨d.st.e, sa, c.st.n, sc⟩, c.m, ea, c.n, ec, cb⟩) HB.out
  have h2 := setTen_below (c := ⟨⟨d.st.e, sa, c.st.n, sc⟩, c.m, ea, c.n, ec, cb⟩) w3 (w.heap.size + 1) w.heap.size (by omega)
  have h3 := fun b hb => setTen_other (c := ⟨⟨d.st.e, sa, c.st.n, sc⟩, c.m, ea, c.n, ec, cb⟩) w3 (w.heap.size + 1) b hb
  have h4 := setTen_size (c := ⟨⟨d.st.e, sa, c.st.n, sc⟩, c.m, ea, c.n, ec, cb⟩) w3 (w.heap.size + 1)
  dsimp only [setTen] at h1 h2 h3 h4
  refine bodyPost_ret (v := MC.v ⟨⟨d.st.e, sa, c.st.n, sc⟩, c.m, ea, c.n, ec, cb⟩) (by simp [results, Tryz.results88, go_sem, cellOf h1]) rfl ⟨_, rfl, ?_, ?_⟩
  · exact (HWB.out.trans (HS.out.mono HWB.out.size)).trans h2
  · have key : ∀ b, ((w.alloc (.cells #[.int .i64 c.st.e, .slice c.st.a c.st.n c.st.c, .int .i64 c.m, .slice c.a c.n c.c, .int .i64 c.b.k, .int .i64 c.b.i, .int .i64 c.b.s, .string c.b.t, .slice c.b.la c.b.ll c.b.lc, .slice c.b.fa c.b.fl c.b.fc] 30)).alloc (.cells #[.int .i64 0, .slice none 0 0, .int .i64 0, .slice none 0 0, .int .i64 0, .int .i64 0, .int .i64 0, .string ByteArray.empty, .slice none 0 0, .slice none 0 0] 30)).heap.size ≤ b ∧ b < w3.heap.size → (w.heap.size ≤ b ∧ b < w3.heap.size) ∧ b ≠ w.heap.size + 1 := fun b hb => by (have := hb.1; simp at this; omega)
    exact IsMsg.same (w := w3) (fun b hb => ⟨by rw [h4]; exact (key b hb).1, h3 b (key b hb).2⟩) ⟨⟨rfl, HI1.out.re, HI1.out.ps⟩, HM.out, HRM.out, HI2.out, HI3.out⟩
end Go.Proofs.YthjlgpmajeafpaaGreatDoor

/-
  message.Under returns a stamp whose path is longer by one. Conditions: the stamp can be read as data, its path is not too long.
-/
namespace Go.Proofs.YthjlgpmajeafpaaGreatDoor
open Go Go.RowKit Go.Shelf
set_option linter.unusedVariables false
set_option linter.unusedSimpArgs false

theorem infoInt : (Tryz.prog.info? 3).map (fun i => (i.zero, i.size, i.bytes)) = some (some (.int .i64 0), 1, 8) := by kernel_rfl
theorem own_ge {w : World} {base : Nat} {e : TypeId} {size : Nat} {v : Value} {n : Nat} {xs : List Value} (h : w.ownsRow base e size v n xs) (k : Nat) (hk : v.ownBlock = some k) : base ≤ k := by
  rcases h.2 with ⟨rfl, _⟩ | ⟨g, cap, cur, rfl, hb, _⟩
  · cases hk
  · cases hk; exact hb
theorem own_low {w : World} {base B : Nat} {e : TypeId} {size : Nat} {v : Value} {n : Nat} {xs : List Value} (h : w.ownsRow base e size v n xs) (hB : B ≤ base) : w.ownsRow B e size v n xs :=
  ⟨h.1, h.2.imp id fun ⟨g, cap, cur, h1, hb, h2⟩ => ⟨g, cap, cur, h1, Nat.le_trans hB hb, h2⟩⟩
theorem clRow_call (a : Option Addr) (n c : Nat) (xs : List Int) (w : World) (hx : IsInts (· < w.heap.size) w a n c xs) (B : Nat) (hB : B ≤ w.heap.size) :
    Calls Tryz.prog 114 #[.slice a n c] w fun e w' => ∃ v, e = .returned v ∧ w'.ownsRow B 3 1 v n (xs.map (Value.int .i64)) ∧ Below w.heap.size w w' := by
  have hl := hx.len
  have hbig := hx.big
  cases hn : n with
  | zero =>
    subst hn
    have h0 : xs = [] := List.eq_nil_of_length_eq_zero hl.symm
    subst h0
    cases a with
    | none => exact (Tryz.slices_Clone_int_nil 0 c w).mono fun e w' ⟨he, hw⟩ => ⟨_, he, World.ownsRow_nil _ _ _ _, by rw [hw]; exact Below.refl _ _⟩
    | some a => exact (Tryz.slices_Clone_int_zero a c w).mono fun e w' ⟨v, he, ho, _, hb⟩ => ⟨v, he, own_low ho hB, hb⟩
  | succ m =>
    rw [← hn]
    obtain ⟨b, o, rfl, hb, hc⟩ := hx.slot (show 0 < n by omega)
    refine (Tryz.slices_Clone_int b o n c xs w (by omega) (by omega) (fun j hj => by rw [hc j hj]; simp [List.getD_eq_getElem?_getD, hj])).mono fun e w' ⟨v, he, ho, _, hb'⟩ => ?_
    rw [List.take_of_length_le (by omega)] at ho
    exact ⟨v, he, own_low ho hB, hb'⟩

set_option maxRecDepth 100000 in
set_option maxHeartbeats 4000000 in
theorem under_call (c : SC) (d : St) (i : Int) (w : World) (hi64 : I64 i) (hn : c.n ≤ 1000000) (hd : IsSt (· < w.heap.size) w c d) : Calls Tryz.prog 64 #[c.v, .int .i64 i] w (StPost w ⟨d.e, d.ps ++ [i]⟩) := by
  obtain ⟨ti, hi, hz0, hz1, hz2⟩ := info_parts infoInt
  have hcap1 : c.n + 1 ≤ maxLen := by unfold maxLen; omega
  have hcap2 : (c.n + 1) * 8 ≤ 140737488355328 := by omega
  have HWB : Hid (Below w.heap.size w ((w.alloc (.cells #[.int .i64 c.e, .slice c.a c.n c.c] 24)).alloc (.cells #[.int .i64 0, .slice none 0 0] 24))) := hid (((Below.refl _ w).alloc (Nat.le_refl _) _).alloc (by simp) _)
  have HV : Hid (∀ w', Below ((w.alloc (.cells #[.int .i64 c.e, .slice c.a c.n c.c] 24)).alloc (.cells #[.int .i64 0, .slice none 0 0] 24)).heap.size ((w.alloc (.cells #[.int .i64 c.e, .slice c.a c.n c.c] 24)).alloc (.cells #[.int .i64 0, .slice none 0 0] 24)) w' → Calls Tryz.prog 114 #[.slice c.a c.n c.c] w' fun e w2 => ∃ v, e = .returned v ∧ w2.ownsRow ((w.alloc (.cells #[.int .i64 c.e, .slice c.a c.n c.c] 24)).alloc (.cells #[.int .i64 0, .slice none 0 0] 24)).heap.size 3 1 v c.n (d.ps.map (Value.int .i64)) ∧ Below w'.heap.size w' w2) := hid fun w' h => by
    have hb := HWB.out.trans (h.mono HWB.out.size)
    exact clRow_call _ _ _ _ w' (hd.ps.same fun b q => ⟨Nat.lt_of_lt_of_le q hb.size, hb.block b q⟩) _ h.size
  have HC : Hid (∀ w', Below ((w.alloc (.cells #[.int .i64 c.e, .slice c.a c.n c.c] 24)).alloc (.cells #[.int .i64 0, .slice none 0 0] 24)).heap.size ((w.alloc (.cells #[.int .i64 c.e, .slice c.a c.n c.c] 24)).alloc (.cells #[.int .i64 0, .slice none 0 0] 24)) w' → w'.cell? ⟨w.heap.size, 0, none⟩ = some (.int .i64 c.e) ∧ w'.cell? ⟨w.heap.size, 1, none⟩ = some (.slice c.a c.n c.c)) := hid fun w' h => by
    have h1 : w'.heap[w.heap.size]? = some (.cells #[.int .i64 c.e, .slice c.a c.n c.c] 24 (0, 0)) := heapExt h (heapAlloc _ (heap_alloc_new w _))
    exact ⟨cellOf h1 0, cellOf h1 1⟩
  have HE := hid hd.e
  have HRE := hid hd.re
  have HRNG : Hid (∀ x ∈ d.ps ++ [i], I64 x) := hid fun x hx => by
    rw [List.mem_append, List.mem_singleton] at hx
    rcases hx with hx | rfl
    · exact hd.ps.rng x hx
    · exact hi64
  clear hd hi64
  go_enter Tryz.func64, Tryz.ntmps64
  go_upto_region 1 with (fail)
  refine wp_region_split 9 (fun w' => Below ((w.alloc (.cells #[.int .i64 c.e, .slice c.a c.n c.c] 24)).alloc (.cells #[.int .i64 0, .slice none 0 0] 24)).heap.size ((w.alloc (.cells #[.int .i64 c.e, .slice c.a c.n c.c] 24)).alloc (.cells #[.int .i64 0, .slice none 0 0] 24)) w') (by kernel_rfl) (by kernel_rfl) (by kernel_rfl) (by decide) ((Below.refl _ _).drew) (fun hS => ?_)
  simp only [List.take_succ_cons, List.take_zero, List.drop_succ_cons, List.drop_zero]
  refine wpAnyH_take (i := 0) (oi := _) (v := ?_) rfl (by kernel_rfl) (by kernel_rfl) (by kernel_rfl) (fun _ _ _ h => h) (Or.inl ⟨by rfl, ?_⟩) hS ?_
  rotate_left
  · intro w' hw'
    have hcells := HC.out w' hw'
    go_simp
    (try with_reducible rfl)
  simp only [Act.put, List.setIfInBounds_toArray, List.set_cons_zero, List.set_cons_succ]
  refine wpAnyH_take (i := 1) (oi := _) (v := ?_) rfl (by kernel_rfl) (by kernel_rfl) (by kernel_rfl) (fun _ _ _ h => h) (Or.inl ⟨by rfl, ?_⟩) hS ?_
  rotate_left
  · intro w' hw'
    have hcells := HC.out w' hw'
    go_simp
    (try with_reducible rfl)
  simp only [Act.put, List.setIfInBounds_toArray, List.set_cons_zero, List.set_cons_succ]
  refine wpAnyH_take (i := 2) (oi := _) (v := ?_) rfl (by kernel_rfl) (by kernel_rfl) (by kernel_rfl) (fun _ _ _ h => h) (Or.inl ⟨by rfl, ?_⟩) hS ?_
  rotate_left
  · intro w' hw'
    have hcells := HC.out w' hw'
    go_simp
    (try with_reducible rfl)
  simp only [Act.put, List.setIfInBounds_toArray, List.set_cons_zero, List.set_cons_succ]
  refine wpAnyH_take (i := 3) (oi := _) (v := ?_) rfl (by kernel_rfl) (by kernel_rfl) (by kernel_rfl) (fun _ _ _ h => h) (Or.inl ⟨by rfl, ?_⟩) hS ?_
  rotate_left
  · intro w' hw'
    have hcells := HC.out w' hw'
    go_simp
    (try with_reducible rfl)
  simp only [Act.put, List.setIfInBounds_toArray, List.set_cons_zero, List.set_cons_succ]
  refine wpAnyH_take (i := 5) (oi := _) (v := ?_) rfl (by kernel_rfl) (by kernel_rfl) (by kernel_rfl) (fun _ _ _ h => h) (Or.inl ⟨by rfl, ?_⟩) hS ?_
  rotate_left
  · intro w' hw'
    have hcells := HC.out w' hw'
    go_simp
    (try with_reducible rfl)
  simp only [Act.put, List.setIfInBounds_toArray, List.set_cons_zero, List.set_cons_succ]
  refine wpAnyH_ready (rs := [4, 6]) (by kernel_rfl) (by simp) ?_
  refine AllReadyH.cons (o := _) rfl (fun K hK => ?_) ?_
  · go_simp; go_at_call 114; refine (HV.out _ hS).mono ?_
    rintro e w1 ⟨v, rfl, ho, hb1⟩
    have HO := hid ho
    clear ho
    refine hK.out _ _ (hS.trans (hb1.mono hS.size)) (fun hS => ?_)
    clear hK K
    (try simp only [Act.put, List.setIfInBounds_toArray, List.set_cons_zero, List.set_cons_succ])
    refine wpAnyH_ready (rs := [6]) (by kernel_rfl) (by simp) ?_
    refine AllReadyH.cons (o := _) rfl (fun K hK => ?_) AllReadyH.nil
    go_simp
    refine hK.out _ _ (hS.trans (((Below.refl _ _).alloc (Nat.le_refl _) _).mono hS.size)) (fun hS => ?_)
    clear hK K
    (try simp only [Act.put, List.setIfInBounds_toArray, List.set_cons_zero, List.set_cons_succ])
    refine wpAnyH_ready (rs := [7]) (by kernel_rfl) (by simp) ?_
    refine AllReadyH.cons (o := _) rfl (fun K hK => ?_) AllReadyH.nil
    refine step_append_lies _ (by rfl) _ _ _ (by rfl) ((w.alloc (.cells #[.int .i64 c.e, .slice c.a c.n c.c] 24)).alloc (.cells #[.int .i64 0, .slice none 0 0] 24)).heap.size 3 ti _ 1 8 Tryz.underlying22 hi hz0 hz1 hz2 rfl (by omega) v c.n (d.ps.map (Value.int .i64)) (by rfl) (HO.out.alloc _) ⟨w1.heap.size, 0, none⟩ 1 1 [.int .i64 i] (by rfl) (by rfl) (World.news_of_block (heap_alloc_new w1 _)) (by simp [Value.oneCell']) (by omega) hcap1 hcap2 hS.size _ rfl ?_
    intro gg cap w2 hown2 hgrow hat hlt2
    have hS2 : Below ((w.alloc (.cells #[.int .i64 c.e, .slice c.a c.n c.c] 24)).alloc (.cells #[.int .i64 0, .slice none 0 0] 24)).heap.size ((w.alloc (.cells #[.int .i64 c.e, .slice c.a c.n c.c] 24)).alloc (.cells #[.int .i64 0, .slice none 0 0] 24)) w2 := hS.grown hgrow hS.size (fun k e => own_ge HO.out k e)
    have HOW := hid hown2
    clear hown2 hgrow hat hlt2
    refine hK.out _ _ (hS2) (fun hS => ?_)
    clear hK K
    (try simp only [Act.put, List.setIfInBounds_toArray, List.set_cons_zero, List.set_cons_succ])
    refine wpAnyH_take (i := 8) (oi := _) (v := ?_) rfl (by kernel_rfl) (by kernel_rfl) (by kernel_rfl) (fun _ _ _ h => h) (Or.inl ⟨by rfl, ?_⟩) hS ?_
    rotate_left
    · intro w' hw'
      have hcells := HC.out w' hw'
      go_simp
      (try with_reducible rfl)
    simp only [Act.put, List.setIfInBounds_toArray, List.set_cons_zero, List.set_cons_succ]
    refine wpAnyH_done (by kernel_rfl) ?_ _
    (try dsimp only)
    have hB := heapExt hS (heapNewAt (w.alloc (.cells #[.int .i64 c.e, .slice c.a c.n c.c] 24)) (.cells #[.int .i64 0, .slice none 0 0] 24) (w.heap.size + 1) (by simp))
    have z0 := cellOf hB 0
    have z1 := cellOf hB 1
    have y0 := freeOf hB 0
    have y1 := freeOf hB 1
    (try dsimp only at z0 z1)
    have HB := hid hB
    have HS := hid hS
    clear hB hS hS2 hb1 HV HC HO hi hz0 hz1 hz2 hcap1 hcap2
    go_wp2
    have h1 := heapSet (o := 1) (Value.slice (some ⟨gg, 0, none⟩) (c.n + 1) cap) (heapSet (o := 0) (Value.int .i64 c.e) HB.out)
    obtain ⟨a', c', hac, hii⟩ := ints_of_row (xs := d.ps ++ [i]) (by rw [List.map_append]; exact HOW.out) (by omega) HRNG.out
    obtain ⟨rfl, rfl⟩ : some ⟨gg, 0, none⟩ = a' ∧ cap = c' := by (injection hac with e1 _ e2; exact ⟨e1, e2⟩)
    refine bodyPost_ret (v := .agg #[.int .i64 c.e, .slice (some ⟨gg, 0, none⟩) (c.n + 1) cap]) (by simp [results, Tryz.results64, go_sem, cellOf h1]) rfl ⟨(⟨c.e, some ⟨gg, 0, none⟩, c.n + 1, cap⟩ : SC), rfl, ?_, ⟨HE.out, HRE.out, ?_⟩⟩
    · exact ((HWB.out.trans (HS.out.mono HWB.out.size)).setCell (p := ⟨w.heap.size + 1, 0, none⟩) (by dsimp only; omega) _).setCell (p := ⟨w.heap.size + 1, 1, none⟩) (by dsimp only; omega) _
    · refine hii.same fun b hb => ⟨⟨?_, by simpa [World.setCell] using hb.2⟩, (Below.heap_setCell _ _ _ _ ?_).trans (Below.heap_setCell _ _ _ _ ?_)⟩ <;> (have := hb.1; simp at this ⊢; omega)
  refine AllReadyH.cons (o := _) rfl (fun K hK => ?_) AllReadyH.nil
  go_simp
  refine hK.out _ _ (hS.trans (((Below.refl _ _).alloc (Nat.le_refl _) _).mono hS.size)) (fun hS => ?_)
  clear hK K
  (try simp only [Act.put, List.setIfInBounds_toArray, List.set_cons_zero, List.set_cons_succ])
  refine wpAnyH_ready (rs := [4]) (by kernel_rfl) (by simp) ?_
  refine AllReadyH.cons (o := _) rfl (fun K hK => ?_) AllReadyH.nil
  go_simp; go_at_call 114; refine (HV.out _ hS).mono ?_
  rintro e w1 ⟨v, rfl, ho, hb1⟩
  have HO := hid ho
  clear ho
  refine hK.out _ _ (hS.trans (hb1.mono hS.size)) (fun hS => ?_)
  clear hK K
  (try simp only [Act.put, List.setIfInBounds_toArray, List.set_cons_zero, List.set_cons_succ])
  refine wpAnyH_ready (rs := [7]) (by kernel_rfl) (by simp) ?_
  refine AllReadyH.cons (o := _) rfl (fun K hK => ?_) AllReadyH.nil
  refine step_append_lies _ (by rfl) _ _ _ (by rfl) ((w.alloc (.cells #[.int .i64 c.e, .slice c.a c.n c.c] 24)).alloc (.cells #[.int .i64 0, .slice none 0 0] 24)).heap.size 3 ti _ 1 8 Tryz.underlying22 hi hz0 hz1 hz2 rfl (by omega) v c.n (d.ps.map (Value.int .i64)) (by rfl) HO.out ⟨(w.heap.size + 1 + 1), 0, none⟩ 1 1 [.int .i64 i] (by rfl) (by rfl) (World.news_of_block (heapExt hb1 (heapNewAt ((w.alloc (.cells #[.int .i64 c.e, .slice c.a c.n c.c] 24)).alloc (.cells #[.int .i64 0, .slice none 0 0] 24)).drew _ _ (by simp)))) (by simp [Value.oneCell']) (by omega) hcap1 hcap2 hS.size _ rfl ?_
  intro gg cap w2 hown2 hgrow hat hlt2
  have hS2 : Below ((w.alloc (.cells #[.int .i64 c.e, .slice c.a c.n c.c] 24)).alloc (.cells #[.int .i64 0, .slice none 0 0] 24)).heap.size ((w.alloc (.cells #[.int .i64 c.e, .slice c.a c.n c.c] 24)).alloc (.cells #[.int .i64 0, .slice none 0 0] 24)) w2 := hS.grown hgrow hS.size (fun k e => own_ge HO.out k e)
  have HOW := hid hown2
  clear hown2 hgrow hat hlt2
  refine hK.out _ _ (hS2) (fun hS => ?_)
  clear hK K
  (try simp only [Act.put, List.setIfInBounds_toArray, List.set_cons_zero, List.set_cons_succ])
  refine wpAnyH_take (i := 8) (oi := _) (v := ?_) rfl (by kernel_rfl) (by kernel_rfl) (by kernel_rfl) (fun _ _ _ h => h) (Or.inl ⟨by rfl, ?_⟩) hS ?_
  rotate_left
  · intro w' hw'
    have hcells := HC.out w' hw'
    go_simp
    (try with_reducible rfl)
  simp only [Act.put, List.setIfInBounds_toArray, List.set_cons_zero, List.set_cons_succ]
  refine wpAnyH_done (by kernel_rfl) ?_ _
  (try dsimp only)
  have hB := heapExt hS (heapNewAt (w.alloc (.cells #[.int .i64 c.e, .slice c.a c.n c.c] 24)) (.cells #[.int .i64 0, .slice none 0 0] 24) (w.heap.size + 1) (by simp))
  have z0 := cellOf hB 0
  have z1 := cellOf hB 1
  have y0 := freeOf hB 0
  have y1 := freeOf hB 1
  (try dsimp only at z0 z1)
  have HB := hid hB
  have HS := hid hS
  clear hB hS hS2 hb1 HV HC HO hi hz0 hz1 hz2 hcap1 hcap2
  go_wp2
  have h1 := heapSet (o := 1) (Value.slice (some ⟨gg, 0, none⟩) (c.n + 1) cap) (heapSet (o := 0) (Value.int .i64 c.e) HB.out)
  obtain ⟨a', c', hac, hii⟩ := ints_of_row (xs := d.ps ++ [i]) (by rw [List.map_append]; exact HOW.out) (by omega) HRNG.out
  obtain ⟨rfl, rfl⟩ : some ⟨gg, 0, none⟩ = a' ∧ cap = c' := by (injection hac with e1 _ e2; exact ⟨e1, e2⟩)
  refine bodyPost_ret (v := .agg #[.int .i64 c.e, .slice (some ⟨gg, 0, none⟩) (c.n + 1) cap]) (by simp [results, Tryz.results64, go_sem, cellOf h1]) rfl ⟨(⟨c.e, some ⟨gg, 0, none⟩, c.n + 1, cap⟩ : SC), rfl, ?_, ⟨HE.out, HRE.out, ?_⟩⟩
  · exact ((HWB.out.trans (HS.out.mono HWB.out.size)).setCell (p := ⟨w.heap.size + 1, 0, none⟩) (by dsimp only; omega) _).setCell (p := ⟨w.heap.size + 1, 1, none⟩) (by dsimp only; omega) _
  · refine hii.same fun b hb => ⟨⟨?_, by simpa [World.setCell] using hb.2⟩, (Below.heap_setCell _ _ _ _ ?_).trans (Below.heap_setCell _ _ _ _ ?_)⟩ <;> (have := hb.1; simp at this ⊢; omega)
end Go.Proofs.YthjlgpmajeafpaaGreatDoor

/-
  message.shares yields the numbers from 0 to n - 1 with the shares of a mass. Conditions: the mass is not negative and not great, n is not great.
-/
namespace Go.Proofs.YthjlgpmajeafpaaGreatDoor
open Go Go.RowKit Go.Shelf
set_option linter.unusedVariables false
set_option linter.unusedSimpArgs false
attribute [local go_sem] Oper.semAt_some

def shareN (M n i : Nat) : Nat := M / n + if i < M % n then 1 else 0
def shareL (M n : Nat) : List (Nat × Nat) := (List.range n).map fun i => (i, shareN M n i)
theorem shareL_take (M n k : Nat) (h : k < n) : (shareL M n).take (k + 1) = (shareL M n).take k ++ [(k, shareN M n k)] := by
  unfold shareL
  rw [← List.map_take, ← List.map_take, List.take_range, List.take_range, Nat.min_eq_left (by omega), Nat.min_eq_left (by omega), List.range_succ, List.map_append]
  rfl
theorem shareL_len (M n : Nat) : (shareL M n).length = n := by simp [shareL]
theorem shareN_le (M n i : Nat) (hM : M ≤ 1099511627776) : shareN M n i ≤ 1099511627777 := by
  unfold shareN
  have := Nat.div_le_self M n
  split <;> omega
/-- What a round is handed: a number below n, and a share. -/
abbrev Sh (n : Nat) := { x : Nat × Nat // x.1 < n ∧ x.2 ≤ 1099511627777 }
def shEncs {n : Nat} (x : Sh n) : Array Value := #[.int .i64 x.1.1, .int .i64 x.1.2]
/-- What a round keeps: the two boxes. -/
def Kb (B1 B2 : Nat) (W W' : World) : Prop := ∀ (b : Nat) (o : Obj), b = B1 ∨ b = B2 → W.heap[b]? = some o → o.isCells = true → W'.heap[b]? = some o
theorem kb_b {B1 B2 : Nat} {w : World} (W : World) (l : Nat) (o o' : Obj) (hl : w.heap.size ≤ l) (h : W.heap[l]? = some o) (hc : o.isCells = false) (hw : o.isWalk = false) : Kb B1 B2 W (W.putObj l o') := fun b o2 _ h2 hc2 => by
  refine (World.putObj_heap_other (fun e => ?_)).trans h2
  subst e
  rw [h] at h2; cases h2; rw [hc] at hc2; cases hc2

theorem shares_call (mass n : Int) (w : World) : Calls Tryz.prog 62 #[.int .i64 mass, .int .i64 n] w fun e w' => e = .returned (.func (.func 113) #[] #[.pointer (some ⟨w.heap.size + 1, 0, none⟩), .pointer (some ⟨w.heap.size, 0, none⟩)]) ∧
    (w.alloc (.cells #[.int .i64 mass] 3)).alloc (.cells #[.int .i64 n] 3) = w' := by
  go_enter Tryz.func62, Tryz.ntmps62
  go_wp2
  go_ret
  exact ⟨rfl, rfl⟩

set_option maxRecDepth 100000 in
set_option maxHeartbeats 4000000 in
theorem shares_stops (m B1 B2 M n : Nat) (w : World) (hM : M ≤ 1099511627776) (hn : n ≤ 1000000)
    (h1 : w.heap[B1]? = some (.cells #[.int .i64 n] 3 (0, 0))) (h2 : w.heap[B2]? = some (.cells #[.int .i64 M] 3 (0, 0))) :
    SeqStopsK Fence.wide m Tryz.prog 113 #[.pointer (some ⟨B1, 0, none⟩), .pointer (some ⟨B2, 0, none⟩)] (shEncs (n := n)) (Kb B1 B2) (fun ys => ys.map Subtype.val = shareL M n) (fun ys => ys.map Subtype.val <+: shareL M n) n w := by
  intro l J Jx W hW hJ hJx hY h0
  have b1 := heapExt hW h1
  have b2 := heapExt hW h2
  clear h1 h2
  have c1 := cellOf b1 0
  (try dsimp only at c1)
  refine callsIn_of_wp Tryz.func113 rfl trivial ?_ rfl
  simp only [Tryz.ntmps113, List.size_toArray, List.length_cons, List.length_nil, Nat.reduceAdd, Nat.reduceSub, Array.replicate_succ, Array.replicate_zero, List.push_toArray, List.append_toArray, List.nil_append, List.cons_append]
  gi_wp2
  gi_loopw [7] (fun i wr => ∃ (k : Nat) (ys : List (Sh n)), k ≤ n ∧ i = .int .i64 k ∧ ys.map Subtype.val = (shareL M n).take k ∧ J ys wr ∧ wr.heap[B1]? = some (.cells #[.int .i64 n] 3 (0, 0)) ∧ wr.heap[B2]? = some (.cells #[.int .i64 M] 3 (0, 0)))
    (fun i _ => n - (intOf i).toNat)
  case atStart => exact ⟨0, [], Nat.zero_le _, rfl, rfl, h0, b1, b2⟩
  case round =>
    obtain ⟨k, ys, hk, rfl, hys, hj, g1, g2⟩ := hrel
    have HYS := hid hys
    clear hys
    clear c1
    have c1 := cellOf g1 0
    have c2 := cellOf g2 0
    (try dsimp only at c1 c2)
    have G := hid (And.intro g1 g2)
    clear g1 g2 b1 b2
    by_cases hlt : k < n
    · have hlt' : (k : Int) < (n : Int) := by omega
      have hlen : ys.length = k := by
        have := congrArg List.length HYS.out
        rw [List.length_map, List.length_take, shareL_len] at this
        omega
      have hx := hY ys ⟨(k, shareN M n k), hlt, shareN_le M n k hM⟩ wr hj (by omega)
      have HST : Hid (((ys ++ [(⟨(k, shareN M n k), hlt, shareN_le M n k hM⟩ : Sh n)])).map Subtype.val = (shareL M n).take (k + 1)) := hid (by rw [List.map_append, HYS.out, shareL_take M n k hlt]; rfl)
      clear hlen
      obtain ⟨zs, hzs⟩ : ∃ zs, zs = ys ++ [(⟨(k, shareN M n k), hlt, shareN_le M n k hM⟩ : Sh n)] := ⟨_, rfl⟩
      rw [← hzs] at hx HST
      clear hzs
      simp only [shEncs] at hx
      have HX := hid hx
      clear hx
      have hnz : ¬ (n : Int) = 0 := by omega
      obtain ⟨sq, hsq⟩ : ∃ sq, sq = M / n := ⟨_, rfl⟩
      have hq : wrap64 ((M : Int) / (n : Int)) = (sq : Int) := by
        rw [hsq, Int.natCast_ediv]
        have : ((M / n : Nat) : Int) ≤ M := by exact_mod_cast Nat.div_le_self M n
        rw [Int.natCast_ediv] at this
        have h0 : (0 : Int) ≤ ((M / n : Nat) : Int) := Int.natCast_nonneg _
        rw [Int.natCast_ediv] at h0
        obtain ⟨z, hz⟩ : ∃ z : Int, z = (M : Int) / (n : Int) := ⟨_, rfl⟩
        rw [← hz] at h0 this ⊢
        exact IntWalk.wrap64_in z (by have h5 : z ≤ (M : Int) := this; have h6 : (M : Int) ≤ 1099511627776 := Int.ofNat_le.2 hM; clear hY hj this; omega)
      have hsqb : (sq : Int) ≤ 1099511627776 := by have := Nat.div_le_self M n; omega
      have HQ := hid hq
      clear hq
      have HSQ := hid hsq
      clear hsq
      obtain ⟨sh, hsh⟩ : ∃ sh, sh = shareN M n k := ⟨_, rfl⟩
      rw [← hsh] at HX
      have HSH := hid hsh
      clear hsh
      gi_upto_region 4 with (fail)
      rw [HQ.out]
      by_cases r : k < M % n
      · have hr : (k : Int) < (M : Int) % (n : Int) := by exact_mod_cast r
        have hs1 := hid (show sh = sq + 1 by rw [HSH.out, HSQ.out, shareN, if_pos r])
        clear r
        gi_upto_region 6 with (fail)
        rw [show (sq : Int) + 1 = (sh : Int) by rw [hs1.out]; push_cast; rfl]
        have hx := HX.out
        obtain ⟨fn, tmps, assign, body, hy, hR⟩ := hx
        (try dsimp only at hy)
        have HR := hid hR
        clear hR
        gi_wp2_with ((try refine ⟨fun h => (by cases h), ?_⟩); refine HR.out.mono ?_; clear HR; rintro e W2 (⟨rfl, h4⟩ | ⟨rfl, h4⟩))
        · go_roundw
          case rel => exact ⟨k + 1, zs, by omega, by go_num, HST.out, h4.1, h4.2 _ _ (.inl rfl) G.out.1 rfl, h4.2 _ _ (.inr rfl) G.out.2 rfl⟩
          case measure => simp [intOf]; omega
        · exact bodyPost_ret (results_none rfl _ _ _) rfl ⟨⟨_, rfl⟩, .inr ⟨zs, by rw [HST.out]; exact List.take_prefix _ _, h4⟩⟩
      · have hr : ¬ (k : Int) < (M : Int) % (n : Int) := by intro h; exact r (by exact_mod_cast h)
        have hs1 := hid (show sh = sq by rw [HSH.out, HSQ.out, shareN, if_neg r]; rfl)
        clear r
        gi_upto_region 6 with (fail)
        rw [show (sq : Int) = (sh : Int) by rw [hs1.out]]
        have hx := HX.out
        obtain ⟨fn, tmps, assign, body, hy, hR⟩ := hx
        (try dsimp only at hy)
        have HR := hid hR
        clear hR
        gi_wp2_with ((try refine ⟨fun h => (by cases h), ?_⟩); refine HR.out.mono ?_; clear HR; rintro e W2 (⟨rfl, h4⟩ | ⟨rfl, h4⟩))
        · go_roundw
          case rel => exact ⟨k + 1, zs, by omega, by go_num, HST.out, h4.1, h4.2 _ _ (.inl rfl) G.out.1 rfl, h4.2 _ _ (.inr rfl) G.out.2 rfl⟩
          case measure => simp [intOf]; omega
        · exact bodyPost_ret (results_none rfl _ _ _) rfl ⟨⟨_, rfl⟩, .inr ⟨zs, by rw [HST.out]; exact List.take_prefix _ _, h4⟩⟩
    · obtain rfl : k = n := by omega
      gi_wp2
      go_end0
      exact ⟨⟨_, rfl⟩, .inl ⟨ys, by rw [HYS.out, List.take_of_length_le (by rw [shareL_len]; exact Nat.le_refl _)], hj⟩⟩
end Go.Proofs.YthjlgpmajeafpaaGreatDoor
