/-
  value.Size and value.Depth return, and leave what was there as it was (of their results only this is said, that they are integers). Condition: the value can be read as data.
-/
import Derived.Test.YthjlgpmajeafpaaGreatDoorVisit
import Derived.WalkLawsBesides
namespace Go.Proofs.YthjlgpmajeafpaaGreatDoor
open Go Go.RowKit Go.Shelf
set_option linter.unusedVariables false
set_option linter.unusedSimpArgs false
attribute [local go_sem] Oper.semAt_some

def SomeInt (w : World) (e : Ending) (w' : World) : Prop := (∃ n : Int, e = .returned (.int .i64 n)) ∧ Below w.heap.size w w'

abbrev vObj (c : VC) : Obj := .cells #[.int .i64 c.k, .int .i64 c.i, .int .i64 c.s, .string c.t, .slice c.la c.ll c.lc, .slice c.fa c.fl c.fc] 28

set_option maxRecDepth 100000 in
set_option maxHeartbeats 2000000 in
theorem size_call' (c : VC) (d : Val) (w : World) (hd : IsVal (· < w.heap.size) w c d) : Calls Tryz.prog 61 #[c.v] w (SomeInt w) := by
  refine (callsIn_wide (n := 3)).1 ?_
  refine callsIn_of_wp_marks Tryz.func61 rfl trivial ?_ rfl
  simp only [Tryz.ntmps61, List.size_toArray, List.length_cons, List.length_nil, Nat.reduceAdd, Nat.reduceSub, Array.replicate_succ, Array.replicate_zero, List.push_toArray, List.append_toArray, List.nil_append, List.cons_append]
  gi_wp2_with ((try refine ⟨trivial, ?_⟩); (try refine ⟨fun h => (by cases h), ?_⟩); gi_at_call 112; refine (callsIn_wide.2 (preorder_call c _)).mono ?_; rintro e w' ⟨rfl, rfl⟩)
  obtain ⟨wl, hwl⟩ : ∃ wl, wl = ((w.alloc (vObj c)).alloc (.cells #[.int .i64 0] 3)).alloc (vObj c) := ⟨_, rfl⟩
  have hb1 : wl.heap[w.heap.size + 1]? = some (.cells #[.int .i64 0] 3 (0, 0)) := by rw [hwl]; exact heapAlloc _ (heapNewAt _ _ _ (by simp))
  have hb2 : wl.heap[w.heap.size + 2]? = some (vObj c) := by rw [hwl]; exact heapNewAt _ _ _ (by simp)
  have hsz : wl.heap.size = w.heap.size + 3 := by rw [hwl]; simp
  have hbel : Below w.heap.size w wl := by rw [hwl]; exact (((Below.refl _ w).alloc (Nat.le_refl _) _).alloc (by simp) _).alloc (by simp; omega) _
  rw [← hwl]
  clear hwl
  refine wpIn_rangeFunc_ownH rfl (by omega) (gf := 140) (lb := #[.pointer (some ⟨w.heap.size + 2, 0, none⟩)]) rfl trivial (enters_of Tryz.func140 (by kernel_rfl) rfl)
    (preorder_stops (3 - 1) w.heap.size (w.heap.size + 2) w wl c d (Nat.le_refl _) hbel (by omega) hd hb2 wl.heap.size (Nat.le_refl _) (by omega)) (fun h k => h.trans k) (kp_b (by omega)) (Below.refl _ _) (fun _ => rfl)
    (fun pre W => (∃ n : Int, W.heap[w.heap.size + 1]? = some (.cells #[.int .i64 n] 3 (0, 0))) ∧ Below w.heap.size w W)
    (fun _ _ _ => False)
    (fun s A B row hs hg hr => ⟨hs.1.imp fun n hn => heapGrown hg hn (fun e => by have := (hr _ e.symm).1; omega), hs.2.grown hg (by have := hs.2.size; omega) (fun k e => by have := (hr _ e).1; omega)⟩)
    (fun _ _ _ _ _ hs _ _ => hs)
    ⟨⟨0, hb1⟩, hbel⟩
    (fun x a' W => a' = { tmps := #[c.v, .pointer (some ⟨w.heap.size, 0, none⟩), .int .i64 0, .pointer (some ⟨w.heap.size + 1, 0, none⟩), c.v, .func (.func 140) #[] #[.pointer (some ⟨w.heap.size + 2, 0, none⟩)], .int .i64 x.1.1, x.1.2.1.v, undef, undef, undef], defers := [] })
    (fun x a' s A B row hs _ _ => hs) ?assign ?body ?done ?stop
  case assign =>
    intro l pre x W K hi hK
    gi_wp2
    exact hK _ _ ((KeepsOthers.refl _).from _) (Kp.refl _ _ _) hi (by first | (simp [Item.encs]; done) | kernel_rfl)
  case body =>
    rintro l pre x a' W hl hr ⟨⟨n, hn⟩, hb⟩ rfl hlt
    have c1 := cellOf hn 0
    have f1 := freeOf hn 0
    (try dsimp only at c1)
    have HN := hid hn; clear hn
    gi_wp2
    exact ⟨(KeepsOthers.setCell _ _ _).from _, ⟨(Below.refl _ W).setCell (p := ⟨w.heap.size + 1, 0, none⟩) (by dsimp only; omega) _, fun b o hb' ho hc => heapSetOther _ _ ho (by dsimp only; omega)⟩, ⟨_, heapSet _ HN.out⟩, hb.setCell (p := ⟨w.heap.size + 1, 0, none⟩) (by dsimp only; omega) _⟩
  case done =>
    rintro D ys W hD hS ⟨⟨n, hn⟩, hb⟩ hK
    have c1 := cellOf hn 0
    (try dsimp only at c1)
    clear hn
    gi_wp2
    refine ⟨by simp, .inl ⟨_, _, rfl, run_takeDeferred hK, ?_⟩⟩
    exact ⟨_, results_tmp rfl _ _ _, ⟨n, rfl⟩, hb.trans (belowK_b (w := w) (Nat.le_refl _) W D _ _ (by omega) hK rfl rfl)⟩
  case stop =>
    rintro D c pre W hD _ h _
    exact h.elim
set_option maxRecDepth 100000 in
set_option maxHeartbeats 2000000 in
theorem depth_call (c : VC) (d : Val) (w : World) (hd : IsVal (· < w.heap.size) w c d) : Calls Tryz.prog 60 #[c.v] w (SomeInt w) := by
  refine (callsIn_wide (n := 3)).1 ?_
  refine callsIn_of_wp_marks Tryz.func60 rfl trivial ?_ rfl
  simp only [Tryz.ntmps60, List.size_toArray, List.length_cons, List.length_nil, Nat.reduceAdd, Nat.reduceSub, Array.replicate_succ, Array.replicate_zero, List.push_toArray, List.append_toArray, List.nil_append, List.cons_append]
  gi_wp2_with ((try refine ⟨trivial, ?_⟩); (try refine ⟨fun h => (by cases h), ?_⟩); gi_at_call 112; refine (callsIn_wide.2 (preorder_call c _)).mono ?_; rintro e w' ⟨rfl, rfl⟩)
  obtain ⟨wl, hwl⟩ : ∃ wl, wl = ((w.alloc (vObj c)).alloc (.cells #[.int .i64 0] 3)).alloc (vObj c) := ⟨_, rfl⟩
  have hb1 : wl.heap[w.heap.size + 1]? = some (.cells #[.int .i64 0] 3 (0, 0)) := by rw [hwl]; exact heapAlloc _ (heapNewAt _ _ _ (by simp))
  have hb2 : wl.heap[w.heap.size + 2]? = some (vObj c) := by rw [hwl]; exact heapNewAt _ _ _ (by simp)
  have hsz : wl.heap.size = w.heap.size + 3 := by rw [hwl]; simp
  have hbel : Below w.heap.size w wl := by rw [hwl]; exact (((Below.refl _ w).alloc (Nat.le_refl _) _).alloc (by simp) _).alloc (by simp; omega) _
  rw [← hwl]
  clear hwl
  refine wpIn_rangeFunc_ownH rfl (by omega) (gf := 140) (lb := #[.pointer (some ⟨w.heap.size + 2, 0, none⟩)]) rfl trivial (enters_of Tryz.func140 (by kernel_rfl) rfl)
    (preorder_stops (3 - 1) w.heap.size (w.heap.size + 2) w wl c d (Nat.le_refl _) hbel (by omega) hd hb2 wl.heap.size (Nat.le_refl _) (by omega)) (fun h k => h.trans k) (kp_b (by omega)) (Below.refl _ _) (fun _ => rfl)
    (fun pre W => (∃ n : Int, W.heap[w.heap.size + 1]? = some (.cells #[.int .i64 n] 3 (0, 0))) ∧ Below w.heap.size w W)
    (fun _ _ _ => False)
    (fun s A B row hs hg hr => ⟨hs.1.imp fun n hn => heapGrown hg hn (fun e => by have := (hr _ e.symm).1; omega), hs.2.grown hg (by have := hs.2.size; omega) (fun k e => by have := (hr _ e).1; omega)⟩)
    (fun _ _ _ _ _ hs _ _ => hs)
    ⟨⟨0, hb1⟩, hbel⟩
    (fun x a' W => a' = { tmps := #[c.v, .pointer (some ⟨w.heap.size, 0, none⟩), .int .i64 0, .pointer (some ⟨w.heap.size + 1, 0, none⟩), .int .i64 x.1.1, c.v, .func (.func 140) #[] #[.pointer (some ⟨w.heap.size + 2, 0, none⟩)], .int .i64 x.1.1, x.1.2.1.v, undef, undef, undef, undef], defers := [] })
    (fun x a' s A B row hs _ _ => hs) ?assign ?body ?done ?stop
  case assign =>
    intro l pre x W K hi hK
    gi_wp2
    exact hK _ _ ((KeepsOthers.refl _).from _) (Kp.refl _ _ _) hi (by first | (simp [Item.encs]; done) | kernel_rfl)
  case body =>
    rintro l pre x a' W hl hr ⟨⟨n, hn⟩, hb⟩ rfl hlt
    have c1 := cellOf hn 0
    have f1 := freeOf hn 0
    (try dsimp only at c1)
    have HN := hid hn; clear hn
    gi_wp2
    all_goals exact ⟨(KeepsOthers.setCell _ _ _).from _, ⟨(Below.refl _ W).setCell (p := ⟨w.heap.size + 1, 0, none⟩) (by dsimp only; omega) _, fun b o hb' ho hc => heapSetOther _ _ ho (by dsimp only; omega)⟩, ⟨_, heapSet _ HN.out⟩, hb.setCell (p := ⟨w.heap.size + 1, 0, none⟩) (by dsimp only; omega) _⟩
  case done =>
    rintro D ys W hD hS ⟨⟨n, hn⟩, hb⟩ hK
    have c1 := cellOf hn 0
    (try dsimp only at c1)
    clear hn
    gi_wp2
    refine ⟨by simp, .inl ⟨_, _, rfl, run_takeDeferred hK, ?_⟩⟩
    exact ⟨_, results_tmp rfl _ _ _, ⟨n, rfl⟩, hb.trans (belowK_b (w := w) (Nat.le_refl _) W D _ _ (by omega) hK rfl rfl)⟩
  case stop =>
    rintro D c pre W hD _ h _
    exact h.elim
end Go.Proofs.YthjlgpmajeafpaaGreatDoor
