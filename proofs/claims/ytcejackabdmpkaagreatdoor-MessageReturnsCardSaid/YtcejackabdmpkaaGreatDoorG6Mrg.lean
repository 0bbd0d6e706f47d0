/-
  message.Under returns a stamp whose path is longer by one. Conditions: the stamp can be read as data, its path is not too long.
-/
import Derived.Test.YtcejackabdmpkaaGreatDoorG5Mrg
import Derived.Deep.AppendLies
import Derived.Test.YtcejackabdmpkaaGreatDoorG2Mrg
import Derived.Laws.EntriesVeiled
import Derived.Test.YtcejackabdmpkaaGreatDoorG1Mrg
import Derived.OrdersIn
import Derived.RangeFuncCalls
import Derived.TacticsIn
namespace Go.Proofs.YtcejackabdmpkaaGreatDoor
open Go Go.RowKit Go.Shelf
set_option linter.unusedVariables false
set_option linter.unusedSimpArgs false

theorem infoInt : (Tryz.prog.info? 3).map (fun i => (i.zero, i.size, i.bytes)) = some (some (.int .i64 0), 1, 8) := by kernel_rfl
theorem own_ge {w : World} {base : Nat} {e : TypeId} {size : Nat} {v : Value} {n : Nat} {xs : List Value} (h : w.ownsRow base e size v n xs) (k : Nat) (hk : v.ownBlock = some k) : base ≤ k := by
  rcases h.2 with ⟨rfl, _⟩ | ⟨g, cap, cur, rfl, hb, _⟩
  · cases hk
  · cases hk; exact hb
theorem own_low {w : World} {base B : Nat} {e : TypeId} {size : Nat} {v : Value} {n : Nat} {xs : List Value} (h : w.ownsRow base e size v n xs) (hB : B ≤ base) : w.ownsRow B e size v n xs :=
  ⟨h.1, h.2.imp id fun ⟨g, cap, cur, h1, hb, h2⟩ => ⟨g, cap, cur, h1, Nat.le_trans hB hb, h2⟩⟩
theorem clRow_call (a : Option Addr) (n c : Nat) (xs : List Int) (w : World) (hx : IsInts (· < w.heap.size) w a n c xs) (B : Nat) (hB : B ≤ w.heap.size) :
    Calls Tryz.prog 94 #[.slice a n c] w fun e w' => ∃ v, e = .returned v ∧ w'.ownsRow B 3 1 v n (xs.map (Value.int .i64)) ∧ Below w.heap.size w w' := by
  have hl := hx.len
  have hbig := hx.big
  cases hn : n with
  | zero =>
    subst hn
    have h0 : xs = [] := List.eq_nil_of_length_eq_zero hl.symm
    subst h0
    cases a with
    | none => exact (Tryz.slices_Clone_int_nil 0 c w).mono fun e w' ⟨he, hw⟩ => ⟨_, he, World.ownsRow_nil _ _ _ _, by rw [hw]; exact Below.refl _ _⟩
    | some a => exact (Tryz.slices_Clone_int_zero a c w).mono fun e w' ⟨v, he, ho, _, hb⟩ => ⟨v, he, own_low ho hB, hb⟩
  | succ m =>
    rw [← hn]
    obtain ⟨b, o, rfl, hb, hc⟩ := hx.slot (show 0 < n by omega)
    refine (Tryz.slices_Clone_int b o n c xs w (by omega) (by omega) (fun j hj => by rw [hc j hj]; simp [List.getD_eq_getElem?_getD, hj])).mono fun e w' ⟨v, he, ho, _, hb'⟩ => ?_
    rw [List.take_of_length_le (by omega)] at ho
    exact ⟨v, he, own_low ho hB, hb'⟩

set_option maxRecDepth 100000 in
set_option maxHeartbeats 4000000 in
theorem under_call (c : SC) (d : St) (i : Int) (w : World) (hi64 : I64 i) (hn : c.n ≤ 1000000) (hd : IsSt (· < w.heap.size) w c d) : Calls Tryz.prog 49 #[c.v, .int .i64 i] w (StPost w ⟨d.e, d.ps ++ [i]⟩) := by
  obtain ⟨ti, hi, hz0, hz1, hz2⟩ := info_parts infoInt
  have hcap1 : c.n + 1 ≤ maxLen := by unfold maxLen; omega
  have hcap2 : (c.n + 1) * 8 ≤ 140737488355328 := by omega
  have HWB : Hid (Below w.heap.size w ((w.alloc (.cells #[.int .i64 c.e, .slice c.a c.n c.c] 39)).alloc (.cells #[.int .i64 0, .slice none 0 0] 39))) := hid (((Below.refl _ w).alloc (Nat.le_refl _) _).alloc (by simp) _)
  have HV : Hid (∀ w', Below ((w.alloc (.cells #[.int .i64 c.e, .slice c.a c.n c.c] 39)).alloc (.cells #[.int .i64 0, .slice none 0 0] 39)).heap.size ((w.alloc (.cells #[.int .i64 c.e, .slice c.a c.n c.c] 39)).alloc (.cells #[.int .i64 0, .slice none 0 0] 39)) w' → Calls Tryz.prog 94 #[.slice c.a c.n c.c] w' fun e w2 => ∃ v, e = .returned v ∧ w2.ownsRow ((w.alloc (.cells #[.int .i64 c.e, .slice c.a c.n c.c] 39)).alloc (.cells #[.int .i64 0, .slice none 0 0] 39)).heap.size 3 1 v c.n (d.ps.map (Value.int .i64)) ∧ Below w'.heap.size w' w2) := hid fun w' h => by
    have hb := HWB.out.trans (h.mono HWB.out.size)
    exact clRow_call _ _ _ _ w' (hd.ps.same fun b q => ⟨Nat.lt_of_lt_of_le q hb.size, hb.block b q⟩) _ h.size
  have HC : Hid (∀ w', Below ((w.alloc (.cells #[.int .i64 c.e, .slice c.a c.n c.c] 39)).alloc (.cells #[.int .i64 0, .slice none 0 0] 39)).heap.size ((w.alloc (.cells #[.int .i64 c.e, .slice c.a c.n c.c] 39)).alloc (.cells #[.int .i64 0, .slice none 0 0] 39)) w' → w'.cell? ⟨w.heap.size, 0, none⟩ = some (.int .i64 c.e) ∧ w'.cell? ⟨w.heap.size, 1, none⟩ = some (.slice c.a c.n c.c)) := hid fun w' h => by
    have h1 : w'.heap[w.heap.size]? = some (.cells #[.int .i64 c.e, .slice c.a c.n c.c] 39 (0, 0)) := heapExt h (heapAlloc _ (heap_alloc_new w _))
    exact ⟨cellOf h1 0, cellOf h1 1⟩
  have HE := hid hd.e
  have HRE := hid hd.re
  have HRNG : Hid (∀ x ∈ d.ps ++ [i], I64 x) := hid fun x hx => by
    rw [List.mem_append, List.mem_singleton] at hx
    rcases hx with hx | rfl
    · exact hd.ps.rng x hx
    · exact hi64
  clear hd hi64
  go_enter Tryz.func49, Tryz.ntmps49
  go_upto_region 1 with (fail)
  refine wp_region_split 9 (fun w' => Below ((w.alloc (.cells #[.int .i64 c.e, .slice c.a c.n c.c] 39)).alloc (.cells #[.int .i64 0, .slice none 0 0] 39)).heap.size ((w.alloc (.cells #[.int .i64 c.e, .slice c.a c.n c.c] 39)).alloc (.cells #[.int .i64 0, .slice none 0 0] 39)) w') (by kernel_rfl) (by kernel_rfl) (by kernel_rfl) (by decide) ((Below.refl _ _).drew) (fun hS => ?_)
  simp only [List.take_succ_cons, List.take_zero, List.drop_succ_cons, List.drop_zero]
  refine wpAnyH_take (i := 0) (oi := _) (v := ?_) rfl (by kernel_rfl) (by kernel_rfl) (by kernel_rfl) (fun _ _ _ h => h) (Or.inl ⟨by rfl, ?_⟩) hS ?_
  rotate_left
  · intro w' hw'
    have hcells := HC.out w' hw'
    go_simp
    (try with_reducible rfl)
  simp only [Act.put, List.setIfInBounds_toArray, List.set_cons_zero, List.set_cons_succ]
  refine wpAnyH_take (i := 1) (oi := _) (v := ?_) rfl (by kernel_rfl) (by kernel_rfl) (by kernel_rfl) (fun _ _ _ h => h) (Or.inl ⟨by rfl, ?_⟩) hS ?_
  rotate_left
  · intro w' hw'
    have hcells := HC.out w' hw'
    go_simp
    (try with_reducible rfl)
  simp only [Act.put, List.setIfInBounds_toArray, List.set_cons_zero, List.set_cons_succ]
  refine wpAnyH_take (i := 2) (oi := _) (v := ?_) rfl (by kernel_rfl) (by kernel_rfl) (by kernel_rfl) (fun _ _ _ h => h) (Or.inl ⟨by rfl, ?_⟩) hS ?_
  rotate_left
  · intro w' hw'
    have hcells := HC.out w' hw'
    go_simp
    (try with_reducible rfl)
  simp only [Act.put, List.setIfInBounds_toArray, List.set_cons_zero, List.set_cons_succ]
  refine wpAnyH_take (i := 3) (oi := _) (v := ?_) rfl (by kernel_rfl) (by kernel_rfl) (by kernel_rfl) (fun _ _ _ h => h) (Or.inl ⟨by rfl, ?_⟩) hS ?_
  rotate_left
  · intro w' hw'
    have hcells := HC.out w' hw'
    go_simp
    (try with_reducible rfl)
  simp only [Act.put, List.setIfInBounds_toArray, List.set_cons_zero, List.set_cons_succ]
  refine wpAnyH_take (i := 5) (oi := _) (v := ?_) rfl (by kernel_rfl) (by kernel_rfl) (by kernel_rfl) (fun _ _ _ h => h) (Or.inl ⟨by rfl, ?_⟩) hS ?_
  rotate_left
  · intro w' hw'
    have hcells := HC.out w' hw'
    go_simp
    (try with_reducible rfl)
  simp only [Act.put, List.setIfInBounds_toArray, List.set_cons_zero, List.set_cons_succ]
  refine wpAnyH_ready (rs := [4, 6]) (by kernel_rfl) (by simp) ?_
  refine AllReadyH.cons (o := _) rfl (fun K hK => ?_) ?_
  · go_simp; go_at_call 94; refine (HV.out _ hS).mono ?_
    rintro e w1 ⟨v, rfl, ho, hb1⟩
    have HO := hid ho
    clear ho
    refine hK.out _ _ (hS.trans (hb1.mono hS.size)) (fun hS => ?_)
    clear hK K
    (try simp only [Act.put, List.setIfInBounds_toArray, List.set_cons_zero, List.set_cons_succ])
    refine wpAnyH_ready (rs := [6]) (by kernel_rfl) (by simp) ?_
    refine AllReadyH.cons (o := _) rfl (fun K hK => ?_) AllReadyH.nil
    go_simp
    refine hK.out _ _ (hS.trans (((Below.refl _ _).alloc (Nat.le_refl _) _).mono hS.size)) (fun hS => ?_)
    clear hK K
    (try simp only [Act.put, List.setIfInBounds_toArray, List.set_cons_zero, List.set_cons_succ])
    refine wpAnyH_ready (rs := [7]) (by kernel_rfl) (by simp) ?_
    refine AllReadyH.cons (o := _) rfl (fun K hK => ?_) AllReadyH.nil
    refine step_append_lies _ (by rfl) _ _ _ (by rfl) ((w.alloc (.cells #[.int .i64 c.e, .slice c.a c.n c.c] 39)).alloc (.cells #[.int .i64 0, .slice none 0 0] 39)).heap.size 3 ti _ 1 8 Tryz.underlying37 hi hz0 hz1 hz2 rfl (by omega) v c.n (d.ps.map (Value.int .i64)) (by rfl) (HO.out.alloc _) ⟨w1.heap.size, 0, none⟩ 1 1 [.int .i64 i] (by rfl) (by rfl) (World.news_of_block (heap_alloc_new w1 _)) (by simp [Value.oneCell']) (by omega) hcap1 hcap2 hS.size _ rfl ?_
    intro gg cap w2 hown2 hgrow hat hlt2
    have hS2 : Below ((w.alloc (.cells #[.int .i64 c.e, .slice c.a c.n c.c] 39)).alloc (.cells #[.int .i64 0, .slice none 0 0] 39)).heap.size ((w.alloc (.cells #[.int .i64 c.e, .slice c.a c.n c.c] 39)).alloc (.cells #[.int .i64 0, .slice none 0 0] 39)) w2 := hS.grown hgrow hS.size (fun k e => own_ge HO.out k e)
    have HOW := hid hown2
    clear hown2 hgrow hat hlt2
    refine hK.out _ _ (hS2) (fun hS => ?_)
    clear hK K
    (try simp only [Act.put, List.setIfInBounds_toArray, List.set_cons_zero, List.set_cons_succ])
    refine wpAnyH_take (i := 8) (oi := _) (v := ?_) rfl (by kernel_rfl) (by kernel_rfl) (by kernel_rfl) (fun _ _ _ h => h) (Or.inl ⟨by rfl, ?_⟩) hS ?_
    rotate_left
    · intro w' hw'
      have hcells := HC.out w' hw'
      go_simp
      (try with_reducible rfl)
    simp only [Act.put, List.setIfInBounds_toArray, List.set_cons_zero, List.set_cons_succ]
    refine wpAnyH_done (by kernel_rfl) ?_ _
    (try dsimp only)
    have hB := heapExt hS (heapNewAt (w.alloc (.cells #[.int .i64 c.e, .slice c.a c.n c.c] 39)) (.cells #[.int .i64 0, .slice none 0 0] 39) (w.heap.size + 1) (by simp))
    have z0 := cellOf hB 0
    have z1 := cellOf hB 1
    have y0 := freeOf hB 0
    have y1 := freeOf hB 1
    (try dsimp only at z0 z1)
    have HB := hid hB
    have HS := hid hS
    clear hB hS hS2 hb1 HV HC HO hi hz0 hz1 hz2 hcap1 hcap2
    go_wp2
    have h1 := heapSet (o := 1) (Value.slice (some ⟨gg, 0, none⟩) (c.n + 1) cap) (heapSet (o := 0) (Value.int .i64 c.e) HB.out)
    obtain ⟨a', c', hac, hii⟩ := ints_of_row (xs := d.ps ++ [i]) (by rw [List.map_append]; exact HOW.out) (by omega) HRNG.out
    obtain ⟨rfl, rfl⟩ : some ⟨gg, 0, none⟩ = a' ∧ cap = c' := by (injection hac with e1 _ e2; exact ⟨e1, e2⟩)
    refine bodyPost_ret (v := .agg #[.int .i64 c.e, .slice (some ⟨gg, 0, none⟩) (c.n + 1) cap]) (by simp [results, Tryz.results49, go_sem, cellOf h1]) rfl ⟨(⟨c.e, some ⟨gg, 0, none⟩, c.n + 1, cap⟩ : SC), rfl, ?_, ⟨HE.out, HRE.out, ?_⟩⟩
    · exact ((HWB.out.trans (HS.out.mono HWB.out.size)).setCell (p := ⟨w.heap.size + 1, 0, none⟩) (by dsimp only; omega) _).setCell (p := ⟨w.heap.size + 1, 1, none⟩) (by dsimp only; omega) _
    · refine hii.same fun b hb => ⟨⟨?_, by simpa [World.setCell] using hb.2⟩, (Below.heap_setCell _ _ _ _ ?_).trans (Below.heap_setCell _ _ _ _ ?_)⟩ <;> (have := hb.1; simp at this ⊢; omega)
  refine AllReadyH.cons (o := _) rfl (fun K hK => ?_) AllReadyH.nil
  go_simp
  refine hK.out _ _ (hS.trans (((Below.refl _ _).alloc (Nat.le_refl _) _).mono hS.size)) (fun hS => ?_)
  clear hK K
  (try simp only [Act.put, List.setIfInBounds_toArray, List.set_cons_zero, List.set_cons_succ])
  refine wpAnyH_ready (rs := [4]) (by kernel_rfl) (by simp) ?_
  refine AllReadyH.cons (o := _) rfl (fun K hK => ?_) AllReadyH.nil
  go_simp; go_at_call 94; refine (HV.out _ hS).mono ?_
  rintro e w1 ⟨v, rfl, ho, hb1⟩
  have HO := hid ho
  clear ho
  refine hK.out _ _ (hS.trans (hb1.mono hS.size)) (fun hS => ?_)
  clear hK K
  (try simp only [Act.put, List.setIfInBounds_toArray, List.set_cons_zero, List.set_cons_succ])
  refine wpAnyH_ready (rs := [7]) (by kernel_rfl) (by simp) ?_
  refine AllReadyH.cons (o := _) rfl (fun K hK => ?_) AllReadyH.nil
  refine step_append_lies _ (by rfl) _ _ _ (by rfl) ((w.alloc (.cells #[.int .i64 c.e, .slice c.a c.n c.c] 39)).alloc (.cells #[.int .i64 0, .slice none 0 0] 39)).heap.size 3 ti _ 1 8 Tryz.underlying37 hi hz0 hz1 hz2 rfl (by omega) v c.n (d.ps.map (Value.int .i64)) (by rfl) HO.out ⟨(w.heap.size + 1 + 1), 0, none⟩ 1 1 [.int .i64 i] (by rfl) (by rfl) (World.news_of_block (heapExt hb1 (heapNewAt ((w.alloc (.cells #[.int .i64 c.e, .slice c.a c.n c.c] 39)).alloc (.cells #[.int .i64 0, .slice none 0 0] 39)).drew _ _ (by simp)))) (by simp [Value.oneCell']) (by omega) hcap1 hcap2 hS.size _ rfl ?_
  intro gg cap w2 hown2 hgrow hat hlt2
  have hS2 : Below ((w.alloc (.cells #[.int .i64 c.e, .slice c.a c.n c.c] 39)).alloc (.cells #[.int .i64 0, .slice none 0 0] 39)).heap.size ((w.alloc (.cells #[.int .i64 c.e, .slice c.a c.n c.c] 39)).alloc (.cells #[.int .i64 0, .slice none 0 0] 39)) w2 := hS.grown hgrow hS.size (fun k e => own_ge HO.out k e)
  have HOW := hid hown2
  clear hown2 hgrow hat hlt2
  refine hK.out _ _ (hS2) (fun hS => ?_)
  clear hK K
  (try simp only [Act.put, List.setIfInBounds_toArray, List.set_cons_zero, List.set_cons_succ])
  refine wpAnyH_take (i := 8) (oi := _) (v := ?_) rfl (by kernel_rfl) (by kernel_rfl) (by kernel_rfl) (fun _ _ _ h => h) (Or.inl ⟨by rfl, ?_⟩) hS ?_
  rotate_left
  · intro w' hw'
    have hcells := HC.out w' hw'
    go_simp
    (try with_reducible rfl)
  simp only [Act.put, List.setIfInBounds_toArray, List.set_cons_zero, List.set_cons_succ]
  refine wpAnyH_done (by kernel_rfl) ?_ _
  (try dsimp only)
  have hB := heapExt hS (heapNewAt (w.alloc (.cells #[.int .i64 c.e, .slice c.a c.n c.c] 39)) (.cells #[.int .i64 0, .slice none 0 0] 39) (w.heap.size + 1) (by simp))
  have z0 := cellOf hB 0
  have z1 := cellOf hB 1
  have y0 := freeOf hB 0
  have y1 := freeOf hB 1
  (try dsimp only at z0 z1)
  have HB := hid hB
  have HS := hid hS
  clear hB hS hS2 hb1 HV HC HO hi hz0 hz1 hz2 hcap1 hcap2
  go_wp2
  have h1 := heapSet (o := 1) (Value.slice (some ⟨gg, 0, none⟩) (c.n + 1) cap) (heapSet (o := 0) (Value.int .i64 c.e) HB.out)
  obtain ⟨a', c', hac, hii⟩ := ints_of_row (xs := d.ps ++ [i]) (by rw [List.map_append]; exact HOW.out) (by omega) HRNG.out
  obtain ⟨rfl, rfl⟩ : some ⟨gg, 0, none⟩ = a' ∧ cap = c' := by (injection hac with e1 _ e2; exact ⟨e1, e2⟩)
  refine bodyPost_ret (v := .agg #[.int .i64 c.e, .slice (some ⟨gg, 0, none⟩) (c.n + 1) cap]) (by simp [results, Tryz.results49, go_sem, cellOf h1]) rfl ⟨(⟨c.e, some ⟨gg, 0, none⟩, c.n + 1, cap⟩ : SC), rfl, ?_, ⟨HE.out, HRE.out, ?_⟩⟩
  · exact ((HWB.out.trans (HS.out.mono HWB.out.size)).setCell (p := ⟨w.heap.size + 1, 0, none⟩) (by dsimp only; omega) _).setCell (p := ⟨w.heap.size + 1, 1, none⟩) (by dsimp only; omega) _
  · refine hii.same fun b hb => ⟨⟨?_, by simpa [World.setCell] using hb.2⟩, (Below.heap_setCell _ _ _ _ ?_).trans (Below.heap_setCell _ _ _ _ ?_)⟩ <;> (have := hb.1; simp at this ⊢; omega)
end Go.Proofs.YtcejackabdmpkaaGreatDoor

/-
  message.shares yields the numbers from 0 to n - 1 with the shares of a mass. Conditions: the mass is not negative and not great, n is not great.
-/
namespace Go.Proofs.YtcejackabdmpkaaGreatDoor
open Go Go.RowKit Go.Shelf
set_option linter.unusedVariables false
set_option linter.unusedSimpArgs false
attribute [local go_sem] Oper.semAt_some

def shareN (M n i : Nat) : Nat := M / n + if i < M % n then 1 else 0
def shareL (M n : Nat) : List (Nat × Nat) := (List.range n).map fun i => (i, shareN M n i)
theorem shareL_take (M n k : Nat) (h : k < n) : (shareL M n).take (k + 1) = (shareL M n).take k ++ [(k, shareN M n k)] := by
  unfold shareL
  rw [← List.map_take, ← List.map_take, List.take_range, List.take_range, Nat.min_eq_left (by omega), Nat.min_eq_left (by omega), List.range_succ, List.map_append]
  rfl
theorem shareL_len (M n : Nat) : (shareL M n).length = n := by simp [shareL]
theorem shareN_le (M n i : Nat) (hM : M ≤ 1099511627776) : shareN M n i ≤ 1099511627777 := by
  unfold shareN
  have := Nat.div_le_self M n
  split <;> omega
/-- What a round is handed: a number below n, and a share. -/
abbrev Sh (n : Nat) := { x : Nat × Nat // x.1 < n ∧ x.2 ≤ 1099511627777 }
def shEncs {n : Nat} (x : Sh n) : Array Value := #[.int .i64 x.1.1, .int .i64 x.1.2]
/-- What a round keeps: the two boxes. -/
def Kb (B1 B2 : Nat) (W W' : World) : Prop := ∀ (b : Nat) (o : Obj), b = B1 ∨ b = B2 → W.heap[b]? = some o → o.isCells = true → W'.heap[b]? = some o
theorem kb_b {B1 B2 : Nat} {w : World} (W : World) (l : Nat) (o o' : Obj) (hl : w.heap.size ≤ l) (h : W.heap[l]? = some o) (hc : o.isCells = false) (hw : o.isWalk = false) : Kb B1 B2 W (W.putObj l o') := fun b o2 _ h2 hc2 => by
  refine (World.putObj_heap_other (fun e => ?_)).trans h2
  subst e
  rw [h] at h2; cases h2; rw [hc] at hc2; cases hc2

theorem shares_call (mass n : Int) (w : World) : Calls Tryz.prog 47 #[.int .i64 mass, .int .i64 n] w fun e w' => e = .returned (.func (.func 92) #[] #[.pointer (some ⟨w.heap.size + 1, 0, none⟩), .pointer (some ⟨w.heap.size, 0, none⟩)]) ∧
    (w.alloc (.cells #[.int .i64 mass] 3)).alloc (.cells #[.int .i64 n] 3) = w' := by
  go_enter Tryz.func47, Tryz.ntmps47
  go_wp2
  go_ret
  exact ⟨rfl, rfl⟩

set_option maxRecDepth 100000 in
set_option maxHeartbeats 4000000 in
theorem shares_stops (m B1 B2 M n : Nat) (w : World) (hM : M ≤ 1099511627776) (hn : n ≤ 1000000)
    (h1 : w.heap[B1]? = some (.cells #[.int .i64 n] 3 (0, 0))) (h2 : w.heap[B2]? = some (.cells #[.int .i64 M] 3 (0, 0))) :
    SeqStopsK Fence.wide m Tryz.prog 92 #[.pointer (some ⟨B1, 0, none⟩), .pointer (some ⟨B2, 0, none⟩)] (shEncs (n := n)) (Kb B1 B2) (fun ys => ys.map Subtype.val = shareL M n) (fun ys => ys.map Subtype.val <+: shareL M n) n w := by
  intro l J Jx W hW hJ hJx hY h0
  have b1 := heapExt hW h1
  have b2 := heapExt hW h2
  clear h1 h2
  have c1 := cellOf b1 0
  (try dsimp only at c1)
  refine callsIn_of_wp Tryz.func92 rfl trivial ?_ rfl
  simp only [Tryz.ntmps92, List.size_toArray, List.length_cons, List.length_nil, Nat.reduceAdd, Nat.reduceSub, Array.replicate_succ, Array.replicate_zero, List.push_toArray, List.append_toArray, List.nil_append, List.cons_append]
  gi_wp2
  gi_loopw [7] (fun i wr => ∃ (k : Nat) (ys : List (Sh n)), k ≤ n ∧ i = .int .i64 k ∧ ys.map Subtype.val = (shareL M n).take k ∧ J ys wr ∧ wr.heap[B1]? = some (.cells #[.int .i64 n] 3 (0, 0)) ∧ wr.heap[B2]? = some (.cells #[.int .i64 M] 3 (0, 0)))
    (fun i _ => n - (intOf i).toNat)
  case atStart => exact ⟨0, [], Nat.zero_le _, rfl, rfl, h0, b1, b2⟩
  case round =>
    obtain ⟨k, ys, hk, rfl, hys, hj, g1, g2⟩ := hrel
    have HYS := hid hys
    clear hys
    clear c1
    have c1 := cellOf g1 0
    have c2 := cellOf g2 0
    (try dsimp only at c1 c2)
    have G := hid (And.intro g1 g2)
    clear g1 g2 b1 b2
    by_cases hlt : k < n
    · have hlt' : (k : Int) < (n : Int) := by omega
      have hlen : ys.length = k := by
        have := congrArg List.length HYS.out
        rw [List.length_map, List.length_take, shareL_len] at this
        omega
      have hx := hY ys ⟨(k, shareN M n k), hlt, shareN_le M n k hM⟩ wr hj (by omega)
      have HST : Hid (((ys ++ [(⟨(k, shareN M n k), hlt, shareN_le M n k hM⟩ : Sh n)])).map Subtype.val = (shareL M n).take (k + 1)) := hid (by rw [List.map_append, HYS.out, shareL_take M n k hlt]; rfl)
      clear hlen
      obtain ⟨zs, hzs⟩ : ∃ zs, zs = ys ++ [(⟨(k, shareN M n k), hlt, shareN_le M n k hM⟩ : Sh n)] := ⟨_, rfl⟩
      rw [← hzs] at hx HST
      clear hzs
      simp only [shEncs] at hx
      have HX := hid hx
      clear hx
      have hnz : ¬ (n : Int) = 0 := by omega
      obtain ⟨sq, hsq⟩ : ∃ sq, sq = M / n := ⟨_, rfl⟩
      have hq : wrap64 ((M : Int) / (n : Int)) = (sq : Int) := by
        rw [hsq, Int.natCast_ediv]
        have : ((M / n : Nat) : Int) ≤ M := by exact_mod_cast Nat.div_le_self M n
        rw [Int.natCast_ediv] at this
        have h0 : (0 : Int) ≤ ((M / n : Nat) : Int) := Int.natCast_nonneg _
        rw [Int.natCast_ediv] at h0
        obtain ⟨z, hz⟩ : ∃ z : Int, z = (M : Int) / (n : Int) := ⟨_, rfl⟩
        rw [← hz] at h0 this ⊢
        exact IntWalk.wrap64_in z (by have h5 : z ≤ (M : Int) := this; have h6 : (M : Int) ≤ 1099511627776 := Int.ofNat_le.2 hM; clear hY hj this; omega)
      have hsqb : (sq : Int) ≤ 1099511627776 := by have := Nat.div_le_self M n; omega
      have HQ := hid hq
      clear hq
      have HSQ := hid hsq
      clear hsq
      obtain ⟨sh, hsh⟩ : ∃ sh, sh = shareN M n k := ⟨_, rfl⟩
      rw [← hsh] at HX
      have HSH := hid hsh
      clear hsh
      gi_upto_region 4 with (fail)
      rw [HQ.out]
      by_cases r : k < M % n
      · have hr : (k : Int) < (M : Int) % (n : Int) := by exact_mod_cast r
        have hs1 := hid (show sh = sq + 1 by rw [HSH.out, HSQ.out, shareN, if_pos r])
        clear r
        gi_upto_region 6 with (fail)
        rw [show (sq : Int) + 1 = (sh : Int) by rw [hs1.out]; push_cast; rfl]
        have hx := HX.out
        obtain ⟨fn, tmps, assign, body, hy, hR⟩ := hx
        (try dsimp only at hy)
        have HR := hid hR
        clear hR
        gi_wp2_with ((try refine ⟨fun h => (by cases h), ?_⟩); refine HR.out.mono ?_; clear HR; rintro e W2 (⟨rfl, h4⟩ | ⟨rfl, h4⟩))
        · go_roundw
          case rel => exact ⟨k + 1, zs, by omega, by go_num, HST.out, h4.1, h4.2 _ _ (.inl rfl) G.out.1 rfl, h4.2 _ _ (.inr rfl) G.out.2 rfl⟩
          case measure => simp [intOf]; omega
        · exact bodyPost_ret (results_none rfl _ _ _) rfl ⟨⟨_, rfl⟩, .inr ⟨zs, by rw [HST.out]; exact List.take_prefix _ _, h4⟩⟩
      · have hr : ¬ (k : Int) < (M : Int) % (n : Int) := by intro h; exact r (by exact_mod_cast h)
        have hs1 := hid (show sh = sq by rw [HSH.out, HSQ.out, shareN, if_neg r]; rfl)
        clear r
        gi_upto_region 6 with (fail)
        rw [show (sq : Int) = (sh : Int) by rw [hs1.out]]
        have hx := HX.out
        obtain ⟨fn, tmps, assign, body, hy, hR⟩ := hx
        (try dsimp only at hy)
        have HR := hid hR
        clear hR
        gi_wp2_with ((try refine ⟨fun h => (by cases h), ?_⟩); refine HR.out.mono ?_; clear HR; rintro e W2 (⟨rfl, h4⟩ | ⟨rfl, h4⟩))
        · go_roundw
          case rel => exact ⟨k + 1, zs, by omega, by go_num, HST.out, h4.1, h4.2 _ _ (.inl rfl) G.out.1 rfl, h4.2 _ _ (.inr rfl) G.out.2 rfl⟩
          case measure => simp [intOf]; omega
        · exact bodyPost_ret (results_none rfl _ _ _) rfl ⟨⟨_, rfl⟩, .inr ⟨zs, by rw [HST.out]; exact List.take_prefix _ _, h4⟩⟩
    · obtain rfl : k = n := by omega
      gi_wp2
      go_end0
      exact ⟨⟨_, rfl⟩, .inl ⟨ys, by rw [HYS.out, List.take_of_length_le (by rw [shareL_len]; exact Nat.le_refl _)], hj⟩⟩
end Go.Proofs.YtcejackabdmpkaaGreatDoor

/-
  A region that draws its order inside a loop over a function: walked as outside of one (no defer in it, nothing lets the memory run out). No program in sight.
-/
namespace Go.Proofs.YtcejackabdmpkaaGreatDoor
open Go Go.RowKit
set_option linter.unusedVariables false
set_option linter.unusedSimpArgs false

section
variable {P : Program} {l : List Oper} {Q : Exit → Act → World → Prop}
/-- **A region that draws its order, whose operations from number m on stand in one order behind all others: the first m under S, and then those as a region of their own.** -/
theorem wpAny_of_split {a : Act} {w : World} (m : Nat) (S : World → Prop) (hP : P.follows .mixedOrders = true) (hok : tailOk l.toArray m = true) (hgo : guardsOk l m = true) (hm : decide (m ≤ l.length) = true) (hS : S w.drew)
    (h : S w.drew → wpAnyH P .any (l.take m).toArray (fun e a w => match e with | .normal => wpList P (l.drop m).toArray Q (l.drop m) a w | e => Q e a w) S m (Array.replicate m false) a w.drew) : wpAny P .any l.toArray Q l.toArray.size (Array.replicate l.toArray.size false) a w.drew := by
  have hm' : m ≤ l.length := of_decide_eq_true hm
  have h1 := wpAny_of_held _ _ _ _ (h hS)
  have mono : ∀ (fuel : Nat) (L : Array Bool) (a : Act) (w : World), wpAny P .any (l.take m).toArray (fun e a w => match e with | .normal => wpList P (l.drop m).toArray Q (l.drop m) a w | e => Q e a w) fuel L a w →
      wpAny P .any (l.take m).toArray (fun e a w => match e with | .normal => wpOps P l.toArray Q (List.range' m (l.length - m)) a w | e => Q e a w) fuel L a w := by
    have hn : ∀ a w, wpList P (l.drop m).toArray Q (l.drop m) a w → wpOps P l.toArray Q (List.range' m (l.length - m)) a w := fun a w h => by
      have e := wpOps_eq_wpList (P := P) (Q := Q) (ops := (l.drop m).toArray) (l.drop m) 0 (fun j => by simp)
      rw [← e] at h
      have := wpOps_drop hok _ 0 a w h
      simpa using this
    have step : ∀ {i : Nat} {K K' : Act → World → Prop} {a : Act} {w : World}, (∀ a w, K a w → K' a w) → wpOp P (l.take m).toArray (fun e a w => match e with | .normal => wpList P (l.drop m).toArray Q (l.drop m) a w | e => Q e a w) i K a w →
        wpOp P (l.take m).toArray (fun e a w => match e with | .normal => wpOps P l.toArray Q (List.range' m (l.length - m)) a w | e => Q e a w) i K' a w := by
      intro i K K' a w hk h6
      refine wpOp_mono hk ?_
      unfold wpOp at h6 ⊢
      cases ho : (l.take m).toArray[i]? with
      | none => simpa [ho] using h6
      | some o =>
        simp only [ho] at h6 ⊢
        split
        · rename_i hw
          simp only [hw, if_true] at h6
          rcases h6 with h6 | ⟨h6, h8⟩
          · refine .inl ?_
            unfold Oper.wp at h6 ⊢
            generalize (execOp a.eval o).run P w = r at h6 ⊢
            cases r with
            | ok n w' =>
              cases n <;> simp only [Oper.upon] at h6 ⊢ <;> first
                | exact h6
                | (refine Calls.mono h6 fun e w'' he => ?_
                   cases e <;> first | exact he | (obtain ⟨a0, w0, hq⟩ := he; exact ⟨a0, w0, hq⟩))
            | halt x w' => cases x <;> simp only [Oper.upon] at h6 ⊢ <;> exact h6
          · exact .inr ⟨h6, h8⟩
        · rename_i hw
          simp only [hw] at h6
          exact h6
    intro fuel
    induction fuel with
    | zero => intro L a w h; exact ⟨h.1, hn _ _ h.2⟩
    | succ fuel ih => intro L a w h; exact ⟨fun h0 => hn _ _ (h.1 h0), fun i hi => step (fun a w h => ih _ a w h) (h.2 i hi)⟩
  have h2 := wpAny_split hok hgo hm' m (Array.replicate m false) (Array.replicate l.toArray.size false) a w.drew (by simp) (by simp) (fun i hi => by rw [Array.getElem?_replicate, Array.getElem?_replicate, if_pos hi, if_pos (by simp; omega)]) (fun i _ hi => by simp [Array.getD_eq_getD_getElem?, hi]) (mono _ _ _ _ h1)
  have e : m + (l.length - m) = l.toArray.size := by simp; omega
  rw [e] at h2
  exact h2
end



section
variable {P : Program} {ops : Array Oper} {Q : Exit → Act → World → Prop}
theorem oper_in {l n : Nat} {o : Oper} {a : Act} {w : World} {K : Act → World → Prop} (hnd : ∀ c, o.op ≠ .defer c) (h : o.wp P a w K Q) : o.wpIn (Fence.wide.inRound l) n P a w K Q := by
  refine ⟨fun _ _ => trivial, ?_⟩
  have e : (Fence.wide.inRound l).round = some l := rfl
  rw [e, Oper.semAt_some l a.eval o hnd]
  unfold Oper.wp at h
  generalize (execOp a.eval o).run P w = r at h ⊢
  cases r with
  | ok x w' =>
    cases x <;> simp only [Oper.upon, Oper.uponIn] at h ⊢ <;> first
      | exact h
      | exact ⟨fun h => (by cases h), CallsIn.inRound l (callsIn_wide.2 h)⟩
      | exact ⟨fun h => (by cases h), fun c cs _ => by
          obtain ⟨v, w', r, s⟩ := h c cs
          exact ⟨v, w', r, stepsIn_wide.2 s⟩⟩
  | halt x w' => cases x <;> simp only [Oper.upon, Oper.uponIn] at h ⊢ <;> exact h
theorem wpOp_in {l n i : Nat} {a : Act} {w : World} {K : Act → World → Prop} (hnd : ∀ (j : Nat) (o : Oper), ops[j]? = some o → ∀ c, o.op ≠ .defer c) (hQ : ¬ LetsOut Q) (h : wpOp P ops Q i K a w) : wpOpIn (Fence.wide.inRound l) n P ops Q i K a w := by
  unfold wpOp at h
  unfold wpOpIn
  cases ho : ops[i]? with
  | none => simpa [ho] using h
  | some o =>
    simp only [ho] at h ⊢
    split
    · rename_i hw
      simp only [hw, if_true] at h
      rcases h with h | ⟨_, h⟩
      · exact oper_in (hnd i o ho) h
      · exact absurd h hQ
    · rename_i hw
      simp only [hw] at h
      exact ⟨fun _ _ => trivial, h⟩
theorem wpAny_in {l n : Nat} {md : Region.Mode} (hnd : ∀ (j : Nat) (o : Oper), ops[j]? = some o → ∀ c, o.op ≠ .defer c) (hQ : ¬ LetsOut Q) : ∀ (fuel : Nat) (L : Array Bool) (a : Act) (w : World), wpAny P md ops Q fuel L a w → wpAnyIn (Fence.wide.inRound l) n P md ops Q fuel L a w := by
  intro fuel
  induction fuel with
  | zero => intro L a w h; exact h
  | succ fuel ih => intro L a w h; exact ⟨h.1, fun i hi => wpOpIn_mono (fun a w h => ih _ a w h) (wpOp_in hnd hQ (h.2 i hi))⟩

def noDefers (ops : Array Oper) : Bool := ops.all fun o => match o.op with
  | .defer _ => false
  | _ => true
theorem noDefers_of {ops : Array Oper} (h : noDefers ops = true) : ∀ (j : Nat) (o : Oper), ops[j]? = some o → ∀ c, o.op ≠ .defer c := by
  intro j o ho c hc
  obtain ⟨hj, rfl⟩ := Array.getElem?_eq_some_iff.1 ho
  have h1 := (Array.all_eq_true.1 h) j hj
  rw [hc] at h1
  cases h1
end
/-- **wp_region_split inside a loop over a function.** -/
theorem wpIn_region_split {P : Program} {l : List Oper} {Q : Exit → Act → World → Prop} {id lp n : Nat} {a : Act} {w : World} (m : Nat) (S : World → Prop) (hP : P.follows .mixedOrders = true) (hok : tailOk l.toArray m = true) (hgo : guardsOk l m = true) (hm : decide (m ≤ l.length) = true) (hnd : noDefers l.toArray = true) (hQ : ¬ LetsOut Q) (hS : S w.drew)
    (h : S w.drew → wpAnyH P .any (l.take m).toArray (fun e a w => match e with | .normal => wpList P (l.drop m).toArray Q (l.drop m) a w | e => Q e a w) S m (Array.replicate m false) a w.drew) : (Code.region id l.toArray true).wpIn (Fence.wide.inRound lp) n P Q a w :=
  wpIn_region_any hP (wpAny_in (noDefers_of hnd) hQ _ _ _ _ (wpAny_of_split m S hP hok hgo hm hS h))
end Go.Proofs.YtcejackabdmpkaaGreatDoor
