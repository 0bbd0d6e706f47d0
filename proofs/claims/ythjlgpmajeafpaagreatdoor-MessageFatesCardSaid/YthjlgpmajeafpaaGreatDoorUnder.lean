/-
  message.Under returns a stamp whose path is longer by one. Conditions: the stamp can be read as data, its path is not too long.
-/
import Derived.Test.YthjlgpmajeafpaaGreatDoorCopy
import Derived.Deep.AppendLies
namespace Go.Proofs.YthjlgpmajeafpaaGreatDoor
open Go Go.RowKit Go.Shelf
set_option linter.unusedVariables false
set_option linter.unusedSimpArgs false

theorem infoInt : (Tryz.prog.info? 3).map (fun i => (i.zero, i.size, i.bytes)) = some (some (.int .i64 0), 1, 8) := by kernel_rfl
theorem own_ge {w : World} {base : Nat} {e : TypeId} {size : Nat} {v : Value} {n : Nat} {xs : List Value} (h : w.ownsRow base e size v n xs) (k : Nat) (hk : v.ownBlock = some k) : base ≤ k := by
  rcases h.2 with ⟨rfl, _⟩ | ⟨g, cap, cur, rfl, hb, _⟩
  · cases hk
  · cases hk; exact hb
theorem own_low {w : World} {base B : Nat} {e : TypeId} {size : Nat} {v : Value} {n : Nat} {xs : List Value} (h : w.ownsRow base e size v n xs) (hB : B ≤ base) : w.ownsRow B e size v n xs :=
  ⟨h.1, h.2.imp id fun ⟨g, cap, cur, h1, hb, h2⟩ => ⟨g, cap, cur, h1, Nat.le_trans hB hb, h2⟩⟩
theorem clRow_call (a : Option Addr) (n c : Nat) (xs : List Int) (w : World) (hx : IsInts (· < w.heap.size) w a n c xs) (B : Nat) (hB : B ≤ w.heap.size) :
    Calls Tryz.prog 114 #[.slice a n c] w fun e w' => ∃ v, e = .returned v ∧ w'.ownsRow B 3 1 v n (xs.map (Value.int .i64)) ∧ Below w.heap.size w w' := by
  have hl := hx.len
  have hbig := hx.big
  cases hn : n with
  | zero =>
    subst hn
    have h0 : xs = [] := List.eq_nil_of_length_eq_zero hl.symm
    subst h0
    cases a with
    | none => exact (Tryz.slices_Clone_int_nil 0 c w).mono fun e w' ⟨he, hw⟩ => ⟨_, he, World.ownsRow_nil _ _ _ _, by rw [hw]; exact Below.refl _ _⟩
    | some a => exact (Tryz.slices_Clone_int_zero a c w).mono fun e w' ⟨v, he, ho, _, hb⟩ => ⟨v, he, own_low ho hB, hb⟩
  | succ m =>
    rw [← hn]
    obtain ⟨b, o, rfl, hb, hc⟩ := hx.slot (show 0 < n by omega)
    refine (Tryz.slices_Clone_int b o n c xs w (by omega) (by omega) (fun j hj => by rw [hc j hj]; simp [List.getD_eq_getElem?_getD, hj])).mono fun e w' ⟨v, he, ho, _, hb'⟩ => ?_
    rw [List.take_of_length_le (by omega)] at ho
    exact ⟨v, he, own_low ho hB, hb'⟩

set_option maxRecDepth 100000 in
set_option maxHeartbeats 4000000 in
theorem under_call (c : SC) (d : St) (i : Int) (w : World) (hi64 : I64 i) (hn : c.n ≤ 1000000) (hd : IsSt (· < w.heap.size) w c d) : Calls Tryz.prog 64 #[c.v, .int .i64 i] w (StPost w ⟨d.e, d.ps ++ [i]⟩) := by
  obtain ⟨ti, hi, hz0, hz1, hz2⟩ := info_parts infoInt
  have hcap1 : c.n + 1 ≤ maxLen := by unfold maxLen; omega
  have hcap2 : (c.n + 1) * 8 ≤ 140737488355328 := by omega
  have HWB : Hid (Below w.heap.size w ((w.alloc (.cells #[.int .i64 c.e, .slice c.a c.n c.c] 24)).alloc (.cells #[.int .i64 0, .slice none 0 0] 24))) := hid (((Below.refl _ w).alloc (Nat.le_refl _) _).alloc (by simp) _)
  have HV : Hid (∀ w', Below ((w.alloc (.cells #[.int .i64 c.e, .slice c.a c.n c.c] 24)).alloc (.cells #[.int .i64 0, .slice none 0 0] 24)).heap.size ((w.alloc (.cells #[.int .i64 c.e, .slice c.a c.n c.c] 24)).alloc (.cells #[.int .i64 0, .slice none 0 0] 24)) w' → Calls Tryz.prog 114 #[.slice c.a c.n c.c] w' fun e w2 => ∃ v, e = .returned v ∧ w2.ownsRow ((w.alloc (.cells #[.int .i64 c.e, .slice c.a c.n c.c] 24)).alloc (.cells #[.int .i64 0, .slice none 0 0] 24)).heap.size 3 1 v c.n (d.ps.map (Value.int .i64)) ∧ Below w'.heap.size w' w2) := hid fun w' h => by
    have hb := HWB.out.trans (h.mono HWB.out.size)
    exact clRow_call _ _ _ _ w' (hd.ps.same fun b q => ⟨Nat.lt_of_lt_of_le q hb.size, hb.block b q⟩) _ h.size
  have HC : Hid (∀ w', Below ((w.alloc (.cells #[.int .i64 c.e, .slice c.a c.n c.c] 24)).alloc (.cells #[.int .i64 0, .slice none 0 0] 24)).heap.size ((w.alloc (.cells #[.int .i64 c.e, .slice c.a c.n c.c] 24)).alloc (.cells #[.int .i64 0, .slice none 0 0] 24)) w' → w'.cell? ⟨w.heap.size, 0, none⟩ = some (.int .i64 c.e) ∧ w'.cell? ⟨w.heap.size, 1, none⟩ = some (.slice c.a c.n c.c)) := hid fun w' h => by
    have h1 : w'.heap[w.heap.size]? = some (.cells #[.int .i64 c.e, .slice c.a c.n c.c] 24 (0, 0)) := heapExt h (heapAlloc _ (heap_alloc_new w _))
    exact ⟨cellOf h1 0, cellOf h1 1⟩
  have HE := hid hd.e
  have HRE := hid hd.re
  have HRNG : Hid (∀ x ∈ d.ps ++ [i], I64 x) := hid fun x hx => by
    rw [List.mem_append, List.mem_singleton] at hx
    rcases hx with hx | rfl
    · exact hd.ps.rng x hx
    · exact hi64
  clear hd hi64
  go_enter Tryz.func64, Tryz.ntmps64
  go_upto_region 1 with (fail)
  refine wp_region_split 9 (fun w' => Below ((w.alloc (.cells #[.int .i64 c.e, .slice c.a c.n c.c] 24)).alloc (.cells #[.int .i64 0, .slice none 0 0] 24)).heap.size ((w.alloc (.cells #[.int .i64 c.e, .slice c.a c.n c.c] 24)).alloc (.cells #[.int .i64 0, .slice none 0 0] 24)) w') (by kernel_rfl) (by kernel_rfl) (by kernel_rfl) (by decide) ((Below.refl _ _).drew) (fun hS => ?_)
  simp only [List.take_succ_cons, List.take_zero, List.drop_succ_cons, List.drop_zero]
  refine wpAnyH_take (i := 0) (oi := _) (v := ?_) rfl (by kernel_rfl) (by kernel_rfl) (by kernel_rfl) (fun _ _ _ h => h) (Or.inl ⟨by rfl, ?_⟩) hS ?_
  rotate_left
  · intro w' hw'
    have hcells := HC.out w' hw'
    go_simp
    (try with_reducible rfl)
  simp only [Act.put, List.setIfInBounds_toArray, List.set_cons_zero, List.set_cons_succ]
  refine wpAnyH_take (i := 1) (oi := _) (v := ?_) rfl (by kernel_rfl) (by kernel_rfl) (by kernel_rfl) (fun _ _ _ h => h) (Or.inl ⟨by rfl, ?_⟩) hS ?_
  rotate_left
  · intro w' hw'
    have hcells := HC.out w' hw'
    go_simp
    (try with_reducible rfl)
  simp only [Act.put, List.setIfInBounds_toArray, List.set_cons_zero, List.set_cons_succ]
  refine wpAnyH_take (i := 2) (oi := _) (v := ?_) rfl (by kernel_rfl) (by kernel_rfl) (by kernel_rfl) (fun _ _ _ h => h) (Or.inl ⟨by rfl, ?_⟩) hS ?_
  rotate_left
  · intro w' hw'
    have hcells := HC.out w' hw'
    go_simp
    (try with_reducible rfl)
  simp only [Act.put, List.setIfInBounds_toArray, List.set_cons_zero, List.set_cons_succ]
  refine wpAnyH_take (i := 3) (oi := _) (v := ?_) rfl (by kernel_rfl) (by kernel_rfl) (by kernel_rfl) (fun _ _ _ h => h) (Or.inl ⟨by rfl, ?_⟩) hS ?_
  rotate_left
  · intro w' hw'
    have hcells := HC.out w' hw'
    go_simp
    (try with_reducible rfl)
  simp only [Act.put, List.setIfInBounds_toArray, List.set_cons_zero, List.set_cons_succ]
  refine wpAnyH_take (i := 5) (oi := _) (v := ?_) rfl (by kernel_rfl) (by kernel_rfl) (by kernel_rfl) (fun _ _ _ h => h) (Or.inl ⟨by rfl, ?_⟩) hS ?_
  rotate_left
  · intro w' hw'
    have hcells := HC.out w' hw'
    go_simp
    (try with_reducible rfl)
  simp only [Act.put, List.setIfInBounds_toArray, List.set_cons_zero, List.set_cons_succ]
  refine wpAnyH_ready (rs := [4, 6]) (by kernel_rfl) (by simp) ?_
  refine AllReadyH.cons (o := _) rfl (fun K hK => ?_) ?_
  · go_simp; go_at_call 114; refine (HV.out _ hS).mono ?_
    rintro e w1 ⟨v, rfl, ho, hb1⟩
    have HO := hid ho
    clear ho
    refine hK.out _ _ (hS.trans (hb1.mono hS.size)) (fun hS => ?_)
    clear hK K
    (try simp only [Act.put, List.setIfInBounds_toArray, List.set_cons_zero, List.set_cons_succ])
    refine wpAnyH_ready (rs := [6]) (by kernel_rfl) (by simp) ?_
    refine AllReadyH.cons (o := _) rfl (fun K hK => ?_) AllReadyH.nil
    go_simp
    refine hK.out _ _ (hS.trans (((Below.refl _ _).alloc (Nat.le_refl _) _).mono hS.size)) (fun hS => ?_)
    clear hK K
    (try simp only [Act.put, List.setIfInBounds_toArray, List.set_cons_zero, List.set_cons_succ])
    refine wpAnyH_ready (rs := [7]) (by kernel_rfl) (by simp) ?_
    refine AllReadyH.cons (o := _) rfl (fun K hK => ?_) AllReadyH.nil
    refine step_append_lies _ (by rfl) _ _ _ (by rfl) ((w.alloc (.cells #[.int .i64 c.e, .slice c.a c.n c.c] 24)).alloc (.cells #[.int .i64 0, .slice none 0 0] 24)).heap.size 3 ti _ 1 8 Tryz.underlying22 hi hz0 hz1 hz2 rfl (by omega) v c.n (d.ps.map (Value.int .i64)) (by rfl) (HO.out.alloc _) ⟨w1.heap.size, 0, none⟩ 1 1 [.int .i64 i] (by rfl) (by rfl) (World.news_of_block (heap_alloc_new w1 _)) (by simp [Value.oneCell']) (by omega) hcap1 hcap2 hS.size _ rfl ?_
    intro gg cap w2 hown2 hgrow hat hlt2
    have hS2 : Below ((w.alloc (.cells #[.int .i64 c.e, .slice c.a c.n c.c] 24)).alloc (.cells #[.int .i64 0, .slice none 0 0] 24)).heap.size ((w.alloc (.cells #[.int .i64 c.e, .slice c.a c.n c.c] 24)).alloc (.cells #[.int .i64 0, .slice none 0 0] 24)) w2 := hS.grown hgrow hS.size (fun k e => own_ge HO.out k e)
    have HOW := hid hown2
    clear hown2 hgrow hat hlt2
    refine hK.out _ _ (hS2) (fun hS => ?_)
    clear hK K
    (try simp only [Act.put, List.setIfInBounds_toArray, List.set_cons_zero, List.set_cons_succ])
    refine wpAnyH_take (i := 8) (oi := _) (v := ?_) rfl (by kernel_rfl) (by kernel_rfl) (by kernel_rfl) (fun _ _ _ h => h) (Or.inl ⟨by rfl, ?_⟩) hS ?_
    rotate_left
    · intro w' hw'
      have hcells := HC.out w' hw'
      go_simp
      (try with_reducible rfl)
    simp only [Act.put, List.setIfInBounds_toArray, List.set_cons_zero, List.set_cons_succ]
    refine wpAnyH_done (by kernel_rfl) ?_ _
    (try dsimp only)
    have hB := heapExt hS (heapNewAt (w.alloc (.cells #[.int .i64 c.e, .slice c.a c.n c.c] 24)) (.cells #[.int .i64 0, .slice none 0 0] 24) (w.heap.size + 1) (by simp))
    have z0 := cellOf hB 0
    have z1 := cellOf hB 1
    have y0 := freeOf hB 0
    have y1 := freeOf hB 1
    (try dsimp only at z0 z1)
    have HB := hid hB
    have HS := hid hS
    clear hB hS hS2 hb1 HV HC HO hi hz0 hz1 hz2 hcap1 hcap2
    go_wp2
    have h1 := heapSet (o := 1) (Value.slice (some ⟨gg, 0, none⟩) (c.n + 1) cap) (heapSet (o := 0) (Value.int .i64 c.e) HB.out)
    obtain ⟨a', c', hac, hii⟩ := ints_of_row (xs := d.ps ++ [i]) (by rw [List.map_append]; exact HOW.out) (by omega) HRNG.out
    obtain ⟨rfl, rfl⟩ : some ⟨gg, 0, none⟩ = a' ∧ cap = c' := by (injection hac with e1 _ e2; exact ⟨e1, e2⟩)
    refine bodyPost_ret (v := .agg #[.int .i64 c.e, .slice (some ⟨gg, 0, none⟩) (c.n + 1) cap]) (by simp [results, Tryz.results64, go_sem, cellOf h1]) rfl ⟨(⟨c.e, some ⟨gg, 0, none⟩, c.n + 1, cap⟩ : SC), rfl, ?_, ⟨HE.out, HRE.out, ?_⟩⟩
    · exact ((HWB.out.trans (HS.out.mono HWB.out.size)).setCell (p := ⟨w.heap.size + 1, 0, none⟩) (by dsimp only; omega) _).setCell (p := ⟨w.heap.size + 1, 1, none⟩) (by dsimp only; omega) _
    · refine hii.same fun b hb => ⟨⟨?_, by simpa [World.setCell] using hb.2⟩, (Below.heap_setCell _ _ _ _ ?_).trans (Below.heap_setCell _ _ _ _ ?_)⟩ <;> (have := hb.1; simp at this ⊢; omega)
  refine AllReadyH.cons (o := _) rfl (fun K hK => ?_) AllReadyH.nil
  go_simp
  refine hK.out _ _ (hS.trans (((Below.refl _ _).alloc (Nat.le_refl _) _).mono hS.size)) (fun hS => ?_)
  clear hK K
  (try simp only [Act.put, List.setIfInBounds_toArray, List.set_cons_zero, List.set_cons_succ])
  refine wpAnyH_ready (rs := [4]) (by kernel_rfl) (by simp) ?_
  refine AllReadyH.cons (o := _) rfl (fun K hK => ?_) AllReadyH.nil
  go_simp; go_at_call 114; refine (HV.out _ hS).mono ?_
  rintro e w1 ⟨v, rfl, ho, hb1⟩
  have HO := hid ho
  clear ho
  refine hK.out _ _ (hS.trans (hb1.mono hS.size)) (fun hS => ?_)
  clear hK K
  (try simp only [Act.put, List.setIfInBounds_toArray, List.set_cons_zero, List.set_cons_succ])
  refine wpAnyH_ready (rs := [7]) (by kernel_rfl) (by simp) ?_
  refine AllReadyH.cons (o := _) rfl (fun K hK => ?_) AllReadyH.nil
  refine step_append_lies _ (by rfl) _ _ _ (by rfl) ((w.alloc (.cells #[.int .i64 c.e, .slice c.a c.n c.c] 24)).alloc (.cells #[.int .i64 0, .slice none 0 0] 24)).heap.size 3 ti _ 1 8 Tryz.underlying22 hi hz0 hz1 hz2 rfl (by omega) v c.n (d.ps.map (Value.int .i64)) (by rfl) HO.out ⟨(w.heap.size + 1 + 1), 0, none⟩ 1 1 [.int .i64 i] (by rfl) (by rfl) (World.news_of_block (heapExt hb1 (heapNewAt ((w.alloc (.cells #[.int .i64 c.e, .slice c.a c.n c.c] 24)).alloc (.cells #[.int .i64 0, .slice none 0 0] 24)).drew _ _ (by simp)))) (by simp [Value.oneCell']) (by omega) hcap1 hcap2 hS.size _ rfl ?_
  intro gg cap w2 hown2 hgrow hat hlt2
  have hS2 : Below ((w.alloc (.cells #[.int .i64 c.e, .slice c.a c.n c.c] 24)).alloc (.cells #[.int .i64 0, .slice none 0 0] 24)).heap.size ((w.alloc (.cells #[.int .i64 c.e, .slice c.a c.n c.c] 24)).alloc (.cells #[.int .i64 0, .slice none 0 0] 24)) w2 := hS.grown hgrow hS.size (fun k e => own_ge HO.out k e)
  have HOW := hid hown2
  clear hown2 hgrow hat hlt2
  refine hK.out _ _ (hS2) (fun hS => ?_)
  clear hK K
  (try simp only [Act.put, List.setIfInBounds_toArray, List.set_cons_zero, List.set_cons_succ])
  refine wpAnyH_take (i := 8) (oi := _) (v := ?_) rfl (by kernel_rfl) (by kernel_rfl) (by kernel_rfl) (fun _ _ _ h => h) (Or.inl ⟨by rfl, ?_⟩) hS ?_
  rotate_left
  · intro w' hw'
    have hcells := HC.out w' hw'
    go_simp
    (try with_reducible rfl)
  simp only [Act.put, List.setIfInBounds_toArray, List.set_cons_zero, List.set_cons_succ]
  refine wpAnyH_done (by kernel_rfl) ?_ _
  (try dsimp only)
  have hB := heapExt hS (heapNewAt (w.alloc (.cells #[.int .i64 c.e, .slice c.a c.n c.c] 24)) (.cells #[.int .i64 0, .slice none 0 0] 24) (w.heap.size + 1) (by simp))
  have z0 := cellOf hB 0
  have z1 := cellOf hB 1
  have y0 := freeOf hB 0
  have y1 := freeOf hB 1
  (try dsimp only at z0 z1)
  have HB := hid hB
  have HS := hid hS
  clear hB hS hS2 hb1 HV HC HO hi hz0 hz1 hz2 hcap1 hcap2
  go_wp2
  have h1 := heapSet (o := 1) (Value.slice (some ⟨gg, 0, none⟩) (c.n + 1) cap) (heapSet (o := 0) (Value.int .i64 c.e) HB.out)
  obtain ⟨a', c', hac, hii⟩ := ints_of_row (xs := d.ps ++ [i]) (by rw [List.map_append]; exact HOW.out) (by omega) HRNG.out
  obtain ⟨rfl, rfl⟩ : some ⟨gg, 0, none⟩ = a' ∧ cap = c' := by (injection hac with e1 _ e2; exact ⟨e1, e2⟩)
  refine bodyPost_ret (v := .agg #[.int .i64 c.e, .slice (some ⟨gg, 0, none⟩) (c.n + 1) cap]) (by simp [results, Tryz.results64, go_sem, cellOf h1]) rfl ⟨(⟨c.e, some ⟨gg, 0, none⟩, c.n + 1, cap⟩ : SC), rfl, ?_, ⟨HE.out, HRE.out, ?_⟩⟩
  · exact ((HWB.out.trans (HS.out.mono HWB.out.size)).setCell (p := ⟨w.heap.size + 1, 0, none⟩) (by dsimp only; omega) _).setCell (p := ⟨w.heap.size + 1, 1, none⟩) (by dsimp only; omega) _
  · refine hii.same fun b hb => ⟨⟨?_, by simpa [World.setCell] using hb.2⟩, (Below.heap_setCell _ _ _ _ ?_).trans (Below.heap_setCell _ _ _ _ ?_)⟩ <;> (have := hb.1; simp at this ⊢; omega)
end Go.Proofs.YthjlgpmajeafpaaGreatDoor
