/-
  manifoldlaw29.child returns a stamp whose path is longer by one. Conditions: the stamp can be read as data, its path is not too long.
-/
import Derived.Test.YthjlgpmajeafpaaGreatDoorUnder
import Derived.Maps.AppendAt
namespace Go.Proofs.YthjlgpmajeafpaaGreatDoor
open Go Go.RowKit Go.Shelf
set_option linter.unusedVariables false
set_option linter.unusedSimpArgs false

theorem run_append_none {P : Program} {w : World} (base : Nat) (t ty e : TypeId) (i : TypeInfo) (size : Nat) (ht : P.underlying t = some (.slice e)) (hi : P.info? e = some i)
    (v : Value) (n c : Nat) (xs : List Value) (hown : w.ownsRow base e size v n xs) :
    (Builtin.append_ #[t, t] ty #[v, .slice none 0 c]).run P w = .ok v w := by
  rcases hown.2 with ⟨rfl, rfl⟩ | ⟨g, cap, cur, rfl, _, _, hnc, _⟩
  · simp [Builtin.append_, run_underlying ht, sizeOf, typeInfo, hi, Builtin.lenOf, Builtin.firstCells]
  · simp [Builtin.append_, run_underlying ht, sizeOf, typeInfo, hi, Builtin.lenOf, Builtin.firstCells, hnc, storeCells]
/-- 'append(s, xs...)' at a step of a region that draws its order, whatever slice xs is: nil, empty, or cells that can be read. -/
theorem step_append_any {P : Program} {w : World} {ops : Array Oper} {o : Oper} {a : Act} {K : Act → World → Prop} {Q : Exit → Act → World → Prop} {E : Prop} (hgd : o.guard = none) (s x : Operand) (t : TypeId)
    (ho : o.op = .call { callee := .builtin .append, args := #[s, x], argTypes := #[t, t] })
    (base : Nat) (e : TypeId) (i : TypeInfo) (z : Value) (size bytes : Nat) (ht : P.underlying t = some (.slice e)) (hi : P.info? e = some i) (hz : i.zero = some z)
    (hsize : i.size = size) (hby : i.bytes = bytes) (hzs : z.cells.size = size) (hsz : 0 < size)
    (v : Value) (n : Nat) (xs : List Value) (hs : a.eval s = v) (hown : w.ownsRow base e size v n xs)
    (ad : Option Addr) (m c : Nat) (news : List Value) (hx : a.eval x = .slice ad m c) (hnews : m = 0 ∨ ∃ b o, ad = some ⟨b, o, none⟩ ∧ ∀ j u, news[j]? = some u → w.cell? ⟨b, o + j, none⟩ = some u) (hl : news.length = m * size) (h1 : ∀ u ∈ news, u.oneCell' = true)
    (h63 : n + m ≤ maxLen) (hbytes : (n + m) * bytes ≤ 140737488355328) (hbase : base ≤ w.heap.size)
    (h : ∀ v' w', w'.ownsRow base e size v' (n + m) (xs ++ news) → w.grownBy w' v.ownBlock → K (a.put o.dst v') w') :
    if Region.wanted o (yielded ops a.tmps) = true then Oper.wp P o a w K Q else E := by
  have hw : Region.wanted o (yielded ops a.tmps) = true := by simp [Region.wanted, hgd]
  rw [if_pos hw]
  unfold Oper.wp execOp
  cases ad with
  | none =>
    have hm : m = 0 := by
      rcases hnews with h0 | ⟨b, o', h0, _⟩
      · exact h0
      · cases h0
    subst hm
    have hn : news = [] := List.eq_nil_of_length_eq_zero (by rw [hl, Nat.zero_mul])
    subst hn
    have hr := run_append_none (P := P) base t o.type e i size ht hi v n c xs hown
    simp only [ho, resolve, invoke, builtin, Sem.run_bind, Sem.run_pure, Result.andThen_ok, List.map_toArray, List.map_cons, List.map_nil, hs, hx, hr]
    refine h v w ?_ ⟨rfl, rfl, rfl, Nat.le_refl _, fun _ _ _ => rfl⟩
    rw [Nat.add_zero, List.append_nil]; exact hown
  | some ad =>
    have hnw : ∀ j u, news[j]? = some u → w.cell? (ad.add j) = some u := by
      intro j u hj
      rcases hnews with h0 | ⟨b, o', h0, h2⟩
      · subst h0
        have hn : news = [] := List.eq_nil_of_length_eq_zero (by rw [hl, Nat.zero_mul])
        rw [hn] at hj; simp at hj
      · cases h0
        rw [← h2 j u hj]
        congr 1
        unfold Addr.add
        split <;> simp_all
    obtain ⟨v', w', hr, h2, h3, _, _⟩ := run_append_own_at (P := P) w base t o.type e i z size bytes ht hi hz hsize hby hzs hsz v n xs hown ad m c news hl hnw h1 h63 hbytes hbase
    simp only [ho, resolve, invoke, builtin, Sem.run_bind, Sem.run_pure, Result.andThen_ok, List.map_toArray, List.map_cons, List.map_nil, hs, hx, hr]
    exact h v' w' h2 h3

set_option maxRecDepth 100000 in
set_option maxHeartbeats 4000000 in
theorem child_call (c : SC) (d : St) (i : Int) (w : World) (hi64 : I64 i) (hn : c.n ≤ 1000000) (hd : IsSt (· < w.heap.size) w c d) : Calls Tryz.prog 19 #[c.v, .int .i64 i] w (StPost w ⟨d.e, d.ps ++ [i]⟩) := by
  obtain ⟨ti, hi, hz0, hz1, hz2⟩ := info_parts infoInt
  have hcap1 : c.n + 1 ≤ maxLen := by unfold maxLen; omega
  have hcap2 : (c.n + 1) * 8 ≤ 140737488355328 := by omega
  obtain ⟨wb, hwb⟩ : ∃ wb, wb = ((w.alloc (.cells #[.int .i64 c.e, .slice c.a c.n c.c] 24)).alloc (.cells #[.int .i64 0, .slice none 0 0] 24)) := ⟨_, rfl⟩
  have HWB : Hid (Below w.heap.size w wb) := hid (by rw [hwb]; exact ((Below.refl _ w).alloc (Nat.le_refl _) _).alloc (by simp) _)
  have HWZ : Hid (wb.heap.size = w.heap.size + 2) := hid (by rw [hwb]; simp)
  have HP : Hid (∀ w', Below wb.heap.size wb w' → c.n = 0 ∨ ∃ b o, c.a = some ⟨b, o, none⟩ ∧ ∀ j u, (d.ps.map (Value.int .i64))[j]? = some u → w'.cell? ⟨b, o + j, none⟩ = some u) := hid fun w' h => by
    have hb := HWB.out.trans (h.mono HWB.out.size)
    rcases hd.ps.at' with h0 | ⟨b, o, ha, hlt, hc⟩
    · left; rw [hd.ps.len, h0]; rfl
    · right
      refine ⟨b, o, ha, fun j u hj => ?_⟩
      rw [List.getElem?_map] at hj
      obtain ⟨x, hx, rfl⟩ := Option.map_eq_some_iff.1 hj
      obtain ⟨hjl, rfl⟩ := List.getElem?_eq_some_iff.1 hx
      exact (World.cell?_of_block (w := w) (a := ⟨b, o + j, none⟩) (hb.block b hlt)).trans (hc j hjl)
  have HL : Hid (c.n = d.ps.length) := hid hd.ps.len
  have HC : Hid (∀ w', Below wb.heap.size wb w' → w'.cell? ⟨w.heap.size, 0, none⟩ = some (.int .i64 c.e) ∧ w'.cell? ⟨w.heap.size, 1, none⟩ = some (.slice c.a c.n c.c)) := hid fun w' h => by
    have h1 : w'.heap[w.heap.size]? = some (.cells #[.int .i64 c.e, .slice c.a c.n c.c] 24 (0, 0)) := heapExt h (by rw [hwb]; exact heapAlloc _ (heap_alloc_new w _))
    exact ⟨cellOf h1 0, cellOf h1 1⟩
  have HZB : Hid (∀ w', Below wb.heap.size wb w' → w'.heap[w.heap.size + 1]? = some (.cells #[.int .i64 0, .slice none 0 0] 24 (0, 0))) := hid fun w' h => heapExt h (by rw [hwb]; exact heapNewAt _ _ _ (by simp))
  have HE := hid hd.e
  have HRE := hid hd.re
  have HRNG : Hid (∀ x ∈ d.ps ++ [i], I64 x) := hid fun x hx => by
    rw [List.mem_append, List.mem_singleton] at hx
    rcases hx with hx | rfl
    · exact hd.ps.rng x hx
    · exact hi64
  clear hd hi64
  go_enter Tryz.func19, Tryz.ntmps19
  go_upto_region 1 with (fail)
  rw [← hwb]
  have HWBE := hid hwb
  clear hwb
  refine wp_region_split 10 (fun w' => Below wb.heap.size wb w') (by kernel_rfl) (by kernel_rfl) (by kernel_rfl) (by decide) ((Below.refl _ _).drew) (fun hS => ?_)
  simp only [List.take_succ_cons, List.take_zero, List.drop_succ_cons, List.drop_zero]
  refine wpAnyH_take (i := 0) (oi := _) (v := ?_) rfl (by kernel_rfl) (by kernel_rfl) (by kernel_rfl) (fun _ _ _ h => h) (Or.inl ⟨by rfl, ?_⟩) hS ?_
  rotate_left
  · intro w' hw'
    have hcells := HC.out w' hw'
    go_simp
    (try with_reducible rfl)
  simp only [Act.put, List.setIfInBounds_toArray, List.set_cons_zero, List.set_cons_succ]
  refine wpAnyH_take (i := 1) (oi := _) (v := ?_) rfl (by kernel_rfl) (by kernel_rfl) (by kernel_rfl) (fun _ _ _ h => h) (Or.inl ⟨by rfl, ?_⟩) hS ?_
  rotate_left
  · intro w' hw'
    have hcells := HC.out w' hw'
    go_simp
    (try with_reducible rfl)
  simp only [Act.put, List.setIfInBounds_toArray, List.set_cons_zero, List.set_cons_succ]
  refine wpAnyH_take (i := 3) (oi := _) (v := ?_) rfl (by kernel_rfl) (by kernel_rfl) (by kernel_rfl) (fun _ _ _ h => h) (Or.inl ⟨by rfl, ?_⟩) hS ?_
  rotate_left
  · intro w' hw'
    have hcells := HC.out w' hw'
    go_simp
    (try with_reducible rfl)
  simp only [Act.put, List.setIfInBounds_toArray, List.set_cons_zero, List.set_cons_succ]
  refine wpAnyH_take (i := 4) (oi := _) (v := ?_) rfl (by kernel_rfl) (by kernel_rfl) (by kernel_rfl) (fun _ _ _ h => h) (Or.inl ⟨by rfl, ?_⟩) hS ?_
  rotate_left
  · intro w' hw'
    have hcells := HC.out w' hw'
    go_simp
    (try with_reducible rfl)
  simp only [Act.put, List.setIfInBounds_toArray, List.set_cons_zero, List.set_cons_succ]
  refine wpAnyH_take (i := 6) (oi := _) (v := ?_) rfl (by kernel_rfl) (by kernel_rfl) (by kernel_rfl) (fun _ _ _ h => h) (Or.inl ⟨by rfl, ?_⟩) hS ?_
  rotate_left
  · intro w' hw'
    have hcells := HC.out w' hw'
    go_simp
    (try with_reducible rfl)
  simp only [Act.put, List.setIfInBounds_toArray, List.set_cons_zero, List.set_cons_succ]
  refine wpAnyH_ready (rs := [2, 7]) (by kernel_rfl) (by simp) ?_
  refine AllReadyH.cons (o := _) rfl (fun K hK => ?_) ?_
  · go_simp
    refine hK.out _ _ (hS.trans (((Below.refl _ _).alloc (Nat.le_refl _) _).mono hS.size)) (fun hS => ?_)
    clear hK K
    (try simp only [Act.put, List.setIfInBounds_toArray, List.set_cons_zero, List.set_cons_succ])
    refine wpAnyH_ready (rs := [5, 7]) (by kernel_rfl) (by simp) ?_
    refine AllReadyH.cons (o := _) rfl (fun K hK => ?_) ?_
    · have OW0 := (World.ownsRow_lit (base := wb.heap.size) (e := 3) (size := 1) wb.drew #[] 0 (Nat.le_refl _) (Nat.zero_le _) rfl)
      refine step_append_any (by rfl) _ _ _ (by rfl) wb.heap.size 3 ti _ 1 8 Tryz.underlying22 hi hz0 hz1 hz2 rfl (by omega) (.slice (some ⟨wb.heap.size, 0, none⟩) 0 0) 0 [] (by rfl) (by exact OW0) c.a c.n c.c (d.ps.map (Value.int .i64)) (by rfl) (HP.out _ hS) (by rw [List.length_map, Nat.mul_one]; exact HL.out.symm) (by simp [Value.oneCell']) (by unfold maxLen; omega) (by omega) hS.size ?_
      intro v5 w2 hown5 hgrow5
      rw [Nat.zero_add, List.nil_append] at hown5
      have hS2 : Below wb.heap.size wb w2 := hS.grown hgrow5 hS.size (fun k e => by simp [Value.ownBlock] at e; omega)
      have HO5 := hid hown5
      clear hown5 hgrow5 OW0
      refine hK.out _ _ (hS2) (fun hS => ?_)
      clear hK K
      (try simp only [Act.put, List.setIfInBounds_toArray, List.set_cons_zero, List.set_cons_succ])
      refine wpAnyH_ready (rs := [7]) (by kernel_rfl) (by simp) ?_
      refine AllReadyH.cons (o := _) rfl (fun K hK => ?_) AllReadyH.nil
      go_simp
      refine hK.out _ _ (hS.trans (((Below.refl _ _).alloc (Nat.le_refl _) _).mono hS.size)) (fun hS => ?_)
      clear hK K
      (try simp only [Act.put, List.setIfInBounds_toArray, List.set_cons_zero, List.set_cons_succ])
      refine wpAnyH_ready (rs := [8]) (by kernel_rfl) (by simp) ?_
      refine AllReadyH.cons (o := _) rfl (fun K hK => ?_) AllReadyH.nil
      refine step_append_lies _ (by rfl) _ _ _ (by rfl) wb.heap.size 3 ti _ 1 8 Tryz.underlying22 hi hz0 hz1 hz2 rfl (by omega) v5 c.n (d.ps.map (Value.int .i64)) (by rfl) (HO5.out.alloc _) ⟨w2.heap.size, 0, none⟩ 1 1 [.int .i64 i] (by rfl) (by rfl) (World.news_of_block (heap_alloc_new w2 _)) (by simp [Value.oneCell']) (by omega) hcap1 hcap2 hS.size _ rfl ?_
      intro gg cap w3 hown2 hgrow hat hlt2
      have hS3 : Below wb.heap.size wb w3 := hS.grown hgrow hS.size (fun k e => own_ge HO5.out k e)
      have HOW := hid hown2
      clear hown2 hgrow hat hlt2
      refine hK.out _ _ (hS3) (fun hS => ?_)
      clear hK K
      (try simp only [Act.put, List.setIfInBounds_toArray, List.set_cons_zero, List.set_cons_succ])
      refine wpAnyH_take (i := 9) (oi := _) (v := ?_) rfl (by kernel_rfl) (by kernel_rfl) (by kernel_rfl) (fun _ _ _ h => h) (Or.inl ⟨by rfl, ?_⟩) hS ?_
      rotate_left
      · intro w' hw'
        have hcells := HC.out w' hw'
        go_simp
        (try with_reducible rfl)
      simp only [Act.put, List.setIfInBounds_toArray, List.set_cons_zero, List.set_cons_succ]
      refine wpAnyH_done (by kernel_rfl) ?_ _
      (try dsimp only)
      have hB := HZB.out _ hS
      have z0 := cellOf hB 0
      have z1 := cellOf hB 1
      have y0 := freeOf hB 0
      have y1 := freeOf hB 1
      (try dsimp only at z0 z1)
      have HB := hid hB
      have HS := hid hS
      clear hB hS hS2 hS3 HC HO5 hi hz0 hz1 hz2 hcap1 hcap2
      go_wp2
      have h1 := heapSet (o := 1) (Value.slice (some ⟨gg, 0, none⟩) (c.n + 1) cap) (heapSet (o := 0) (Value.int .i64 c.e) HB.out)
      obtain ⟨a', c', hac, hii⟩ := ints_of_row (xs := d.ps ++ [i]) (by rw [List.map_append]; exact HOW.out) (by omega) HRNG.out
      obtain ⟨rfl, rfl⟩ : some ⟨gg, 0, none⟩ = a' ∧ cap = c' := by (injection hac with e1 _ e2; exact ⟨e1, e2⟩)
      have hwz := HWZ.out
      refine bodyPost_ret (v := .agg #[.int .i64 c.e, .slice (some ⟨gg, 0, none⟩) (c.n + 1) cap]) (by simp [results, Tryz.results19, go_sem, cellOf h1]) rfl ⟨(⟨c.e, some ⟨gg, 0, none⟩, c.n + 1, cap⟩ : SC), rfl, ?_, ⟨HE.out, HRE.out, ?_⟩⟩
      · exact ((HWB.out.trans (HS.out.mono HWB.out.size)).setCell (p := ⟨w.heap.size + 1, 0, none⟩) (by dsimp only; omega) _).setCell (p := ⟨w.heap.size + 1, 1, none⟩) (by dsimp only; omega) _
      · refine hii.same fun b hb => ⟨⟨?_, by simpa [World.setCell] using hb.2⟩, (Below.heap_setCell _ _ _ _ ?_).trans (Below.heap_setCell _ _ _ _ ?_)⟩ <;> (have := hb.1; simp at this ⊢; omega)
    refine AllReadyH.cons (o := _) rfl (fun K hK => ?_) AllReadyH.nil
    go_simp
    refine hK.out _ _ (hS.trans (((Below.refl _ _).alloc (Nat.le_refl _) _).mono hS.size)) (fun hS => ?_)
    clear hK K
    (try simp only [Act.put, List.setIfInBounds_toArray, List.set_cons_zero, List.set_cons_succ])
    refine wpAnyH_ready (rs := [5]) (by kernel_rfl) (by simp) ?_
    refine AllReadyH.cons (o := _) rfl (fun K hK => ?_) AllReadyH.nil
    have OW0 := ((World.ownsRow_lit (base := wb.heap.size) (e := 3) (size := 1) wb.drew #[] 0 (Nat.le_refl _) (Nat.zero_le _) rfl).alloc (.cells #[.int .i64 i] 3))
    refine step_append_any (by rfl) _ _ _ (by rfl) wb.heap.size 3 ti _ 1 8 Tryz.underlying22 hi hz0 hz1 hz2 rfl (by omega) (.slice (some ⟨wb.heap.size, 0, none⟩) 0 0) 0 [] (by rfl) (by exact OW0) c.a c.n c.c (d.ps.map (Value.int .i64)) (by rfl) (HP.out _ hS) (by rw [List.length_map, Nat.mul_one]; exact HL.out.symm) (by simp [Value.oneCell']) (by unfold maxLen; omega) (by omega) hS.size ?_
    intro v5 w2 hown5 hgrow5
    rw [Nat.zero_add, List.nil_append] at hown5
    have hS2 : Below wb.heap.size wb w2 := hS.grown hgrow5 hS.size (fun k e => by simp [Value.ownBlock] at e; omega)
    have NB := hid (show w2.heap[wb.heap.size + 1]? = some (.cells #[.int .i64 i] 3) from (hgrow5.block (wb.heap.size + 1) (by simp) (by simp [Value.ownBlock])).trans (heapNewAt (wb.drew.alloc (.cells #[] 3)) (.cells #[.int .i64 i] 3) (wb.heap.size + 1) (by simp)))
    have HO5 := hid hown5
    clear hown5 hgrow5 OW0
    refine hK.out _ _ (hS2) (fun hS => ?_)
    clear hK K
    (try simp only [Act.put, List.setIfInBounds_toArray, List.set_cons_zero, List.set_cons_succ])
    refine wpAnyH_ready (rs := [8]) (by kernel_rfl) (by simp) ?_
    refine AllReadyH.cons (o := _) rfl (fun K hK => ?_) AllReadyH.nil
    refine step_append_lies _ (by rfl) _ _ _ (by rfl) wb.heap.size 3 ti _ 1 8 Tryz.underlying22 hi hz0 hz1 hz2 rfl (by omega) v5 c.n (d.ps.map (Value.int .i64)) (by rfl) HO5.out ⟨(wb.heap.size + 1), 0, none⟩ 1 1 [.int .i64 i] (by rfl) (by rfl) (World.news_of_block NB.out) (by simp [Value.oneCell']) (by omega) hcap1 hcap2 hS.size _ rfl ?_
    intro gg cap w3 hown2 hgrow hat hlt2
    have hS3 : Below wb.heap.size wb w3 := hS.grown hgrow hS.size (fun k e => own_ge HO5.out k e)
    have HOW := hid hown2
    clear hown2 hgrow hat hlt2
    refine hK.out _ _ (hS3) (fun hS => ?_)
    clear hK K
    (try simp only [Act.put, List.setIfInBounds_toArray, List.set_cons_zero, List.set_cons_succ])
    refine wpAnyH_take (i := 9) (oi := _) (v := ?_) rfl (by kernel_rfl) (by kernel_rfl) (by kernel_rfl) (fun _ _ _ h => h) (Or.inl ⟨by rfl, ?_⟩) hS ?_
    rotate_left
    · intro w' hw'
      have hcells := HC.out w' hw'
      go_simp
      (try with_reducible rfl)
    simp only [Act.put, List.setIfInBounds_toArray, List.set_cons_zero, List.set_cons_succ]
    refine wpAnyH_done (by kernel_rfl) ?_ _
    (try dsimp only)
    have hB := HZB.out _ hS
    have z0 := cellOf hB 0
    have z1 := cellOf hB 1
    have y0 := freeOf hB 0
    have y1 := freeOf hB 1
    (try dsimp only at z0 z1)
    have HB := hid hB
    have HS := hid hS
    clear hB hS hS2 hS3 HC HO5 hi hz0 hz1 hz2 hcap1 hcap2
    go_wp2
    have h1 := heapSet (o := 1) (Value.slice (some ⟨gg, 0, none⟩) (c.n + 1) cap) (heapSet (o := 0) (Value.int .i64 c.e) HB.out)
    obtain ⟨a', c', hac, hii⟩ := ints_of_row (xs := d.ps ++ [i]) (by rw [List.map_append]; exact HOW.out) (by omega) HRNG.out
    obtain ⟨rfl, rfl⟩ : some ⟨gg, 0, none⟩ = a' ∧ cap = c' := by (injection hac with e1 _ e2; exact ⟨e1, e2⟩)
    have hwz := HWZ.out
    refine bodyPost_ret (v := .agg #[.int .i64 c.e, .slice (some ⟨gg, 0, none⟩) (c.n + 1) cap]) (by simp [results, Tryz.results19, go_sem, cellOf h1]) rfl ⟨(⟨c.e, some ⟨gg, 0, none⟩, c.n + 1, cap⟩ : SC), rfl, ?_, ⟨HE.out, HRE.out, ?_⟩⟩
    · exact ((HWB.out.trans (HS.out.mono HWB.out.size)).setCell (p := ⟨w.heap.size + 1, 0, none⟩) (by dsimp only; omega) _).setCell (p := ⟨w.heap.size + 1, 1, none⟩) (by dsimp only; omega) _
    · refine hii.same fun b hb => ⟨⟨?_, by simpa [World.setCell] using hb.2⟩, (Below.heap_setCell _ _ _ _ ?_).trans (Below.heap_setCell _ _ _ _ ?_)⟩ <;> (have := hb.1; simp at this ⊢; omega)
  refine AllReadyH.cons (o := _) rfl (fun K hK => ?_) AllReadyH.nil
  go_simp
  refine hK.out _ _ (hS.trans (((Below.refl _ _).alloc (Nat.le_refl _) _).mono hS.size)) (fun hS => ?_)
  clear hK K
  (try simp only [Act.put, List.setIfInBounds_toArray, List.set_cons_zero, List.set_cons_succ])
  refine wpAnyH_ready (rs := [2]) (by kernel_rfl) (by simp) ?_
  refine AllReadyH.cons (o := _) rfl (fun K hK => ?_) AllReadyH.nil
  go_simp
  refine hK.out _ _ (hS.trans (((Below.refl _ _).alloc (Nat.le_refl _) _).mono hS.size)) (fun hS => ?_)
  clear hK K
  (try simp only [Act.put, List.setIfInBounds_toArray, List.set_cons_zero, List.set_cons_succ])
  refine wpAnyH_ready (rs := [5]) (by kernel_rfl) (by simp) ?_
  refine AllReadyH.cons (o := _) rfl (fun K hK => ?_) AllReadyH.nil
  have OW0 := (World.ownsRow_lit (base := wb.heap.size) (e := 3) (size := 1) (wb.drew.alloc (.cells #[.int .i64 i] 3)) #[] 0 (by simp) (Nat.zero_le _) rfl)
  refine step_append_any (by rfl) _ _ _ (by rfl) wb.heap.size 3 ti _ 1 8 Tryz.underlying22 hi hz0 hz1 hz2 rfl (by omega) (.slice (some ⟨(wb.heap.size + 1), 0, none⟩) 0 0) 0 [] (by rfl) (by rw [show (wb.drew.alloc (.cells #[.int .i64 i] 3)).heap.size = wb.heap.size + 1 by simp] at OW0; exact OW0) c.a c.n c.c (d.ps.map (Value.int .i64)) (by rfl) (HP.out _ hS) (by rw [List.length_map, Nat.mul_one]; exact HL.out.symm) (by simp [Value.oneCell']) (by unfold maxLen; omega) (by omega) hS.size ?_
  intro v5 w2 hown5 hgrow5
  rw [Nat.zero_add, List.nil_append] at hown5
  have hS2 : Below wb.heap.size wb w2 := hS.grown hgrow5 hS.size (fun k e => by simp [Value.ownBlock] at e; omega)
  have NB := hid (show w2.heap[wb.heap.size]? = some (.cells #[.int .i64 i] 3) from (hgrow5.block wb.heap.size (by simp; omega) (by simp [Value.ownBlock])).trans (heapAlloc (.cells #[] 3) (heap_alloc_new wb.drew (.cells #[.int .i64 i] 3))))
  have HO5 := hid hown5
  clear hown5 hgrow5 OW0
  refine hK.out _ _ (hS2) (fun hS => ?_)
  clear hK K
  (try simp only [Act.put, List.setIfInBounds_toArray, List.set_cons_zero, List.set_cons_succ])
  refine wpAnyH_ready (rs := [8]) (by kernel_rfl) (by simp) ?_
  refine AllReadyH.cons (o := _) rfl (fun K hK => ?_) AllReadyH.nil
  refine step_append_lies _ (by rfl) _ _ _ (by rfl) wb.heap.size 3 ti _ 1 8 Tryz.underlying22 hi hz0 hz1 hz2 rfl (by omega) v5 c.n (d.ps.map (Value.int .i64)) (by rfl) HO5.out ⟨wb.heap.size, 0, none⟩ 1 1 [.int .i64 i] (by rfl) (by rfl) (World.news_of_block NB.out) (by simp [Value.oneCell']) (by omega) hcap1 hcap2 hS.size _ rfl ?_
  intro gg cap w3 hown2 hgrow hat hlt2
  have hS3 : Below wb.heap.size wb w3 := hS.grown hgrow hS.size (fun k e => own_ge HO5.out k e)
  have HOW := hid hown2
  clear hown2 hgrow hat hlt2
  refine hK.out _ _ (hS3) (fun hS => ?_)
  clear hK K
  (try simp only [Act.put, List.setIfInBounds_toArray, List.set_cons_zero, List.set_cons_succ])
  refine wpAnyH_take (i := 9) (oi := _) (v := ?_) rfl (by kernel_rfl) (by kernel_rfl) (by kernel_rfl) (fun _ _ _ h => h) (Or.inl ⟨by rfl, ?_⟩) hS ?_
  rotate_left
  · intro w' hw'
    have hcells := HC.out w' hw'
    go_simp
    (try with_reducible rfl)
  simp only [Act.put, List.setIfInBounds_toArray, List.set_cons_zero, List.set_cons_succ]
  refine wpAnyH_done (by kernel_rfl) ?_ _
  (try dsimp only)
  have hB := HZB.out _ hS
  have z0 := cellOf hB 0
  have z1 := cellOf hB 1
  have y0 := freeOf hB 0
  have y1 := freeOf hB 1
  (try dsimp only at z0 z1)
  have HB := hid hB
  have HS := hid hS
  clear hB hS hS2 hS3 HC HO5 hi hz0 hz1 hz2 hcap1 hcap2
  go_wp2
  have h1 := heapSet (o := 1) (Value.slice (some ⟨gg, 0, none⟩) (c.n + 1) cap) (heapSet (o := 0) (Value.int .i64 c.e) HB.out)
  obtain ⟨a', c', hac, hii⟩ := ints_of_row (xs := d.ps ++ [i]) (by rw [List.map_append]; exact HOW.out) (by omega) HRNG.out
  obtain ⟨rfl, rfl⟩ : some ⟨gg, 0, none⟩ = a' ∧ cap = c' := by (injection hac with e1 _ e2; exact ⟨e1, e2⟩)
  have hwz := HWZ.out
  refine bodyPost_ret (v := .agg #[.int .i64 c.e, .slice (some ⟨gg, 0, none⟩) (c.n + 1) cap]) (by simp [results, Tryz.results19, go_sem, cellOf h1]) rfl ⟨(⟨c.e, some ⟨gg, 0, none⟩, c.n + 1, cap⟩ : SC), rfl, ?_, ⟨HE.out, HRE.out, ?_⟩⟩
  · exact ((HWB.out.trans (HS.out.mono HWB.out.size)).setCell (p := ⟨w.heap.size + 1, 0, none⟩) (by dsimp only; omega) _).setCell (p := ⟨w.heap.size + 1, 1, none⟩) (by dsimp only; omega) _
  · refine hii.same fun b hb => ⟨⟨?_, by simpa [World.setCell] using hb.2⟩, (Below.heap_setCell _ _ _ _ ?_).trans (Below.heap_setCell _ _ _ _ ?_)⟩ <;> (have := hb.1; simp at this ⊢; omega)
end Go.Proofs.YthjlgpmajeafpaaGreatDoor
