/-
  message.into, Replaced, Delivered, Rejected return the fates that they say. Condition: the message and the stamps can be read as data.
-/
import Derived.Test.YthjlgpmajeafpaaGreatDoorFateD
namespace Go.Proofs.YthjlgpmajeafpaaGreatDoor
open Go Go.RowKit Go.Shelf
set_option linter.unusedVariables false
set_option linter.unusedSimpArgs false

theorem into_call (a : Option Addr) (n cap : Nat) (w : World) : Calls Tryz.prog 68 #[.slice a n cap] w fun e w' => e = .returned (.func (.func 115) #[] #[.pointer (some ⟨w.heap.size, 0, none⟩)]) ∧ w' = w.alloc (.cells #[.slice a n cap] 42) := by
  go_enter Tryz.func68, Tryz.ntmps68
  go_wp2
  go_ret
  exact ⟨rfl, rfl⟩

set_option maxRecDepth 100000 in
set_option maxHeartbeats 8000000 in
theorem replaced_call (c : MC) (d : Msg) (nd : ByteArray) (a : Option Addr) (n cap : Nat) (l : List St) (w : World) (hd : IsMsg (· < w.heap.size) w c d) (hr : IsRow stK (· < w.heap.size) w a n cap l) : Calls Tryz.prog 23 #[c.v, .string nd, .slice a n cap] w (FtPost w ⟨d.st, 1, nd, l, ByteArray.empty⟩) := by
  obtain ⟨wb, hwb⟩ : ∃ wb, wb = ((w.alloc (.cells #[.int .i64 c.st.e, .slice c.st.a c.st.n c.st.c, .int .i64 c.m, .slice c.a c.n c.c, .int .i64 c.b.k, .int .i64 c.b.i, .int .i64 c.b.s, .string c.b.t, .slice c.b.la c.b.ll c.b.lc, .slice c.b.fa c.b.fl c.b.fc] 30)).alloc (.cells #[.int .i64 0, .slice none 0 0, .int .i64 0, .string ⟨#[]⟩, .slice none 0 0, .string ⟨#[]⟩] 45)) := ⟨_, rfl⟩
  have hb0 : Below w.heap.size w wb := by rw [hwb]; exact ((Below.refl _ w).alloc (Nat.le_refl _) _).alloc (by simp) _
  have hsb : wb.heap.size = w.heap.size + 2 := by rw [hwb]; simp
  have g1 : wb.heap[w.heap.size]? = some (.cells #[.int .i64 c.st.e, .slice c.st.a c.st.n c.st.c, .int .i64 c.m, .slice c.a c.n c.c, .int .i64 c.b.k, .int .i64 c.b.i, .int .i64 c.b.s, .string c.b.t, .slice c.b.la c.b.ll c.b.lc, .slice c.b.fa c.b.fl c.b.fc] 30) := by rw [hwb]; exact heapAlloc _ (heap_alloc_new w _)
  have g2 : wb.heap[(w.heap.size + 1)]? = some (.cells #[.int .i64 0, .slice none 0 0, .int .i64 0, .string ⟨#[]⟩, .slice none 0 0, .string ⟨#[]⟩] 45) := by rw [hwb]; exact heapNewAt _ _ _ (by simp)
  have hd' : ∀ w', Below wb.heap.size wb w' → IsMsg (· < w'.heap.size) w' c d ∧ IsRow stK (· < w'.heap.size) w' a n cap l := fun w' h => by
    have hb := hb0.trans (h.mono hb0.size)
    exact ⟨hd.same fun b q => ⟨Nat.lt_of_lt_of_le q hb.size, hb.block b q⟩, hr.same fun b q => ⟨Nat.lt_of_lt_of_le q hb.size, hb.block b q⟩⟩
  have HC : Hid (∀ w', Below wb.heap.size wb w' → w'.cell? ⟨w.heap.size, 0, none⟩ = some (.int .i64 c.st.e) ∧ w'.cell? ⟨w.heap.size, 1, none⟩ = some (.slice c.st.a c.st.n c.st.c) ∧ w'.cell? ⟨w.heap.size, 2, none⟩ = some (.int .i64 c.m) ∧ w'.cell? ⟨w.heap.size, 3, none⟩ = some (.slice c.a c.n c.c) ∧ w'.cell? ⟨w.heap.size, 4, none⟩ = some (.int .i64 c.b.k) ∧ w'.cell? ⟨w.heap.size, 5, none⟩ = some (.int .i64 c.b.i) ∧ w'.cell? ⟨w.heap.size, 6, none⟩ = some (.int .i64 c.b.s) ∧ w'.cell? ⟨w.heap.size, 7, none⟩ = some (.string c.b.t) ∧ w'.cell? ⟨w.heap.size, 8, none⟩ = some (.slice c.b.la c.b.ll c.b.lc) ∧ w'.cell? ⟨w.heap.size, 9, none⟩ = some (.slice c.b.fa c.b.fl c.b.fc)) := hid fun w' h => by
    have h1 := heapExt h g1
    exact ⟨cellOf h1 0, cellOf h1 1, cellOf h1 2, cellOf h1 3, cellOf h1 4, cellOf h1 5, cellOf h1 6, cellOf h1 7, cellOf h1 8, cellOf h1 9⟩
  have HB0 := hid hb0
  have HSB := hid hsb
  have G2 := hid g2
  have HWB := hid hwb
  clear hb0 hsb g1 g2 hd hr hwb
  dsimp only [MC.v]
  go_enter Tryz.func23, Tryz.ntmps23
  go_upto_region 1 with (fail)
  rw [← HWB.out]
  refine wp_region_split 6 (fun w' => Below wb.heap.size wb w') (by kernel_rfl) (by kernel_rfl) (by kernel_rfl) (by decide) ((Below.refl _ _).drew) (fun hS => ?_)
  simp only [List.take_succ_cons, List.take_zero, List.drop_succ_cons, List.drop_zero]
  refine wpAnyH_take (i := 0) (oi := _) (v := ?_) rfl (by kernel_rfl) (by kernel_rfl) (by kernel_rfl) (fun _ _ _ h => h) (Or.inl ⟨by rfl, ?_⟩) hS ?_
  rotate_left
  · intro w' hw'
    have hcells := HC.out w' hw'
    go_simp
    (try with_reducible rfl)
  simp only [Act.put, List.getElem_toArray, List.getElem_cons_succ, List.getElem_cons_zero, List.setIfInBounds_toArray, List.set_cons_zero, List.set_cons_succ]
  refine wpAnyH_take (i := 1) (oi := _) (v := ?_) rfl (by kernel_rfl) (by kernel_rfl) (by kernel_rfl) (fun _ _ _ h => h) (Or.inl ⟨by rfl, ?_⟩) hS ?_
  rotate_left
  · intro w' hw'
    have hcells := HC.out w' hw'
    go_simp
    (try with_reducible rfl)
  simp only [Act.put, List.getElem_toArray, List.getElem_cons_succ, List.getElem_cons_zero, List.setIfInBounds_toArray, List.set_cons_zero, List.set_cons_succ]
  refine wpAnyH_take (i := 2) (oi := _) (v := ?_) rfl (by kernel_rfl) (by kernel_rfl) (by kernel_rfl) (fun _ _ _ h => h) (Or.inl ⟨by rfl, ?_⟩) hS ?_
  rotate_left
  · intro w' hw'
    have hcells := HC.out w' hw'
    go_simp
    (try with_reducible rfl)
  simp only [Act.put, List.getElem_toArray, List.getElem_cons_succ, List.getElem_cons_zero, List.setIfInBounds_toArray, List.set_cons_zero, List.set_cons_succ]
  refine wpAnyH_ready (rs := [3]) (by kernel_rfl) (by simp) ?_
  refine AllReadyH.cons (o := _) rfl (fun K hK => ?_) AllReadyH.nil
  go_simp; go_at_call 68; refine (into_call a n cap _).mono ?_
  rintro e w3 ⟨rfl, rfl⟩
  refine hK.out _ _ (hS.trans (((Below.refl _ _).alloc (Nat.le_refl _) _).mono hS.size)) (fun hS => ?_)
  clear hK K
  (try simp only [Act.put, List.getElem_toArray, List.getElem_cons_succ, List.getElem_cons_zero, List.setIfInBounds_toArray, List.set_cons_zero, List.set_cons_succ])
  refine wpAnyH_ready (rs := [4]) (by kernel_rfl) (by simp) ?_
  refine AllReadyH.cons (o := _) rfl (fun K hK => ?_) AllReadyH.nil
  go_simp
  refine hK.out _ _ (hS.trans (((Below.refl _ _).alloc (Nat.le_refl _) _).mono hS.size)) (fun hS => ?_)
  clear hK K
  (try simp only [Act.put, List.getElem_toArray, List.getElem_cons_succ, List.getElem_cons_zero, List.setIfInBounds_toArray, List.set_cons_zero, List.set_cons_succ])
  refine wpAnyH_ready (rs := [5]) (by kernel_rfl) (by simp) ?_
  refine AllReadyH.cons (o := _) rfl (fun K hK => ?_) AllReadyH.nil
  generalize hw5 : World.drew (World.alloc (World.alloc _ _) _) = w5 at hS ⊢
  have o1 : w5.heap[wb.heap.size]? = some (.cells #[.slice a n cap] 42) := by rw [← hw5]; exact heapAlloc _ (heap_alloc_new _ _)
  have o2 : w5.heap[wb.heap.size + 1]? = some (.cells #[.func (.func 115) #[] #[.pointer (some ⟨wb.heap.size, 0, none⟩)]] 103) := by rw [← hw5]; exact heapNewAt _ _ _ (by simp)
  clear hw5
  have HF := hid (fate1_call c d 1 nd w5 (hd' w5 hS).1 (wb.heap.size + 1) wb.heap.size a n cap l o2 o1 (hd' w5 hS).2)
  dsimp only [MC.v] at HF
  have hs5 := hS.size
  go_simp; go_at_call 67; refine HF.out.mono ?_
  rintro e w6 ⟨c6, rfl, hb6, hi6⟩
  have HI6 := hid hi6
  have HS5 := hid hs5
  clear o1 o2 HF hi6 hs5
  refine hK.out _ _ (hS.trans (hb6.mono hS.size)) (fun hS => ?_)
  clear hK K
  (try simp only [Act.put, List.getElem_toArray, List.getElem_cons_succ, List.getElem_cons_zero, List.setIfInBounds_toArray, List.set_cons_zero, List.set_cons_succ])
  refine wpAnyH_done (by kernel_rfl) ?_ _
  (try dsimp only)
  have hs6 := hS.size
  have hs5 := HS5.out
  have hsb := HSB.out
  have HB6 := hid (HB0.out.trans (hS.mono HB0.out.size))
  have HZ := hid (heapExt hS G2.out)
  clear hS hb6 HC hd'
  have z6 := HZ.out
  have y0 := cellOf z6 0
  have y1 := cellOf z6 1
  have y2 := cellOf z6 2
  have y3 := cellOf z6 3
  have y4 := cellOf z6 4
  have y5 := cellOf z6 5
  have u0 := freeOf z6 0
  have u1 := freeOf z6 1
  have u2 := freeOf z6 2
  have u3 := freeOf z6 3
  have u4 := freeOf z6 4
  have u5 := freeOf z6 5
  (try dsimp only at y0 y1 y2 y3 y4 y5)
  have Z6 := hid z6
  clear z6
  go_wp2
  clear y0 u0 y1 u1 y2 u2 y3 u3 y4 u4 y5 u5
  have h1 := setFt_heap (c := c6) Z6.out
  refine bodyPost_ret (v := FtC.v c6) (by dsimp only [setFt] at h1; simp [results, Tryz.results23, go_sem, cellOf h1]) rfl ⟨c6, rfl, ?_, ?_⟩
  · exact (HB6.out).trans (setFt_below (c := c6) w6 (w.heap.size + 1) w.heap.size (by omega))
  · exact HI6.out.same fun b q => ⟨⟨by omega, by rw [setFt_size (c := c6)]; omega⟩, setFt_other (c := c6) w6 (w.heap.size + 1) b (by omega)⟩

set_option maxRecDepth 100000 in
set_option maxHeartbeats 8000000 in
theorem delivered_call (c : MC) (d : Msg) (nd : ByteArray) (w : World) (hd : IsMsg (· < w.heap.size) w c d) : Calls Tryz.prog 24 #[c.v, .string nd] w (FtPost w ⟨d.st, 3, nd, [], ByteArray.empty⟩) := by
  obtain ⟨wb, hwb⟩ : ∃ wb, wb = ((w.alloc (.cells #[.int .i64 c.st.e, .slice c.st.a c.st.n c.st.c, .int .i64 c.m, .slice c.a c.n c.c, .int .i64 c.b.k, .int .i64 c.b.i, .int .i64 c.b.s, .string c.b.t, .slice c.b.la c.b.ll c.b.lc, .slice c.b.fa c.b.fl c.b.fc] 30)).alloc (.cells #[.int .i64 0, .slice none 0 0, .int .i64 0, .string ⟨#[]⟩, .slice none 0 0, .string ⟨#[]⟩] 45)) := ⟨_, rfl⟩
  have hb0 : Below w.heap.size w wb := by rw [hwb]; exact ((Below.refl _ w).alloc (Nat.le_refl _) _).alloc (by simp) _
  have hsb : wb.heap.size = w.heap.size + 2 := by rw [hwb]; simp
  have g1 : wb.heap[w.heap.size]? = some (.cells #[.int .i64 c.st.e, .slice c.st.a c.st.n c.st.c, .int .i64 c.m, .slice c.a c.n c.c, .int .i64 c.b.k, .int .i64 c.b.i, .int .i64 c.b.s, .string c.b.t, .slice c.b.la c.b.ll c.b.lc, .slice c.b.fa c.b.fl c.b.fc] 30) := by rw [hwb]; exact heapAlloc _ (heap_alloc_new w _)
  have g2 : wb.heap[(w.heap.size + 1)]? = some (.cells #[.int .i64 0, .slice none 0 0, .int .i64 0, .string ⟨#[]⟩, .slice none 0 0, .string ⟨#[]⟩] 45) := by rw [hwb]; exact heapNewAt _ _ _ (by simp)
  have hf := fate0_call c d 3 nd wb (hd.same fun b q => ⟨Nat.lt_of_lt_of_le q hb0.size, hb0.block b q⟩)
  dsimp only [MC.v] at hf
  rw [hwb] at hf
  have HF := hid hf
  have HB0 := hid hb0
  have HSB := hid hsb
  have G2 := hid g2
  have HWB := hid hwb
  clear hf hb0 hsb g1 g2 hd hwb
  dsimp only [MC.v]
  go_enter Tryz.func24, Tryz.ntmps24
  go_wp2_with (go_at_call 67; refine HF.out.mono ?_; rintro e w6 ⟨c6, rfl, hb6, hi6⟩; rw [← HWB.out] at hb6 hi6; have z6 := heapExt hb6 G2.out; have y0 := cellOf z6 0; have u0 := freeOf z6 0; have y1 := cellOf z6 1; have u1 := freeOf z6 1; have y2 := cellOf z6 2; have u2 := freeOf z6 2; have y3 := cellOf z6 3; have u3 := freeOf z6 3; have y4 := cellOf z6 4; have u4 := freeOf z6 4; have y5 := cellOf z6 5; have u5 := freeOf z6 5; (try dsimp only at y0 y1 y2 y3 y4 y5); have Z6 := hid z6; clear z6)
  have hs6 := hb6.size
  have hsb := HSB.out
  have HB6 := hid (HB0.out.trans (hb6.mono HB0.out.size))
  have HI6 := hid hi6
  clear y0 u0 y1 u1 y2 u2 y3 u3 y4 u4 y5 u5
  have h1 := setFt_heap (c := c6) Z6.out
  refine bodyPost_ret (v := FtC.v c6) (by dsimp only [setFt] at h1; simp [results, Tryz.results24, go_sem, cellOf h1]) rfl ⟨c6, rfl, ?_, ?_⟩
  · exact (HB6.out).trans (setFt_below (c := c6) w6 (w.heap.size + 1) w.heap.size (by omega))
  · exact HI6.out.same fun b q => ⟨⟨by omega, by rw [setFt_size (c := c6)]; omega⟩, setFt_other (c := c6) w6 (w.heap.size + 1) b (by omega)⟩

set_option maxRecDepth 100000 in
set_option maxHeartbeats 8000000 in
theorem rejected_call (c : MC) (d : Msg) (nd : ByteArray) (tx : ByteArray) (w : World) (hd : IsMsg (· < w.heap.size) w c d) : Calls Tryz.prog 25 #[c.v, .string nd, .string tx] w (FtPost w ⟨d.st, 4, nd, [], tx⟩) := by
  obtain ⟨wb, hwb⟩ : ∃ wb, wb = (((w.alloc (.cells #[.int .i64 c.st.e, .slice c.st.a c.st.n c.st.c, .int .i64 c.m, .slice c.a c.n c.c, .int .i64 c.b.k, .int .i64 c.b.i, .int .i64 c.b.s, .string c.b.t, .slice c.b.la c.b.ll c.b.lc, .slice c.b.fa c.b.fl c.b.fc] 30)).alloc (.cells #[.string tx] 9)).alloc (.cells #[.int .i64 0, .slice none 0 0, .int .i64 0, .string ⟨#[]⟩, .slice none 0 0, .string ⟨#[]⟩] 45)) := ⟨_, rfl⟩
  have hb0 : Below w.heap.size w wb := by rw [hwb]; exact (((Below.refl _ w).alloc (Nat.le_refl _) _).alloc (by simp) _).alloc (by simp; omega) _
  have hsb : wb.heap.size = w.heap.size + 3 := by rw [hwb]; simp
  have g1 : wb.heap[w.heap.size]? = some (.cells #[.int .i64 c.st.e, .slice c.st.a c.st.n c.st.c, .int .i64 c.m, .slice c.a c.n c.c, .int .i64 c.b.k, .int .i64 c.b.i, .int .i64 c.b.s, .string c.b.t, .slice c.b.la c.b.ll c.b.lc, .slice c.b.fa c.b.fl c.b.fc] 30) := by rw [hwb]; exact heapAlloc _ (heapAlloc _ (heap_alloc_new w _))
  have g2 : wb.heap[(w.heap.size + 2)]? = some (.cells #[.int .i64 0, .slice none 0 0, .int .i64 0, .string ⟨#[]⟩, .slice none 0 0, .string ⟨#[]⟩] 45) := by rw [hwb]; exact heapNewAt _ _ _ (by simp)
  have g3 : wb.heap[w.heap.size + 1]? = some (.cells #[.string tx] 9) := by rw [hwb]; exact heapAlloc _ (heapNewAt _ _ _ (by simp))
  obtain ⟨wc, hwc⟩ : ∃ wc, wc = wb.alloc (.cells #[.func (.func 69) #[] #[.pointer (some ⟨w.heap.size + 1, 0, none⟩)]] 103) := ⟨_, rfl⟩
  have hbc : Below w.heap.size w wc := by rw [hwc]; exact hb0.alloc hb0.size _
  have hf := fate2_call c d 4 nd wc (hd.same fun b q => ⟨Nat.lt_of_lt_of_le q hbc.size, hbc.block b q⟩) (w.heap.size + 3) (w.heap.size + 1) tx (by rw [hwc]; exact heapNewAt _ _ _ hsb) (by rw [hwc]; exact heapAlloc _ g3)
  have hzc : wc.heap[(w.heap.size + 2)]? = some (.cells #[.int .i64 0, .slice none 0 0, .int .i64 0, .string ⟨#[]⟩, .slice none 0 0, .string ⟨#[]⟩] 45) := by rw [hwc]; exact heapAlloc _ g2
  have hsc : wc.heap.size = w.heap.size + 4 := by rw [hwc]; simp [hsb]
  dsimp only [MC.v] at hf
  rw [hwb] at hwc
  rw [hwc] at hf
  have HF := hid hf
  have HB0 := hid hbc
  have HSB := hid hsc
  have G2 := hid hzc
  have HWB := hid hwc
  clear hf hb0 hsb g1 g2 g3 hd hwb hwc hbc hzc hsc
  dsimp only [MC.v]
  go_enter Tryz.func25, Tryz.ntmps25
  go_wp2_with (go_at_call 67; refine HF.out.mono ?_; rintro e w6 ⟨c6, rfl, hb6, hi6⟩; rw [← HWB.out] at hb6 hi6; have z6 := heapExt hb6 G2.out; have y0 := cellOf z6 0; have u0 := freeOf z6 0; have y1 := cellOf z6 1; have u1 := freeOf z6 1; have y2 := cellOf z6 2; have u2 := freeOf z6 2; have y3 := cellOf z6 3; have u3 := freeOf z6 3; have y4 := cellOf z6 4; have u4 := freeOf z6 4; have y5 := cellOf z6 5; have u5 := freeOf z6 5; (try dsimp only at y0 y1 y2 y3 y4 y5); have Z6 := hid z6; clear z6)
  have hs6 := hb6.size
  have hsb := HSB.out
  have HB6 := hid (HB0.out.trans (hb6.mono HB0.out.size))
  have HI6 := hid hi6
  clear y0 u0 y1 u1 y2 u2 y3 u3 y4 u4 y5 u5
  have h1 := setFt_heap (c := c6) Z6.out
  refine bodyPost_ret (v := FtC.v c6) (by dsimp only [setFt] at h1; simp [results, Tryz.results25, go_sem, cellOf h1]) rfl ⟨c6, rfl, ?_, ?_⟩
  · exact (HB6.out).trans (setFt_below (c := c6) w6 (w.heap.size + 2) w.heap.size (by omega))
  · exact HI6.out.same fun b q => ⟨⟨by omega, by rw [setFt_size (c := c6)]; omega⟩, setFt_other (c := c6) w6 (w.heap.size + 2) b (by omega)⟩
end Go.Proofs.YthjlgpmajeafpaaGreatDoor
