/-
  value.Record of one field. Conditions: the field lies in a block; its value can be read as data.
-/
import Derived.Test.YtkljbfaemahchaaGreatDoorET3Mrg
import Derived.Test.YtkljbfaemahchaaGreatDoorET38Mrg
import Derived.Test.YtkljbfaemahchaaGreatDoorET2Mrg
namespace Go.Proofs.YtkljbfaemahchaaGreatDoor
set_option linter.unusedVariables false
set_option linter.unusedSimpArgs false
open Go Go.RowKit
theorem okR (fa : Option Addr) (fl fc : Nat) (h : fl ≤ 1) (h2 : fl ≤ fc) : VC.ok ⟨9, 0, 0, ⟨#[]⟩, none, 0, 0, fa, fl, fc⟩ := ⟨(show I64 9 from ⟨by decide, by decide⟩), (show I64 0 from ⟨by decide, by decide⟩), (show I64 0 from ⟨by decide, by decide⟩), (show (⟨#[]⟩ : ByteArray).size ≤ 140737488351232 by decide), (show 0 * 88 ≤ 140737488351232 by decide), (show fl * 104 ≤ 140737488351232 by omega), (show 0 ≤ 0 by decide), h2⟩
set_option maxRecDepth 100000 in
set_option maxHeartbeats 4000000 in
theorem recV_call (g cg : Nat) (name : ByteArray) (c : VC) (d : Val) (w : World) (hn : name.size ≤ 140737488351232) (hg : w.heap[g]? = some (.cells #[.string name, .int .i64 c.k, .int .i64 c.i, .int .i64 c.s, .string c.t, .slice c.la c.ll c.lc, .slice c.fa c.fl c.fc] 95)) (hd : IsVal (· < w.heap.size) w c d) (hnull : isNullB c.k c.i c.s c.t c.ll c.fl = false) : Calls Tryz.prog 59 #[.slice (some ⟨g, 0, none⟩) 1 cg] w (ClonePost w (.mk 9 0 0 ⟨#[]⟩ [] [name] [d])) := by
  obtain ⟨tf, hif, hzf0, hzf1, hzf2⟩ := info_parts infoField
  have HU := hid (show Below w.heap.size w (((w.alloc (.cells #[.int .i64 0, .int .i64 0, .int .i64 0, .string ⟨#[]⟩, .slice none 0 0, .slice none 0 0] 43)).alloc (.cells #[.int .i64 9, .int .i64 0, .int .i64 0, .string ⟨#[]⟩, .slice none 0 0, .slice none 0 0] 43)).alloc (.cells #[.string name, .int .i64 c.k, .int .i64 c.i, .int .i64 c.s, .string c.t, .slice c.la c.ll c.lc, .slice c.fa c.fl c.fc] 95)) from (((Below.refl _ w).alloc (Nat.le_refl _) _).alloc (by simp) _).alloc (by simp; omega) _)
  have HZ := hid (show (((w.alloc (.cells #[.int .i64 0, .int .i64 0, .int .i64 0, .string ⟨#[]⟩, .slice none 0 0, .slice none 0 0] 43)).alloc (.cells #[.int .i64 9, .int .i64 0, .int .i64 0, .string ⟨#[]⟩, .slice none 0 0, .slice none 0 0] 43)).alloc (.cells #[.string name, .int .i64 c.k, .int .i64 c.i, .int .i64 c.s, .string c.t, .slice c.la c.ll c.lc, .slice c.fa c.fl c.fc] 95)).heap[w.heap.size]? = some (.cells #[.int .i64 0, .int .i64 0, .int .i64 0, .string ⟨#[]⟩, .slice none 0 0, .slice none 0 0] 43) from heapAlloc _ (heapAlloc _ (heap_alloc_new w _)))
  have HN := hid (show (((w.alloc (.cells #[.int .i64 0, .int .i64 0, .int .i64 0, .string ⟨#[]⟩, .slice none 0 0, .slice none 0 0] 43)).alloc (.cells #[.int .i64 9, .int .i64 0, .int .i64 0, .string ⟨#[]⟩, .slice none 0 0, .slice none 0 0] 43)).alloc (.cells #[.string name, .int .i64 c.k, .int .i64 c.i, .int .i64 c.s, .string c.t, .slice c.la c.ll c.lc, .slice c.fa c.fl c.fc] 95)).heap[w.heap.size + 1]? = some (.cells #[.int .i64 9, .int .i64 0, .int .i64 0, .string ⟨#[]⟩, .slice none 0 0, .slice none 0 0] 43) from heapAlloc _ (heapNewAt _ _ _ (by simp)))
  have HX := hid (show (((w.alloc (.cells #[.int .i64 0, .int .i64 0, .int .i64 0, .string ⟨#[]⟩, .slice none 0 0, .slice none 0 0] 43)).alloc (.cells #[.int .i64 9, .int .i64 0, .int .i64 0, .string ⟨#[]⟩, .slice none 0 0, .slice none 0 0] 43)).alloc (.cells #[.string name, .int .i64 c.k, .int .i64 c.i, .int .i64 c.s, .string c.t, .slice c.la c.ll c.lc, .slice c.fa c.fl c.fc] 95)).heap[w.heap.size + 2]? = some (.cells #[.string name, .int .i64 c.k, .int .i64 c.i, .int .i64 c.s, .string c.t, .slice c.la c.ll c.lc, .slice c.fa c.fl c.fc] 95) from heapNewAt _ _ _ (by simp))
  have hI := isNull_call c.k c.i c.s c.t c.la c.ll c.lc c.fa c.fl c.fc (((w.alloc (.cells #[.int .i64 0, .int .i64 0, .int .i64 0, .string ⟨#[]⟩, .slice none 0 0, .slice none 0 0] 43)).alloc (.cells #[.int .i64 9, .int .i64 0, .int .i64 0, .string ⟨#[]⟩, .slice none 0 0, .slice none 0 0] 43)).alloc (.cells #[.string name, .int .i64 c.k, .int .i64 c.i, .int .i64 c.s, .string c.t, .slice c.la c.ll c.lc, .slice c.fa c.fl c.fc] 95))
  rw [hnull] at hI
  have HIS := hid hI
  have hg0 : (((w.alloc (.cells #[.int .i64 0, .int .i64 0, .int .i64 0, .string ⟨#[]⟩, .slice none 0 0, .slice none 0 0] 43)).alloc (.cells #[.int .i64 9, .int .i64 0, .int .i64 0, .string ⟨#[]⟩, .slice none 0 0, .slice none 0 0] 43))).heap[g]? = some (.cells #[.string name, .int .i64 c.k, .int .i64 c.i, .int .i64 c.s, .string c.t, .slice c.la c.ll c.lc, .slice c.fa c.fl c.fc] 95) := heapAlloc _ (heapAlloc _ hg)
  have y0 := cellOf hg0 0; have y1 := cellOf hg0 1; have y2 := cellOf hg0 2; have y3 := cellOf hg0 3; have y4 := cellOf hg0 4; have y5 := cellOf hg0 5; have y6 := cellOf hg0 6
  (try dsimp only at y0 y1 y2 y3 y4 y5 y6)
  have HD := hid hd
  have HNS := hid hn
  have HGG := hid hg
  clear hg0 hI hg hd hnull hn
  go_enter Tryz.func59, Tryz.ntmps59
  go_wp2
  go_loopw [10] (fun i wr => ∃ s : Bool, (s = false ∧ i = .int .i64 0 ∧ wr = (w.alloc (.cells #[.int .i64 0, .int .i64 0, .int .i64 0, .string ⟨#[]⟩, .slice none 0 0, .slice none 0 0] 43)).alloc (.cells #[.int .i64 9, .int .i64 0, .int .i64 0, .string ⟨#[]⟩, .slice none 0 0, .slice none 0 0] 43)) ∨ (s = true ∧ i = .int .i64 1 ∧ Below w.heap.size w wr ∧ wr.heap[w.heap.size]? = some (.cells #[.int .i64 0, .int .i64 0, .int .i64 0, .string ⟨#[]⟩, .slice none 0 0, .slice none 0 0] 43) ∧ ∃ fa fc, wr.heap[w.heap.size + 1]? = some (.cells #[.int .i64 9, .int .i64 0, .int .i64 0, .string ⟨#[]⟩, .slice none 0 0, .slice fa 1 fc] 43) ∧ IsVal (· < wr.heap.size) wr ⟨9, 0, 0, ⟨#[]⟩, none, 0, 0, fa, 1, fc⟩ (.mk 9 0 0 ⟨#[]⟩ [] [name] [d]))) (fun i _ => 1 - (intOf i).toNat)
  case atStart => exact ⟨false, .inl ⟨rfl, rfl, rfl⟩⟩
  case round =>
  obtain ⟨s, hrel⟩ := hrel
  rcases hrel with ⟨rfl, rfl, rfl⟩ | ⟨rfl, rfl, hu, hz, fa, fc, hnn, hv⟩
  · skip
    go_wp2_with (first
      | (at_builtin; go_loud (refine wpList_append_lies _ (by rfl) _ _ 41 (by rfl) w3.heap.size 95 tf _ 7 104 Tryz.underlying41 hif hzf0 hzf1 hzf2 rfl (by omega) (.slice none 0 0) 0 [] (by rfl) (World.ownsRow_nil _ _ _ _) ⟨w3.heap.size, 0, none⟩ 1 1 [.string name, .int .i64 c.k, .int .i64 c.i, .int .i64 c.s, .string c.t, .slice c.la c.ll c.lc, .slice c.fa c.fl c.fc] (by rfl) (by rfl) (World.news_of_block (heap_alloc_new w3 _)) (by simp [Value.oneCell']) (by omega) (by unfold maxLen; omega) (by omega) (by simp) (w3.heap.size + 1) (by simp) ?_); intro gg cap5 w5 hown2 hgrow hat hlt2; have HO2 := hid hown2; have HG := hid hgrow; have HAT := hid hat; have z5 := cellOf (heapGrown hgrow (heapAlloc (.cells #[.string name, .int .i64 c.k, .int .i64 c.i, .int .i64 c.s, .string c.t, .slice c.la c.ll c.lc, .slice c.fa c.fl c.fc] 95) (heapExt HB3.out HN.out)) (fun e => by cases e)) 5; have zf5 := freeOf (heapGrown hgrow (heapAlloc (.cells #[.string name, .int .i64 c.k, .int .i64 c.i, .int .i64 c.s, .string c.t, .slice c.la c.ll c.lc, .slice c.fa c.fl c.fc] 95) (heapExt HB3.out HN.out)) (fun e => by cases e)) 5; (try dsimp only at z5 zf5); clear hown2 hgrow hat hlt2 m5)
      | (go_at_call 121; refine (hasF0_call _ _ _ _).mono ?_; rintro e w' ⟨rfl, rfl⟩)
      | (go_at_call 96; refine HIS.out.mono ?_; rintro e w3 ⟨rfl, hb3⟩; have HB3 := hid hb3; have m5 := cellOf (heapExt hb3 HN.out) 5; have x0 := cellOf (heapExt hb3 HX.out) 0; have x1 := cellOf (heapExt hb3 HX.out) 1; have x2 := cellOf (heapExt hb3 HX.out) 2; have x3 := cellOf (heapExt hb3 HX.out) 3; have x4 := cellOf (heapExt hb3 HX.out) 4; have x5 := cellOf (heapExt hb3 HX.out) 5; have x6 := cellOf (heapExt hb3 HX.out) 6; (try dsimp only at m5 x0 x1 x2 x3 x4 x5 x6); clear hb3))
    go_roundw
    case rel =>
      have hgg : gg = w3.heap.size + 1 := by
        rcases HAT.out with h | h
        · cases h
        · exact h
      have hs3 := HB3.out.size
      have hsz : ((((w.alloc (.cells #[.int .i64 0, .int .i64 0, .int .i64 0, .string ⟨#[]⟩, .slice none 0 0, .slice none 0 0] 43)).alloc (.cells #[.int .i64 9, .int .i64 0, .int .i64 0, .string ⟨#[]⟩, .slice none 0 0, .slice none 0 0] 43)).alloc (.cells #[.string name, .int .i64 c.k, .int .i64 c.i, .int .i64 c.s, .string c.t, .slice c.la c.ll c.lc, .slice c.fa c.fl c.fc] 95))).heap.size = w.heap.size + 3 := by simp
      have hs5 := HG.out.size
      simp only [World.size_alloc] at hs5
      have hcap : 1 ≤ cap5 := by
        rcases HO2.out.2 with h | ⟨_, _, _, e, _, _, h, _⟩
        · cases h.1
        · injection e with e1 e2 e3; omega
      have hcel := HO2.out.cells (g := gg) rfl
      have hadd : ∀ t, ((⟨gg, 0, none⟩ : Addr).add t) = ⟨gg, t, none⟩ := fun t => by unfold Addr.add; split <;> simp_all
      have hB5 : Below w.heap.size w w5 := (((HU.out.trans (HB3.out.mono HU.out.size)).alloc (by omega) _).grown HG.out (by simp; omega) (fun r e => by cases e))
      have hst : ∀ b, b ≠ w.heap.size + 1 → (w5.setCell ⟨w.heap.size + 1, 5, none⟩ (.slice (some ⟨gg, 0, none⟩) 1 cap5)).heap[b]? = w5.heap[b]? := fun b hb => Below.heap_setCell _ _ _ _ hb
      have hZ5 := heapGrown HG.out (heapAlloc (.cells #[.string name, .int .i64 c.k, .int .i64 c.i, .int .i64 c.s, .string c.t, .slice c.la c.ll c.lc, .slice c.fa c.fl c.fc] 95) (heapExt HB3.out HZ.out)) (fun e => by cases e)
      have hN5 := heapGrown HG.out (heapAlloc (.cells #[.string name, .int .i64 c.k, .int .i64 c.i, .int .i64 c.s, .string c.t, .slice c.la c.ll c.lc, .slice c.fa c.fl c.fc] 95) (heapExt HB3.out HN.out)) (fun e => by cases e)
      have hN6 := heapSet (o := 5) (.slice (some ⟨gg, 0, none⟩) 1 cap5) hN5
      simp only [List.setIfInBounds_toArray, List.set_cons_zero, List.set_cons_succ] at hN6
      have hcW : ∀ t u, ([.string name, .int .i64 c.k, .int .i64 c.i, .int .i64 c.s, .string c.t, .slice c.la c.ll c.lc, .slice c.fa c.fl c.fc] : List Value)[t]? = some u → (w5.setCell ⟨w.heap.size + 1, 5, none⟩ (.slice (some ⟨gg, 0, none⟩) 1 cap5)).cell? ⟨gg, t, none⟩ = some u := fun t u hu => by
        rw [World.cell?_of_block (w := w5) (hst gg (by omega)), ← hadd]
        exact hcel t u hu
      refine ⟨true, .inr ⟨rfl, rfl, hB5.setCell (p := ⟨w.heap.size + 1, 5, none⟩) (by dsimp only; omega) _, (hst _ (by omega)).trans hZ5, some ⟨gg, 0, none⟩, cap5, hN6, ?_⟩⟩
      refine ⟨⟨rfl, rfl, rfl, rfl, okR _ _ _ (Nat.le_refl _) hcap, rfl, rfl, rfl⟩, .inl rfl, .inr ⟨gg, 0, rfl, World.block_lt_of_cell? _ _ (hcW 0 _ rfl), ?_⟩⟩
      refine ⟨⟨⟨hcW 0 _ rfl, HNS.out⟩, c, ⟨hcW 1 _ rfl, hcW 2 _ rfl, hcW 3 _ rfl, hcW 4 _ rfl, hcW 5 _ rfl, hcW 6 _ rfl⟩, ?_⟩, trivial⟩
      exact HD.out.same fun b q => ⟨by have := hB5.size; simp [World.setCell]; omega, (hst b (by omega)).trans (hB5.block b q)⟩
    case measure => simp [intOf]
  · have HCL := hid (clone_call hv)
    have HUR := hid hu
    have m0 := cellOf hnn 0; have m1 := cellOf hnn 1; have m2 := cellOf hnn 2; have m3 := cellOf hnn 3; have m4 := cellOf hnn 4; have m5 := cellOf hnn 5
    (try dsimp only at m0 m1 m2 m3 m4 m5)
    have HZR := hid hz
    clear hv hnn hu hz
    go_wp2_with (first
      | (go_at_call 123; refine (sortF1_call _ _ _ _).mono ?_; rintro e w' ⟨rfl, rfl⟩)
      | (go_at_call 126; refine HCL.out.mono ?_; rintro e w4 ⟨c', rfl, hb4, hi4⟩; have HB4 := hid hb4; have HI4 := hid hi4; have g4 := heapExt hb4 HZR.out; have z0 := cellOf g4 0; have zf0 := freeOf g4 0; have z1 := cellOf g4 1; have zf1 := freeOf g4 1; have z2 := cellOf g4 2; have zf2 := freeOf g4 2; have z3 := cellOf g4 3; have zf3 := freeOf g4 3; have z4 := cellOf g4 4; have zf4 := freeOf g4 4; have z5 := cellOf g4 5; have zf5 := freeOf g4 5; (try dsimp only at z0 z1 z2 z3 z4 z5); have HG4 := hid g4; clear hb4 hi4 g4))
    clear z0 zf0 z1 zf1 z2 zf2 z3 zf3 z4 zf4 z5 zf5
    have h1 := (heapSet (o := 5) (.slice c'.fa c'.fl c'.fc) (heapSet (o := 4) (.slice c'.la c'.ll c'.lc) (heapSet (o := 3) (.string c'.t) (heapSet (o := 2) (.int .i64 c'.s) (heapSet (o := 1) (.int .i64 c'.i) (heapSet (o := 0) (.int .i64 c'.k) HG4.out))))))
    simp only [List.setIfInBounds_toArray, List.set_cons_zero, List.set_cons_succ] at h1
    have hO : ∀ b, b ≠ w.heap.size → ((((((w4.setCell ⟨w.heap.size, 0, none⟩ (.int .i64 c'.k)).setCell ⟨w.heap.size, 1, none⟩ (.int .i64 c'.i)).setCell ⟨w.heap.size, 2, none⟩ (.int .i64 c'.s)).setCell ⟨w.heap.size, 3, none⟩ (.string c'.t)).setCell ⟨w.heap.size, 4, none⟩ (.slice c'.la c'.ll c'.lc)).setCell ⟨w.heap.size, 5, none⟩ (.slice c'.fa c'.fl c'.fc)).heap[b]? = w4.heap[b]? := fun b hb => (Below.heap_setCell _ _ _ _ hb).trans ((Below.heap_setCell _ _ _ _ hb).trans ((Below.heap_setCell _ _ _ _ hb).trans ((Below.heap_setCell _ _ _ _ hb).trans ((Below.heap_setCell _ _ _ _ hb).trans (Below.heap_setCell _ _ _ _ hb)))))
    have hS : ((((((w4.setCell ⟨w.heap.size, 0, none⟩ (.int .i64 c'.k)).setCell ⟨w.heap.size, 1, none⟩ (.int .i64 c'.i)).setCell ⟨w.heap.size, 2, none⟩ (.int .i64 c'.s)).setCell ⟨w.heap.size, 3, none⟩ (.string c'.t)).setCell ⟨w.heap.size, 4, none⟩ (.slice c'.la c'.ll c'.lc)).setCell ⟨w.heap.size, 5, none⟩ (.slice c'.fa c'.fl c'.fc)).heap.size = w4.heap.size := by simp [World.setCell]
    have hB : Below w.heap.size w ((((((w4.setCell ⟨w.heap.size, 0, none⟩ (.int .i64 c'.k)).setCell ⟨w.heap.size, 1, none⟩ (.int .i64 c'.i)).setCell ⟨w.heap.size, 2, none⟩ (.int .i64 c'.s)).setCell ⟨w.heap.size, 3, none⟩ (.string c'.t)).setCell ⟨w.heap.size, 4, none⟩ (.slice c'.la c'.ll c'.lc)).setCell ⟨w.heap.size, 5, none⟩ (.slice c'.fa c'.fl c'.fc)) := ((((((HUR.out.trans (HB4.out.mono HUR.out.size)).setCell (p := ⟨w.heap.size, 0, none⟩) (Nat.le_refl _) _).setCell (p := ⟨w.heap.size, 1, none⟩) (Nat.le_refl _) _).setCell (p := ⟨w.heap.size, 2, none⟩) (Nat.le_refl _) _).setCell (p := ⟨w.heap.size, 3, none⟩) (Nat.le_refl _) _).setCell (p := ⟨w.heap.size, 4, none⟩) (Nat.le_refl _) _).setCell (p := ⟨w.heap.size, 5, none⟩) (Nat.le_refl _) _
    have hlt := ltOf HZR.out
    exact bodyPost_ret (v := VC.v c') (by simp [results, Tryz.results59, go_sem, cellOf h1]) rfl ⟨c', rfl, hB, HI4.out.same fun b q => ⟨⟨by omega, by rw [hS]; exact q.2⟩, hO b (by omega)⟩⟩
end Go.Proofs.YtkljbfaemahchaaGreatDoor
