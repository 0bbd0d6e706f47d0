/-
  slices.SortFunc over fields by their names, where there is one at most, and slices.ContainsFunc where there is none: nothing is moved. No conditions.
-/
import Derived.Test.YtcejackabdmpkaaGreatDoorG1Mrg
import Derived.Test.YtcejackabdmpkaaGreatDoorProg
import Derived.Tactics
import Derived.Tactics2
import Derived.Test.YtcejackabdmpkaaGreatDoorCloneMrg
import Derived.Test.YtcejackabdmpkaaGreatDoorG3Mrg
import Derived.Test.YtcejackabdmpkaaGreatDoorG4Mrg
import Derived.Lib.ItoaMem
namespace Go.Proofs.YtcejackabdmpkaaGreatDoor
open Go Go.RowKit
set_option linter.unusedVariables false
set_option linter.unusedSimpArgs false

def LenPost (w : World) (e : Ending) (w' : World) : Prop := ∃ k : Int, e = .returned (.int .i64 k) ∧ w = w'
set_option maxRecDepth 100000 in
theorem len64_0 (w : World) : Calls Tryz.prog 138 #[.int .u64 0] w (LenPost w) := by
  go_enter Tryz.func138, Tryz.ntmps138
  go_wp2
  go_ret
  exact ⟨_, rfl, rfl⟩
set_option maxRecDepth 100000 in
theorem len64_1 (w : World) : Calls Tryz.prog 138 #[.int .u64 1] w (LenPost w) := by
  go_enter Tryz.func138, Tryz.ntmps138
  go_wp2
  go_ret
  exact ⟨_, rfl, rfl⟩
theorem len_0 (w : World) : Calls Tryz.prog 106 #[.int .u64 0] w (LenPost w) := by
  go_enter Tryz.func106, Tryz.ntmps106
  go_wp2_with (go_at_call 138; refine (len64_0 _).mono ?_; rintro e w' ⟨k, rfl, rfl⟩)
  go_ret
  exact ⟨k, rfl, rfl⟩
theorem len_1 (w : World) : Calls Tryz.prog 106 #[.int .u64 1] w (LenPost w) := by
  go_enter Tryz.func106, Tryz.ntmps106
  go_wp2_with (go_at_call 138; refine (len64_1 _).mono ?_; rintro e w' ⟨k, rfl, rfl⟩)
  go_ret
  exact ⟨k, rfl, rfl⟩
set_option maxRecDepth 100000 in
theorem insF_call (a : Option Addr) (n c : Nat) (v : Value) (w : World) (hn : n ≤ 1) : Calls Tryz.prog 149 #[.slice a n c, .int .i64 0, .int .i64 n, v] w fun e w' => e = .returned (.tuple #[]) ∧ w = w' := by
  have h1 : ¬ (1 : Int) < (n : Int) := by omega
  go_enter Tryz.func149, Tryz.ntmps149
  go_wp2
  go_loopw [8] (fun i wr => i = .int .i64 1 ∧ wr = w) (fun _ _ => 0)
  case atStart => exact ⟨rfl, rfl⟩
  case round =>
    obtain ⟨rfl, rfl⟩ := hrel
    go_wp2
    go_end0
    exact ⟨rfl, rfl⟩
set_option maxRecDepth 100000 in
theorem pdqF_call (a : Option Addr) (n c : Nat) (k : Int) (v : Value) (w : World) (hn : n ≤ 1) : Calls Tryz.prog 118 #[.slice a n c, .int .i64 0, .int .i64 n, .int .i64 k, v] w fun e w' => e = .returned (.tuple #[]) ∧ w = w' := by
  have h1 : (n : Int) ≤ 12 := by omega
  have HI := hid (insF_call a n c v w hn)
  go_enter Tryz.func118, Tryz.ntmps118
  go_wp2
  go_loopw [1, 2] (fun p q wr => p = .int .i64 0 ∧ q = .int .i64 n ∧ wr = w) (fun _ _ _ => 0)
  case atStart => exact ⟨rfl, rfl, rfl⟩
  case round =>
    obtain ⟨rfl, rfl, rfl⟩ := hrel
    go_wp2_with (go_at_call 149; refine HI.out.mono ?_; rintro e w' ⟨rfl, rfl⟩)
    (try simp only [Exit.inBlock, Exit.then])
    refine bodyPost_ret (results_none rfl _ _ _) rfl ?_
    exact ⟨rfl, rfl⟩
theorem sortF0_call (a : Option Addr) (c : Nat) (v : Value) (w : World) : Calls Tryz.prog 86 #[.slice a 0 c, v] w fun e w' => e = .returned (.tuple #[]) ∧ w = w' := by
  have HP := hid (fun k => pdqF_call a 0 c k v w (by omega))
  go_enter Tryz.func86, Tryz.ntmps86
  go_wp2_with (first
    | (go_at_call 106; refine (len_0 _).mono ?_; rintro e w' ⟨k, rfl, rfl⟩)
    | (go_at_call 118; refine (HP.out _).mono ?_; rintro e w' ⟨rfl, rfl⟩))
  go_end0
  exact ⟨rfl, rfl⟩
theorem sortF1_call (a : Option Addr) (c : Nat) (v : Value) (w : World) : Calls Tryz.prog 86 #[.slice a 1 c, v] w fun e w' => e = .returned (.tuple #[]) ∧ w = w' := by
  have HP := hid (fun k => pdqF_call a 1 c k v w (by omega))
  go_enter Tryz.func86, Tryz.ntmps86
  go_wp2_with (first
    | (go_at_call 106; refine (len_1 _).mono ?_; rintro e w' ⟨k, rfl, rfl⟩)
    | (go_at_call 118; refine (HP.out _).mono ?_; rintro e w' ⟨rfl, rfl⟩))
  go_end0
  exact ⟨rfl, rfl⟩
set_option maxRecDepth 100000 in
theorem idxF0_call (a : Option Addr) (c : Nat) (v : Value) (w : World) : Calls Tryz.prog 117 #[.slice a 0 c, v] w fun e w' => e = .returned (.int .i64 (-1)) ∧ w = w' := by
  go_enter Tryz.func117, Tryz.ntmps117
  go_wp2
  go_loopw [8] (fun i wr => i = .int .i64 0 ∧ wr = w) (fun _ _ => 0)
  case atStart => exact ⟨rfl, rfl⟩
  case round =>
    obtain ⟨rfl, rfl⟩ := hrel
    go_wp2
    go_ret
    exact ⟨rfl, rfl⟩
theorem hasF0_call (a : Option Addr) (c : Nat) (v : Value) (w : World) : Calls Tryz.prog 84 #[.slice a 0 c, v] w fun e w' => e = .returned (.bool false) ∧ w = w' := by
  go_enter Tryz.func84, Tryz.ntmps84
  go_wp2_with (go_at_call 117; refine (idxF0_call _ _ _ _).mono ?_; rintro e w' ⟨rfl, rfl⟩)
  go_ret
  exact ⟨rfl, rfl⟩
end Go.Proofs.YtcejackabdmpkaaGreatDoor

/-
  value.Record of one field. Conditions: the field lies in a block; its value can be read as data.
-/
namespace Go.Proofs.YtcejackabdmpkaaGreatDoor
open Go Go.RowKit
set_option linter.unusedVariables false
set_option linter.unusedSimpArgs false

theorem okR (fa : Option Addr) (fl fc : Nat) (h : fl ≤ 1) (h2 : fl ≤ fc) : VC.ok ⟨9, 0, 0, ⟨#[]⟩, none, 0, 0, fa, fl, fc⟩ := ⟨(show I64 9 from ⟨by decide, by decide⟩), (show I64 0 from ⟨by decide, by decide⟩), (show I64 0 from ⟨by decide, by decide⟩), (show (⟨#[]⟩ : ByteArray).size ≤ 140737488351232 by decide), (show 0 * 88 ≤ 140737488351232 by decide), (show fl * 104 ≤ 140737488351232 by omega), (show 0 ≤ 0 by decide), h2⟩
set_option maxRecDepth 100000 in
set_option maxHeartbeats 4000000 in
theorem recN_call (g cg : Nat) (name : ByteArray) (c : VC) (d : Val) (w : World) (hn : name.size ≤ 140737488351232) (hg : w.heap[g]? = some (.cells #[.string name, .int .i64 c.k, .int .i64 c.i, .int .i64 c.s, .string c.t, .slice c.la c.ll c.lc, .slice c.fa c.fl c.fc] 30)) (hd : IsVal (· < w.heap.size) w c d) (hnull : isNullB c.k c.i c.s c.t c.ll c.fl = true) : Calls Tryz.prog 42 #[.slice (some ⟨g, 0, none⟩) 1 cg] w (ClonePost w (.mk 9 0 0 ⟨#[]⟩ [] [] [])) := by
  obtain ⟨tf, hif, hzf0, hzf1, hzf2⟩ := info_parts infoField
  have HU := hid (show Below w.heap.size w (((w.alloc (.cells #[.int .i64 0, .int .i64 0, .int .i64 0, .string ⟨#[]⟩, .slice none 0 0, .slice none 0 0] 25)).alloc (.cells #[.int .i64 9, .int .i64 0, .int .i64 0, .string ⟨#[]⟩, .slice none 0 0, .slice none 0 0] 25)).alloc (.cells #[.string name, .int .i64 c.k, .int .i64 c.i, .int .i64 c.s, .string c.t, .slice c.la c.ll c.lc, .slice c.fa c.fl c.fc] 30)) from (((Below.refl _ w).alloc (Nat.le_refl _) _).alloc (by simp) _).alloc (by simp; omega) _)
  have HZ := hid (show (((w.alloc (.cells #[.int .i64 0, .int .i64 0, .int .i64 0, .string ⟨#[]⟩, .slice none 0 0, .slice none 0 0] 25)).alloc (.cells #[.int .i64 9, .int .i64 0, .int .i64 0, .string ⟨#[]⟩, .slice none 0 0, .slice none 0 0] 25)).alloc (.cells #[.string name, .int .i64 c.k, .int .i64 c.i, .int .i64 c.s, .string c.t, .slice c.la c.ll c.lc, .slice c.fa c.fl c.fc] 30)).heap[w.heap.size]? = some (.cells #[.int .i64 0, .int .i64 0, .int .i64 0, .string ⟨#[]⟩, .slice none 0 0, .slice none 0 0] 25) from heapAlloc _ (heapAlloc _ (heap_alloc_new w _)))
  have HN := hid (show (((w.alloc (.cells #[.int .i64 0, .int .i64 0, .int .i64 0, .string ⟨#[]⟩, .slice none 0 0, .slice none 0 0] 25)).alloc (.cells #[.int .i64 9, .int .i64 0, .int .i64 0, .string ⟨#[]⟩, .slice none 0 0, .slice none 0 0] 25)).alloc (.cells #[.string name, .int .i64 c.k, .int .i64 c.i, .int .i64 c.s, .string c.t, .slice c.la c.ll c.lc, .slice c.fa c.fl c.fc] 30)).heap[w.heap.size + 1]? = some (.cells #[.int .i64 9, .int .i64 0, .int .i64 0, .string ⟨#[]⟩, .slice none 0 0, .slice none 0 0] 25) from heapAlloc _ (heapNewAt _ _ _ (by simp)))
  have HX := hid (show (((w.alloc (.cells #[.int .i64 0, .int .i64 0, .int .i64 0, .string ⟨#[]⟩, .slice none 0 0, .slice none 0 0] 25)).alloc (.cells #[.int .i64 9, .int .i64 0, .int .i64 0, .string ⟨#[]⟩, .slice none 0 0, .slice none 0 0] 25)).alloc (.cells #[.string name, .int .i64 c.k, .int .i64 c.i, .int .i64 c.s, .string c.t, .slice c.la c.ll c.lc, .slice c.fa c.fl c.fc] 30)).heap[w.heap.size + 2]? = some (.cells #[.string name, .int .i64 c.k, .int .i64 c.i, .int .i64 c.s, .string c.t, .slice c.la c.ll c.lc, .slice c.fa c.fl c.fc] 30) from heapNewAt _ _ _ (by simp))
  have hI := isNull_call c.k c.i c.s c.t c.la c.ll c.lc c.fa c.fl c.fc (((w.alloc (.cells #[.int .i64 0, .int .i64 0, .int .i64 0, .string ⟨#[]⟩, .slice none 0 0, .slice none 0 0] 25)).alloc (.cells #[.int .i64 9, .int .i64 0, .int .i64 0, .string ⟨#[]⟩, .slice none 0 0, .slice none 0 0] 25)).alloc (.cells #[.string name, .int .i64 c.k, .int .i64 c.i, .int .i64 c.s, .string c.t, .slice c.la c.ll c.lc, .slice c.fa c.fl c.fc] 30))
  rw [hnull] at hI
  have HIS := hid hI
  have hg0 : (((w.alloc (.cells #[.int .i64 0, .int .i64 0, .int .i64 0, .string ⟨#[]⟩, .slice none 0 0, .slice none 0 0] 25)).alloc (.cells #[.int .i64 9, .int .i64 0, .int .i64 0, .string ⟨#[]⟩, .slice none 0 0, .slice none 0 0] 25))).heap[g]? = some (.cells #[.string name, .int .i64 c.k, .int .i64 c.i, .int .i64 c.s, .string c.t, .slice c.la c.ll c.lc, .slice c.fa c.fl c.fc] 30) := heapAlloc _ (heapAlloc _ hg)
  have y0 := cellOf hg0 0; have y1 := cellOf hg0 1; have y2 := cellOf hg0 2; have y3 := cellOf hg0 3; have y4 := cellOf hg0 4; have y5 := cellOf hg0 5; have y6 := cellOf hg0 6
  (try dsimp only at y0 y1 y2 y3 y4 y5 y6)
  have HD := hid hd
  have HNS := hid hn
  have HGG := hid hg
  clear hg0 hI hg hd hnull hn
  go_enter Tryz.func42, Tryz.ntmps42
  go_wp2
  go_loopw [10] (fun i wr => ∃ s : Bool, (s = false ∧ i = .int .i64 0 ∧ wr = (w.alloc (.cells #[.int .i64 0, .int .i64 0, .int .i64 0, .string ⟨#[]⟩, .slice none 0 0, .slice none 0 0] 25)).alloc (.cells #[.int .i64 9, .int .i64 0, .int .i64 0, .string ⟨#[]⟩, .slice none 0 0, .slice none 0 0] 25)) ∨ (s = true ∧ i = .int .i64 1 ∧ Below w.heap.size w wr ∧ wr.heap[w.heap.size]? = some (.cells #[.int .i64 0, .int .i64 0, .int .i64 0, .string ⟨#[]⟩, .slice none 0 0, .slice none 0 0] 25) ∧ ∃ fa fc, wr.heap[w.heap.size + 1]? = some (.cells #[.int .i64 9, .int .i64 0, .int .i64 0, .string ⟨#[]⟩, .slice none 0 0, .slice fa 0 fc] 25) ∧ IsVal (· < wr.heap.size) wr ⟨9, 0, 0, ⟨#[]⟩, none, 0, 0, fa, 0, fc⟩ (.mk 9 0 0 ⟨#[]⟩ [] [] []))) (fun i _ => 1 - (intOf i).toNat)
  case atStart => exact ⟨false, .inl ⟨rfl, rfl, rfl⟩⟩
  case round =>
  obtain ⟨s, hrel⟩ := hrel
  rcases hrel with ⟨rfl, rfl, rfl⟩ | ⟨rfl, rfl, hu, hz, fa, fc, hnn, hv⟩
  · skip
    go_wp2_with (first
      | (go_at_call 84; refine (hasF0_call _ _ _ _).mono ?_; rintro e w' ⟨rfl, rfl⟩)
      | (go_at_call 12; refine HIS.out.mono ?_; rintro e w3 ⟨rfl, hb3⟩; have HB3 := hid hb3; clear hb3))
    go_roundw
    case rel =>
      refine ⟨true, .inr ⟨rfl, rfl, HU.out.trans (HB3.out.mono HU.out.size), heapExt HB3.out HZ.out, none, 0, heapExt HB3.out HN.out, ?_⟩⟩
      exact ⟨⟨rfl, rfl, rfl, rfl, okR _ _ _ (by omega) (by omega), rfl, rfl, rfl⟩, .inl rfl, .inl rfl⟩
    case measure => simp [intOf]
  · have HCL := hid (clone_call hv)
    have HUR := hid hu
    have m0 := cellOf hnn 0; have m1 := cellOf hnn 1; have m2 := cellOf hnn 2; have m3 := cellOf hnn 3; have m4 := cellOf hnn 4; have m5 := cellOf hnn 5
    (try dsimp only at m0 m1 m2 m3 m4 m5)
    have HZR := hid hz
    clear hv hnn hu hz
    go_wp2_with (first
      | (go_at_call 86; refine (sortF0_call _ _ _ _).mono ?_; rintro e w' ⟨rfl, rfl⟩)
      | (go_at_call 43; refine HCL.out.mono ?_; rintro e w4 ⟨c', rfl, hb4, hi4⟩; have HB4 := hid hb4; have HI4 := hid hi4; have g4 := heapExt hb4 HZR.out; have z0 := cellOf g4 0; have zf0 := freeOf g4 0; have z1 := cellOf g4 1; have zf1 := freeOf g4 1; have z2 := cellOf g4 2; have zf2 := freeOf g4 2; have z3 := cellOf g4 3; have zf3 := freeOf g4 3; have z4 := cellOf g4 4; have zf4 := freeOf g4 4; have z5 := cellOf g4 5; have zf5 := freeOf g4 5; (try dsimp only at z0 z1 z2 z3 z4 z5); have HG4 := hid g4; clear hb4 hi4 g4))
    clear z0 zf0 z1 zf1 z2 zf2 z3 zf3 z4 zf4 z5 zf5
    have h1 := (heapSet (o := 5) (.slice c'.fa c'.fl c'.fc) (heapSet (o := 4) (.slice c'.la c'.ll c'.lc) (heapSet (o := 3) (.string c'.t) (heapSet (o := 2) (.int .i64 c'.s) (heapSet (o := 1) (.int .i64 c'.i) (heapSet (o := 0) (.int .i64 c'.k) HG4.out))))))
    simp only [List.setIfInBounds_toArray, List.set_cons_zero, List.set_cons_succ] at h1
    have hO : ∀ b, b ≠ w.heap.size → ((((((w4.setCell ⟨w.heap.size, 0, none⟩ (.int .i64 c'.k)).setCell ⟨w.heap.size, 1, none⟩ (.int .i64 c'.i)).setCell ⟨w.heap.size, 2, none⟩ (.int .i64 c'.s)).setCell ⟨w.heap.size, 3, none⟩ (.string c'.t)).setCell ⟨w.heap.size, 4, none⟩ (.slice c'.la c'.ll c'.lc)).setCell ⟨w.heap.size, 5, none⟩ (.slice c'.fa c'.fl c'.fc)).heap[b]? = w4.heap[b]? := fun b hb => (Below.heap_setCell _ _ _ _ hb).trans ((Below.heap_setCell _ _ _ _ hb).trans ((Below.heap_setCell _ _ _ _ hb).trans ((Below.heap_setCell _ _ _ _ hb).trans ((Below.heap_setCell _ _ _ _ hb).trans (Below.heap_setCell _ _ _ _ hb)))))
    have hS : ((((((w4.setCell ⟨w.heap.size, 0, none⟩ (.int .i64 c'.k)).setCell ⟨w.heap.size, 1, none⟩ (.int .i64 c'.i)).setCell ⟨w.heap.size, 2, none⟩ (.int .i64 c'.s)).setCell ⟨w.heap.size, 3, none⟩ (.string c'.t)).setCell ⟨w.heap.size, 4, none⟩ (.slice c'.la c'.ll c'.lc)).setCell ⟨w.heap.size, 5, none⟩ (.slice c'.fa c'.fl c'.fc)).heap.size = w4.heap.size := by simp [World.setCell]
    have hB : Below w.heap.size w ((((((w4.setCell ⟨w.heap.size, 0, none⟩ (.int .i64 c'.k)).setCell ⟨w.heap.size, 1, none⟩ (.int .i64 c'.i)).setCell ⟨w.heap.size, 2, none⟩ (.int .i64 c'.s)).setCell ⟨w.heap.size, 3, none⟩ (.string c'.t)).setCell ⟨w.heap.size, 4, none⟩ (.slice c'.la c'.ll c'.lc)).setCell ⟨w.heap.size, 5, none⟩ (.slice c'.fa c'.fl c'.fc)) := ((((((HUR.out.trans (HB4.out.mono HUR.out.size)).setCell (p := ⟨w.heap.size, 0, none⟩) (Nat.le_refl _) _).setCell (p := ⟨w.heap.size, 1, none⟩) (Nat.le_refl _) _).setCell (p := ⟨w.heap.size, 2, none⟩) (Nat.le_refl _) _).setCell (p := ⟨w.heap.size, 3, none⟩) (Nat.le_refl _) _).setCell (p := ⟨w.heap.size, 4, none⟩) (Nat.le_refl _) _).setCell (p := ⟨w.heap.size, 5, none⟩) (Nat.le_refl _) _
    have hlt := ltOf HZR.out
    exact bodyPost_ret (v := VC.v c') (by simp [results, Tryz.results42, go_sem, cellOf h1]) rfl ⟨c', rfl, hB, HI4.out.same fun b q => ⟨⟨by omega, by rw [hS]; exact q.2⟩, hO b (by omega)⟩⟩
set_option maxRecDepth 100000 in
set_option maxHeartbeats 4000000 in
theorem recV_call (g cg : Nat) (name : ByteArray) (c : VC) (d : Val) (w : World) (hn : name.size ≤ 140737488351232) (hg : w.heap[g]? = some (.cells #[.string name, .int .i64 c.k, .int .i64 c.i, .int .i64 c.s, .string c.t, .slice c.la c.ll c.lc, .slice c.fa c.fl c.fc] 30)) (hd : IsVal (· < w.heap.size) w c d) (hnull : isNullB c.k c.i c.s c.t c.ll c.fl = false) : Calls Tryz.prog 42 #[.slice (some ⟨g, 0, none⟩) 1 cg] w (ClonePost w (.mk 9 0 0 ⟨#[]⟩ [] [name] [d])) := by
  obtain ⟨tf, hif, hzf0, hzf1, hzf2⟩ := info_parts infoField
  have HU := hid (show Below w.heap.size w (((w.alloc (.cells #[.int .i64 0, .int .i64 0, .int .i64 0, .string ⟨#[]⟩, .slice none 0 0, .slice none 0 0] 25)).alloc (.cells #[.int .i64 9, .int .i64 0, .int .i64 0, .string ⟨#[]⟩, .slice none 0 0, .slice none 0 0] 25)).alloc (.cells #[.string name, .int .i64 c.k, .int .i64 c.i, .int .i64 c.s, .string c.t, .slice c.la c.ll c.lc, .slice c.fa c.fl c.fc] 30)) from (((Below.refl _ w).alloc (Nat.le_refl _) _).alloc (by simp) _).alloc (by simp; omega) _)
  have HZ := hid (show (((w.alloc (.cells #[.int .i64 0, .int .i64 0, .int .i64 0, .string ⟨#[]⟩, .slice none 0 0, .slice none 0 0] 25)).alloc (.cells #[.int .i64 9, .int .i64 0, .int .i64 0, .string ⟨#[]⟩, .slice none 0 0, .slice none 0 0] 25)).alloc (.cells #[.string name, .int .i64 c.k, .int .i64 c.i, .int .i64 c.s, .string c.t, .slice c.la c.ll c.lc, .slice c.fa c.fl c.fc] 30)).heap[w.heap.size]? = some (.cells #[.int .i64 0, .int .i64 0, .int .i64 0, .string ⟨#[]⟩, .slice none 0 0, .slice none 0 0] 25) from heapAlloc _ (heapAlloc _ (heap_alloc_new w _)))
  have HN := hid (show (((w.alloc (.cells #[.int .i64 0, .int .i64 0, .int .i64 0, .string ⟨#[]⟩, .slice none 0 0, .slice none 0 0] 25)).alloc (.cells #[.int .i64 9, .int .i64 0, .int .i64 0, .string ⟨#[]⟩, .slice none 0 0, .slice none 0 0] 25)).alloc (.cells #[.string name, .int .i64 c.k, .int .i64 c.i, .int .i64 c.s, .string c.t, .slice c.la c.ll c.lc, .slice c.fa c.fl c.fc] 30)).heap[w.heap.size + 1]? = some (.cells #[.int .i64 9, .int .i64 0, .int .i64 0, .string ⟨#[]⟩, .slice none 0 0, .slice none 0 0] 25) from heapAlloc _ (heapNewAt _ _ _ (by simp)))
  have HX := hid (show (((w.alloc (.cells #[.int .i64 0, .int .i64 0, .int .i64 0, .string ⟨#[]⟩, .slice none 0 0, .slice none 0 0] 25)).alloc (.cells #[.int .i64 9, .int .i64 0, .int .i64 0, .string ⟨#[]⟩, .slice none 0 0, .slice none 0 0] 25)).alloc (.cells #[.string name, .int .i64 c.k, .int .i64 c.i, .int .i64 c.s, .string c.t, .slice c.la c.ll c.lc, .slice c.fa c.fl c.fc] 30)).heap[w.heap.size + 2]? = some (.cells #[.string name, .int .i64 c.k, .int .i64 c.i, .int .i64 c.s, .string c.t, .slice c.la c.ll c.lc, .slice c.fa c.fl c.fc] 30) from heapNewAt _ _ _ (by simp))
  have hI := isNull_call c.k c.i c.s c.t c.la c.ll c.lc c.fa c.fl c.fc (((w.alloc (.cells #[.int .i64 0, .int .i64 0, .int .i64 0, .string ⟨#[]⟩, .slice none 0 0, .slice none 0 0] 25)).alloc (.cells #[.int .i64 9, .int .i64 0, .int .i64 0, .string ⟨#[]⟩, .slice none 0 0, .slice none 0 0] 25)).alloc (.cells #[.string name, .int .i64 c.k, .int .i64 c.i, .int .i64 c.s, .string c.t, .slice c.la c.ll c.lc, .slice c.fa c.fl c.fc] 30))
  rw [hnull] at hI
  have HIS := hid hI
  have hg0 : (((w.alloc (.cells #[.int .i64 0, .int .i64 0, .int .i64 0, .string ⟨#[]⟩, .slice none 0 0, .slice none 0 0] 25)).alloc (.cells #[.int .i64 9, .int .i64 0, .int .i64 0, .string ⟨#[]⟩, .slice none 0 0, .slice none 0 0] 25))).heap[g]? = some (.cells #[.string name, .int .i64 c.k, .int .i64 c.i, .int .i64 c.s, .string c.t, .slice c.la c.ll c.lc, .slice c.fa c.fl c.fc] 30) := heapAlloc _ (heapAlloc _ hg)
  have y0 := cellOf hg0 0; have y1 := cellOf hg0 1; have y2 := cellOf hg0 2; have y3 := cellOf hg0 3; have y4 := cellOf hg0 4; have y5 := cellOf hg0 5; have y6 := cellOf hg0 6
  (try dsimp only at y0 y1 y2 y3 y4 y5 y6)
  have HD := hid hd
  have HNS := hid hn
  have HGG := hid hg
  clear hg0 hI hg hd hnull hn
  go_enter Tryz.func42, Tryz.ntmps42
  go_wp2
  go_loopw [10] (fun i wr => ∃ s : Bool, (s = false ∧ i = .int .i64 0 ∧ wr = (w.alloc (.cells #[.int .i64 0, .int .i64 0, .int .i64 0, .string ⟨#[]⟩, .slice none 0 0, .slice none 0 0] 25)).alloc (.cells #[.int .i64 9, .int .i64 0, .int .i64 0, .string ⟨#[]⟩, .slice none 0 0, .slice none 0 0] 25)) ∨ (s = true ∧ i = .int .i64 1 ∧ Below w.heap.size w wr ∧ wr.heap[w.heap.size]? = some (.cells #[.int .i64 0, .int .i64 0, .int .i64 0, .string ⟨#[]⟩, .slice none 0 0, .slice none 0 0] 25) ∧ ∃ fa fc, wr.heap[w.heap.size + 1]? = some (.cells #[.int .i64 9, .int .i64 0, .int .i64 0, .string ⟨#[]⟩, .slice none 0 0, .slice fa 1 fc] 25) ∧ IsVal (· < wr.heap.size) wr ⟨9, 0, 0, ⟨#[]⟩, none, 0, 0, fa, 1, fc⟩ (.mk 9 0 0 ⟨#[]⟩ [] [name] [d]))) (fun i _ => 1 - (intOf i).toNat)
  case atStart => exact ⟨false, .inl ⟨rfl, rfl, rfl⟩⟩
  case round =>
  obtain ⟨s, hrel⟩ := hrel
  rcases hrel with ⟨rfl, rfl, rfl⟩ | ⟨rfl, rfl, hu, hz, fa, fc, hnn, hv⟩
  · skip
    go_wp2_with (first
      | (at_builtin; go_loud (refine wpList_append_lies _ (by rfl) _ _ 23 (by rfl) w3.heap.size 30 tf _ 7 104 Tryz.underlying23 hif hzf0 hzf1 hzf2 rfl (by omega) (.slice none 0 0) 0 [] (by rfl) (World.ownsRow_nil _ _ _ _) ⟨w3.heap.size, 0, none⟩ 1 1 [.string name, .int .i64 c.k, .int .i64 c.i, .int .i64 c.s, .string c.t, .slice c.la c.ll c.lc, .slice c.fa c.fl c.fc] (by rfl) (by rfl) (World.news_of_block (heap_alloc_new w3 _)) (by simp [Value.oneCell']) (by omega) (by unfold maxLen; omega) (by omega) (by simp) (w3.heap.size + 1) (by simp) ?_); intro gg cap5 w5 hown2 hgrow hat hlt2; have HO2 := hid hown2; have HG := hid hgrow; have HAT := hid hat; have z5 := cellOf (heapGrown hgrow (heapAlloc (.cells #[.string name, .int .i64 c.k, .int .i64 c.i, .int .i64 c.s, .string c.t, .slice c.la c.ll c.lc, .slice c.fa c.fl c.fc] 30) (heapExt HB3.out HN.out)) (fun e => by cases e)) 5; have zf5 := freeOf (heapGrown hgrow (heapAlloc (.cells #[.string name, .int .i64 c.k, .int .i64 c.i, .int .i64 c.s, .string c.t, .slice c.la c.ll c.lc, .slice c.fa c.fl c.fc] 30) (heapExt HB3.out HN.out)) (fun e => by cases e)) 5; (try dsimp only at z5 zf5); clear hown2 hgrow hat hlt2 m5)
      | (go_at_call 84; refine (hasF0_call _ _ _ _).mono ?_; rintro e w' ⟨rfl, rfl⟩)
      | (go_at_call 12; refine HIS.out.mono ?_; rintro e w3 ⟨rfl, hb3⟩; have HB3 := hid hb3; have m5 := cellOf (heapExt hb3 HN.out) 5; have x0 := cellOf (heapExt hb3 HX.out) 0; have x1 := cellOf (heapExt hb3 HX.out) 1; have x2 := cellOf (heapExt hb3 HX.out) 2; have x3 := cellOf (heapExt hb3 HX.out) 3; have x4 := cellOf (heapExt hb3 HX.out) 4; have x5 := cellOf (heapExt hb3 HX.out) 5; have x6 := cellOf (heapExt hb3 HX.out) 6; (try dsimp only at m5 x0 x1 x2 x3 x4 x5 x6); clear hb3))
    go_roundw
    case rel =>
      have hgg : gg = w3.heap.size + 1 := by
        rcases HAT.out with h | h
        · cases h
        · exact h
      have hs3 := HB3.out.size
      have hsz : ((((w.alloc (.cells #[.int .i64 0, .int .i64 0, .int .i64 0, .string ⟨#[]⟩, .slice none 0 0, .slice none 0 0] 25)).alloc (.cells #[.int .i64 9, .int .i64 0, .int .i64 0, .string ⟨#[]⟩, .slice none 0 0, .slice none 0 0] 25)).alloc (.cells #[.string name, .int .i64 c.k, .int .i64 c.i, .int .i64 c.s, .string c.t, .slice c.la c.ll c.lc, .slice c.fa c.fl c.fc] 30))).heap.size = w.heap.size + 3 := by simp
      have hs5 := HG.out.size
      simp only [World.size_alloc] at hs5
      have hcap : 1 ≤ cap5 := by
        rcases HO2.out.2 with h | ⟨_, _, _, e, _, _, h, _⟩
        · cases h.1
        · injection e with e1 e2 e3; omega
      have hcel := HO2.out.cells (g := gg) rfl
      have hadd : ∀ t, ((⟨gg, 0, none⟩ : Addr).add t) = ⟨gg, t, none⟩ := fun t => by unfold Addr.add; split <;> simp_all
      have hB5 : Below w.heap.size w w5 := (((HU.out.trans (HB3.out.mono HU.out.size)).alloc (by omega) _).grown HG.out (by simp; omega) (fun r e => by cases e))
      have hst : ∀ b, b ≠ w.heap.size + 1 → (w5.setCell ⟨w.heap.size + 1, 5, none⟩ (.slice (some ⟨gg, 0, none⟩) 1 cap5)).heap[b]? = w5.heap[b]? := fun b hb => Below.heap_setCell _ _ _ _ hb
      have hZ5 := heapGrown HG.out (heapAlloc (.cells #[.string name, .int .i64 c.k, .int .i64 c.i, .int .i64 c.s, .string c.t, .slice c.la c.ll c.lc, .slice c.fa c.fl c.fc] 30) (heapExt HB3.out HZ.out)) (fun e => by cases e)
      have hN5 := heapGrown HG.out (heapAlloc (.cells #[.string name, .int .i64 c.k, .int .i64 c.i, .int .i64 c.s, .string c.t, .slice c.la c.ll c.lc, .slice c.fa c.fl c.fc] 30) (heapExt HB3.out HN.out)) (fun e => by cases e)
      have hN6 := heapSet (o := 5) (.slice (some ⟨gg, 0, none⟩) 1 cap5) hN5
      simp only [List.setIfInBounds_toArray, List.set_cons_zero, List.set_cons_succ] at hN6
      have hcW : ∀ t u, ([.string name, .int .i64 c.k, .int .i64 c.i, .int .i64 c.s, .string c.t, .slice c.la c.ll c.lc, .slice c.fa c.fl c.fc] : List Value)[t]? = some u → (w5.setCell ⟨w.heap.size + 1, 5, none⟩ (.slice (some ⟨gg, 0, none⟩) 1 cap5)).cell? ⟨gg, t, none⟩ = some u := fun t u hu => by
        rw [World.cell?_of_block (w := w5) (hst gg (by omega)), ← hadd]
        exact hcel t u hu
      refine ⟨true, .inr ⟨rfl, rfl, hB5.setCell (p := ⟨w.heap.size + 1, 5, none⟩) (by dsimp only; omega) _, (hst _ (by omega)).trans hZ5, some ⟨gg, 0, none⟩, cap5, hN6, ?_⟩⟩
      refine ⟨⟨rfl, rfl, rfl, rfl, okR _ _ _ (Nat.le_refl _) hcap, rfl, rfl, rfl⟩, .inl rfl, .inr ⟨gg, 0, rfl, World.block_lt_of_cell? _ _ (hcW 0 _ rfl), ?_⟩⟩
      refine ⟨⟨⟨hcW 0 _ rfl, HNS.out⟩, c, ⟨hcW 1 _ rfl, hcW 2 _ rfl, hcW 3 _ rfl, hcW 4 _ rfl, hcW 5 _ rfl, hcW 6 _ rfl⟩, ?_⟩, trivial⟩
      exact HD.out.same fun b q => ⟨by have := hB5.size; simp [World.setCell]; omega, (hst b (by omega)).trans (hB5.block b q)⟩
    case measure => simp [intOf]
  · have HCL := hid (clone_call hv)
    have HUR := hid hu
    have m0 := cellOf hnn 0; have m1 := cellOf hnn 1; have m2 := cellOf hnn 2; have m3 := cellOf hnn 3; have m4 := cellOf hnn 4; have m5 := cellOf hnn 5
    (try dsimp only at m0 m1 m2 m3 m4 m5)
    have HZR := hid hz
    clear hv hnn hu hz
    go_wp2_with (first
      | (go_at_call 86; refine (sortF1_call _ _ _ _).mono ?_; rintro e w' ⟨rfl, rfl⟩)
      | (go_at_call 43; refine HCL.out.mono ?_; rintro e w4 ⟨c', rfl, hb4, hi4⟩; have HB4 := hid hb4; have HI4 := hid hi4; have g4 := heapExt hb4 HZR.out; have z0 := cellOf g4 0; have zf0 := freeOf g4 0; have z1 := cellOf g4 1; have zf1 := freeOf g4 1; have z2 := cellOf g4 2; have zf2 := freeOf g4 2; have z3 := cellOf g4 3; have zf3 := freeOf g4 3; have z4 := cellOf g4 4; have zf4 := freeOf g4 4; have z5 := cellOf g4 5; have zf5 := freeOf g4 5; (try dsimp only at z0 z1 z2 z3 z4 z5); have HG4 := hid g4; clear hb4 hi4 g4))
    clear z0 zf0 z1 zf1 z2 zf2 z3 zf3 z4 zf4 z5 zf5
    have h1 := (heapSet (o := 5) (.slice c'.fa c'.fl c'.fc) (heapSet (o := 4) (.slice c'.la c'.ll c'.lc) (heapSet (o := 3) (.string c'.t) (heapSet (o := 2) (.int .i64 c'.s) (heapSet (o := 1) (.int .i64 c'.i) (heapSet (o := 0) (.int .i64 c'.k) HG4.out))))))
    simp only [List.setIfInBounds_toArray, List.set_cons_zero, List.set_cons_succ] at h1
    have hO : ∀ b, b ≠ w.heap.size → ((((((w4.setCell ⟨w.heap.size, 0, none⟩ (.int .i64 c'.k)).setCell ⟨w.heap.size, 1, none⟩ (.int .i64 c'.i)).setCell ⟨w.heap.size, 2, none⟩ (.int .i64 c'.s)).setCell ⟨w.heap.size, 3, none⟩ (.string c'.t)).setCell ⟨w.heap.size, 4, none⟩ (.slice c'.la c'.ll c'.lc)).setCell ⟨w.heap.size, 5, none⟩ (.slice c'.fa c'.fl c'.fc)).heap[b]? = w4.heap[b]? := fun b hb => (Below.heap_setCell _ _ _ _ hb).trans ((Below.heap_setCell _ _ _ _ hb).trans ((Below.heap_setCell _ _ _ _ hb).trans ((Below.heap_setCell _ _ _ _ hb).trans ((Below.heap_setCell _ _ _ _ hb).trans (Below.heap_setCell _ _ _ _ hb)))))
    have hS : ((((((w4.setCell ⟨w.heap.size, 0, none⟩ (.int .i64 c'.k)).setCell ⟨w.heap.size, 1, none⟩ (.int .i64 c'.i)).setCell ⟨w.heap.size, 2, none⟩ (.int .i64 c'.s)).setCell ⟨w.heap.size, 3, none⟩ (.string c'.t)).setCell ⟨w.heap.size, 4, none⟩ (.slice c'.la c'.ll c'.lc)).setCell ⟨w.heap.size, 5, none⟩ (.slice c'.fa c'.fl c'.fc)).heap.size = w4.heap.size := by simp [World.setCell]
    have hB : Below w.heap.size w ((((((w4.setCell ⟨w.heap.size, 0, none⟩ (.int .i64 c'.k)).setCell ⟨w.heap.size, 1, none⟩ (.int .i64 c'.i)).setCell ⟨w.heap.size, 2, none⟩ (.int .i64 c'.s)).setCell ⟨w.heap.size, 3, none⟩ (.string c'.t)).setCell ⟨w.heap.size, 4, none⟩ (.slice c'.la c'.ll c'.lc)).setCell ⟨w.heap.size, 5, none⟩ (.slice c'.fa c'.fl c'.fc)) := ((((((HUR.out.trans (HB4.out.mono HUR.out.size)).setCell (p := ⟨w.heap.size, 0, none⟩) (Nat.le_refl _) _).setCell (p := ⟨w.heap.size, 1, none⟩) (Nat.le_refl _) _).setCell (p := ⟨w.heap.size, 2, none⟩) (Nat.le_refl _) _).setCell (p := ⟨w.heap.size, 3, none⟩) (Nat.le_refl _) _).setCell (p := ⟨w.heap.size, 4, none⟩) (Nat.le_refl _) _).setCell (p := ⟨w.heap.size, 5, none⟩) (Nat.le_refl _) _
    have hlt := ltOf HZR.out
    exact bodyPost_ret (v := VC.v c') (by simp [results, Tryz.results42, go_sem, cellOf h1]) rfl ⟨c', rfl, hB, HI4.out.same fun b q => ⟨⟨by omega, by rw [hS]; exact q.2⟩, hO b (by omega)⟩⟩
end Go.Proofs.YtcejackabdmpkaaGreatDoor

/-
  message.Env: the record whose field body is the body, or the record without fields. Condition: the body can be read as data.
-/
namespace Go.Proofs.YtcejackabdmpkaaGreatDoor
open Go Go.RowKit
set_option linter.unusedVariables false
set_option linter.unusedSimpArgs false

def envV (name : ByteArray) (d : Val) : Val := if isNullV d = true then .mk 9 0 0 ⟨#[]⟩ [] [] [] else .mk 9 0 0 ⟨#[]⟩ [] [name] [d]
theorem rec_call (g cg : Nat) (name : ByteArray) (c : VC) (d : Val) (w : World) (hn : name.size ≤ 140737488351232) (hg : w.heap[g]? = some (.cells #[.string name, .int .i64 c.k, .int .i64 c.i, .int .i64 c.s, .string c.t, .slice c.la c.ll c.lc, .slice c.fa c.fl c.fc] 30)) (hd : IsVal (· < w.heap.size) w c d) : Calls Tryz.prog 42 #[.slice (some ⟨g, 0, none⟩) 1 cg] w (ClonePost w (envV name d)) := by
  have e := isNullV_of hd
  unfold envV
  cases h : isNullV d with
  | true => rw [if_pos rfl]; exact recN_call g cg name c d w hn hg hd (e.symm.trans h)
  | false => rw [if_neg (by decide)]; exact recV_call g cg name c d w hn hg hd (e.symm.trans h)

set_option maxRecDepth 100000 in
set_option maxHeartbeats 4000000 in
theorem env_call (c : VC) (d : Val) (w : World) (hd : IsVal (· < w.heap.size) w c d) : Calls Tryz.prog 15 #[.agg #[.int .i64 c.k, .int .i64 c.i, .int .i64 c.s, .string c.t, .slice c.la c.ll c.lc, .slice c.fa c.fl c.fc]] w (ClonePost w (envV ⟨#[98, 111, 100, 121]⟩ d)) := by
  have HB0 := hid (show Below w.heap.size w ((w.alloc (.cells #[.int .i64 c.k, .int .i64 c.i, .int .i64 c.s, .string c.t, .slice c.la c.ll c.lc, .slice c.fa c.fl c.fc] 25)).alloc (.cells #[.int .i64 0, .int .i64 0, .int .i64 0, .string ⟨#[]⟩, .slice none 0 0, .slice none 0 0] 25)) from ((Below.refl _ w).alloc (Nat.le_refl _) _).alloc (by simp) _)
  have HZ := hid (show ((w.alloc (.cells #[.int .i64 c.k, .int .i64 c.i, .int .i64 c.s, .string c.t, .slice c.la c.ll c.lc, .slice c.fa c.fl c.fc] 25)).alloc (.cells #[.int .i64 0, .int .i64 0, .int .i64 0, .string ⟨#[]⟩, .slice none 0 0, .slice none 0 0] 25)).heap[w.heap.size + 1]? = some (.cells #[.int .i64 0, .int .i64 0, .int .i64 0, .string ⟨#[]⟩, .slice none 0 0, .slice none 0 0] 25) from heapNewAt _ _ _ (by simp))
  have hd0 : IsVal (· < (((w.alloc (.cells #[.int .i64 c.k, .int .i64 c.i, .int .i64 c.s, .string c.t, .slice c.la c.ll c.lc, .slice c.fa c.fl c.fc] 25)).alloc (.cells #[.int .i64 0, .int .i64 0, .int .i64 0, .string ⟨#[]⟩, .slice none 0 0, .slice none 0 0] 25))).heap.size) ((w.alloc (.cells #[.int .i64 c.k, .int .i64 c.i, .int .i64 c.s, .string c.t, .slice c.la c.ll c.lc, .slice c.fa c.fl c.fc] 25)).alloc (.cells #[.int .i64 0, .int .i64 0, .int .i64 0, .string ⟨#[]⟩, .slice none 0 0, .slice none 0 0] 25)) c d := hd.same fun b q => ⟨Nat.lt_of_lt_of_le q HB0.out.size, HB0.out.block b q⟩
  have HCL := hid (clone_call hd0)
  clear hd0 hd
  go_enter Tryz.func15, Tryz.ntmps15
  go_wp2_with (first
    | (go_at_call 42; refine HRC.out.mono ?_; rintro e w2 ⟨c'', rfl, hb2, hi2⟩; have HB2 := hid hb2; have HI2 := hid hi2; have g2 := heapExt hb2 HZ1.out; have z0 := cellOf g2 0; have zf0 := freeOf g2 0; have z1 := cellOf g2 1; have zf1 := freeOf g2 1; have z2 := cellOf g2 2; have zf2 := freeOf g2 2; have z3 := cellOf g2 3; have zf3 := freeOf g2 3; have z4 := cellOf g2 4; have zf4 := freeOf g2 4; have z5 := cellOf g2 5; have zf5 := freeOf g2 5; (try dsimp only at z0 z1 z2 z3 z4 z5); have HG2 := hid g2; clear hb2 hi2 g2)
    | (go_at_call 43; refine HCL.out.mono ?_; rintro e w1 ⟨c', rfl, hb1, hi1⟩; have HB1 := hid hb1; have HI1 := hid hi1; have HZ1 := hid (heapAlloc (.cells #[.string ⟨#[98, 111, 100, 121]⟩, .int .i64 c'.k, .int .i64 c'.i, .int .i64 c'.s, .string c'.t, .slice c'.la c'.ll c'.lc, .slice c'.fa c'.fl c'.fc] 30) (heapExt hb1 HZ.out)); have HRC := hid (rec_call w1.heap.size 1 ⟨#[98, 111, 100, 121]⟩ c' d (w1.alloc (.cells #[.string ⟨#[98, 111, 100, 121]⟩, .int .i64 c'.k, .int .i64 c'.i, .int .i64 c'.s, .string c'.t, .slice c'.la c'.ll c'.lc, .slice c'.fa c'.fl c'.fc] 30)) (by decide) (heap_alloc_new w1 _) (hi1.same fun b q => ⟨by simp; omega, Below.heap_alloc _ _ _ (by omega)⟩)); clear hb1 hi1))
  clear z0 zf0 z1 zf1 z2 zf2 z3 zf3 z4 zf4 z5 zf5
  have h1 := (heapSet (o := 5) (.slice c''.fa c''.fl c''.fc) (heapSet (o := 4) (.slice c''.la c''.ll c''.lc) (heapSet (o := 3) (.string c''.t) (heapSet (o := 2) (.int .i64 c''.s) (heapSet (o := 1) (.int .i64 c''.i) (heapSet (o := 0) (.int .i64 c''.k) HG2.out))))))
  simp only [List.setIfInBounds_toArray, List.set_cons_zero, List.set_cons_succ] at h1
  have hs1 := HB1.out.size
  have hs0 := HB0.out.size
  have hsz : (((w.alloc (.cells #[.int .i64 c.k, .int .i64 c.i, .int .i64 c.s, .string c.t, .slice c.la c.ll c.lc, .slice c.fa c.fl c.fc] 25)).alloc (.cells #[.int .i64 0, .int .i64 0, .int .i64 0, .string ⟨#[]⟩, .slice none 0 0, .slice none 0 0] 25))).heap.size = w.heap.size + 2 := by simp
  have hlt := ltOf HG2.out
  have hO : ∀ b, b ≠ w.heap.size + 1 → ((((((w2.setCell ⟨w.heap.size + 1, 0, none⟩ (.int .i64 c''.k)).setCell ⟨w.heap.size + 1, 1, none⟩ (.int .i64 c''.i)).setCell ⟨w.heap.size + 1, 2, none⟩ (.int .i64 c''.s)).setCell ⟨w.heap.size + 1, 3, none⟩ (.string c''.t)).setCell ⟨w.heap.size + 1, 4, none⟩ (.slice c''.la c''.ll c''.lc)).setCell ⟨w.heap.size + 1, 5, none⟩ (.slice c''.fa c''.fl c''.fc)).heap[b]? = w2.heap[b]? := fun b hb => (Below.heap_setCell _ _ _ _ hb).trans ((Below.heap_setCell _ _ _ _ hb).trans ((Below.heap_setCell _ _ _ _ hb).trans ((Below.heap_setCell _ _ _ _ hb).trans ((Below.heap_setCell _ _ _ _ hb).trans (Below.heap_setCell _ _ _ _ hb)))))
  have hS : ((((((w2.setCell ⟨w.heap.size + 1, 0, none⟩ (.int .i64 c''.k)).setCell ⟨w.heap.size + 1, 1, none⟩ (.int .i64 c''.i)).setCell ⟨w.heap.size + 1, 2, none⟩ (.int .i64 c''.s)).setCell ⟨w.heap.size + 1, 3, none⟩ (.string c''.t)).setCell ⟨w.heap.size + 1, 4, none⟩ (.slice c''.la c''.ll c''.lc)).setCell ⟨w.heap.size + 1, 5, none⟩ (.slice c''.fa c''.fl c''.fc)).heap.size = w2.heap.size := by simp [World.setCell]
  have hB1' : Below w.heap.size w (w1.alloc (.cells #[.string ⟨#[98, 111, 100, 121]⟩, .int .i64 c'.k, .int .i64 c'.i, .int .i64 c'.s, .string c'.t, .slice c'.la c'.ll c'.lc, .slice c'.fa c'.fl c'.fc] 30)) := (HB0.out.trans (HB1.out.mono HB0.out.size)).alloc (by omega) _
  have hB2' : Below w.heap.size w w2 := hB1'.trans (HB2.out.mono hB1'.size)
  have hB : Below w.heap.size w ((((((w2.setCell ⟨w.heap.size + 1, 0, none⟩ (.int .i64 c''.k)).setCell ⟨w.heap.size + 1, 1, none⟩ (.int .i64 c''.i)).setCell ⟨w.heap.size + 1, 2, none⟩ (.int .i64 c''.s)).setCell ⟨w.heap.size + 1, 3, none⟩ (.string c''.t)).setCell ⟨w.heap.size + 1, 4, none⟩ (.slice c''.la c''.ll c''.lc)).setCell ⟨w.heap.size + 1, 5, none⟩ (.slice c''.fa c''.fl c''.fc)) := ((((((hB2'.setCell (p := ⟨w.heap.size + 1, 0, none⟩) (by dsimp only; omega) _).setCell (p := ⟨w.heap.size + 1, 1, none⟩) (by dsimp only; omega) _).setCell (p := ⟨w.heap.size + 1, 2, none⟩) (by dsimp only; omega) _).setCell (p := ⟨w.heap.size + 1, 3, none⟩) (by dsimp only; omega) _).setCell (p := ⟨w.heap.size + 1, 4, none⟩) (by dsimp only; omega) _).setCell (p := ⟨w.heap.size + 1, 5, none⟩) (by dsimp only; omega) _)
  exact bodyPost_ret (v := VC.v c'') (by simp [results, Tryz.results15, go_sem, cellOf h1]) rfl ⟨c'', rfl, hB, HI2.out.same fun b q => by
    simp only [World.size_alloc] at q
    exact ⟨⟨by omega, by rw [hS]; exact q.2⟩, hO b (by omega)⟩⟩
end Go.Proofs.YtcejackabdmpkaaGreatDoor

/-
  manifoldlaw29.decimal of a number that is not negative returns its decimal digits. Condition: the number is an int.
-/
namespace Go.Proofs.YtcejackabdmpkaaGreatDoor
open Go Go.RowKit
set_option linter.unusedVariables false
set_option linter.unusedSimpArgs false

def decB (n : Nat) : ByteArray := ⟨(Lib.decDigits n).toArray⟩
theorem decB_itoa (n : Nat) : itoaB (n : Int) = decB n := by unfold itoaB decB; rw [Lib.itoa_nonneg]
theorem dec_size (n : Nat) (h : (n : Int) ≤ 9223372036854775807) : (decB n).size ≤ 21 := by
  have := Lib.itoa_length_le (n : Int) (by omega) h
  rw [Lib.itoa_nonneg] at this
  exact this

theorem conv_at (w : World) (g : Nat) (x : Int) (h : w.heap[g]? = some (.cells #[.int .u8 x] 5)) : (convert 77 9 (.slice (some ⟨g, 0, none⟩) 1 1)).run Tryz.prog w = .ok (.string ⟨#[UInt8.ofNat x.toNat]⟩) w :=
  run_convert_bytes_arg (P := Tryz.prog) w 77 5 Tryz.underlying77 Tryz.underlying5 g 0 1 1 [x] rfl (fun i hi => by
    obtain rfl : i = 0 := by omega
    exact cellOf h 0) 9 Tryz.underlying9
theorem conv1 (w : World) (x : Int) : (convert 77 9 (.slice (some ⟨w.heap.size, 0, none⟩) 1 1)).run Tryz.prog (w.alloc (.cells #[.int .u8 x] 5)) = .ok (.string ⟨#[UInt8.ofNat x.toNat]⟩) (w.alloc (.cells #[.int .u8 x] 5)) :=
  conv_at _ _ x (heap_alloc_new w _)

set_option maxRecDepth 100000 in
set_option maxHeartbeats 2000000 in
theorem dec_small (n : Nat) (h : n < 10) (w : World) : Calls Tryz.prog 13 #[.int .i64 n] w fun e w' => e = .returned (.string (decB n)) ∧ Below w.heap.size w w' := by
  have hlt : (n : Int) < 10 := by omega
  have hD : decB n = ⟨#[UInt8.ofNat (48 + n)]⟩ := by
    unfold decB
    rw [Lib.decDigits_one h]
  have HD := hid hD
  have kc := conv1
  clear hD
  go_enter Tryz.func13, Tryz.ntmps13
  go_wp2
  go_ret
  exact ⟨by rw [HD.out]; rfl, (Below.refl _ w).alloc (Nat.le_refl _) _⟩

set_option maxRecDepth 100000 in
set_option maxHeartbeats 4000000 in
theorem dec_big (n : Nat) (h : 10 ≤ n) (hn : (n : Int) ≤ 9223372036854775807) (ih : ∀ w, Calls Tryz.prog 13 #[.int .i64 ((n / 10 : Nat) : Int)] w fun e w' => e = .returned (.string (decB (n / 10))) ∧ Below w.heap.size w w') (w : World) : Calls Tryz.prog 13 #[.int .i64 n] w fun e w' => e = .returned (.string (decB n)) ∧ Below w.heap.size w w' := by
  have hlt : ¬ (n : Int) < 10 := by omega
  have hq : (n : Int).tdiv 10 = ((n / 10 : Nat) : Int) := by rw [Int.tdiv_eq_ediv_of_nonneg (by omega)]; omega
  have hr : (n : Int).tmod 10 = ((n % 10 : Nat) : Int) := by rw [Int.tmod_eq_emod_of_nonneg (by omega)]; omega
  have hD : decB n = decB (n / 10) ++ ⟨#[UInt8.ofNat (48 + ((n % 10 : Nat) : Int)).toNat]⟩ := by
    unfold decB
    rw [Lib.decDigits, dif_neg (by omega), show (48 + ((n % 10 : Nat) : Int)).toNat = 48 + n % 10 by omega]
    apply ByteArray.ext
    simp [ByteArray.data_append]
  have hs := dec_size (n / 10) (by omega)
  have hm : ((n % 10 : Nat) : Int) < 10 := by omega
  have hm0 : (0 : Int) ≤ ((n % 10 : Nat) : Int) := by omega
  obtain ⟨q, hq'⟩ : ∃ q, q = ((n / 10 : Nat) : Int) := ⟨_, rfl⟩
  obtain ⟨r, hr'⟩ : ∃ r, r = ((n % 10 : Nat) : Int) := ⟨_, rfl⟩
  have hq0 : 0 ≤ q ∧ q ≤ 9223372036854775807 := by omega
  have hwq : IntKind.i64.wrap q = q := IntWalk.i64_in _ (by omega)
  have hwr : IntKind.i64.wrap (48 + r) = 48 + r := IntWalk.i64_in _ (by omega)
  have hwu : IntKind.u8.wrap (48 + r) = 48 + r := by rw [IntKind.wrap_u8]; omega
  obtain ⟨s, hs'⟩ : ∃ s, s = decB (n / 10) := ⟨_, rfl⟩
  rw [← hq'] at hq ih
  rw [← hs'] at hs ih hD
  rw [← hr'] at hr hm hm0 hD
  have hsz : ¬ 9223372036854775807 < s.size + 1 := by omega
  have HIH := hid ih
  have HD := hid hD
  have kc := conv1
  clear hD hq' hr' hs' ih
  go_enter Tryz.func13, Tryz.ntmps13
  go_upto_region 3 with (fail)
  refine wp_region_split 10 (fun w' => Below w.heap.size w w') (by kernel_rfl) (by kernel_rfl) (by kernel_rfl) (by decide) ((Below.refl _ _).drew) (fun hS => ?_)
  simp only [List.take_succ_cons, List.take_zero, List.drop_succ_cons, List.drop_zero]
  refine wpAnyH_take (i := 0) (oi := _) (v := ?_) rfl (by kernel_rfl) (by kernel_rfl) (by kernel_rfl) (fun _ _ _ h => h) (Or.inl ⟨by rfl, ?_⟩) hS ?_
  rotate_left
  · intro w' hw'
    (try dsimp only at hw')
    go_simp
    (try with_reducible rfl)
  simp only [Act.put, List.getElem_toArray, List.getElem_cons_succ, List.getElem_cons_zero, List.setIfInBounds_toArray, List.set_cons_zero, List.set_cons_succ]
  refine wpAnyH_take (i := 1) (oi := _) (v := ?_) rfl (by kernel_rfl) (by kernel_rfl) (by kernel_rfl) (fun _ _ _ h => h) (Or.inl ⟨by rfl, ?_⟩) hS ?_
  rotate_left
  · intro w' hw'
    (try dsimp only at hw')
    go_simp
    (try with_reducible rfl)
  simp only [Act.put, List.getElem_toArray, List.getElem_cons_succ, List.getElem_cons_zero, List.setIfInBounds_toArray, List.set_cons_zero, List.set_cons_succ]
  refine wpAnyH_take (i := 3) (oi := _) (v := ?_) rfl (by kernel_rfl) (by kernel_rfl) (by kernel_rfl) (fun _ _ _ h => h) (Or.inl ⟨by rfl, ?_⟩) hS ?_
  rotate_left
  · intro w' hw'
    (try dsimp only at hw')
    go_simp
    (try with_reducible rfl)
  simp only [Act.put, List.getElem_toArray, List.getElem_cons_succ, List.getElem_cons_zero, List.setIfInBounds_toArray, List.set_cons_zero, List.set_cons_succ]
  refine wpAnyH_take (i := 4) (oi := _) (v := ?_) rfl (by kernel_rfl) (by kernel_rfl) (by kernel_rfl) (fun _ _ _ h => h) (Or.inl ⟨by rfl, ?_⟩) hS ?_
  rotate_left
  · intro w' hw'
    (try dsimp only at hw')
    go_simp
    (try with_reducible rfl)
  simp only [Act.put, List.getElem_toArray, List.getElem_cons_succ, List.getElem_cons_zero, List.setIfInBounds_toArray, List.set_cons_zero, List.set_cons_succ]
  refine wpAnyH_take (i := 5) (oi := _) (v := ?_) rfl (by kernel_rfl) (by kernel_rfl) (by kernel_rfl) (fun _ _ _ h => h) (Or.inl ⟨by rfl, ?_⟩) hS ?_
  rotate_left
  · intro w' hw'
    (try dsimp only at hw')
    go_simp
    (try with_reducible rfl)
  simp only [Act.put, List.getElem_toArray, List.getElem_cons_succ, List.getElem_cons_zero, List.setIfInBounds_toArray, List.set_cons_zero, List.set_cons_succ]
  refine wpAnyH_take (i := 6) (oi := _) (v := ?_) rfl (by kernel_rfl) (by kernel_rfl) (by kernel_rfl) (fun _ _ _ h => h) (Or.inl ⟨by rfl, ?_⟩) hS ?_
  rotate_left
  · intro w' hw'
    (try dsimp only at hw')
    go_simp
    (try with_reducible rfl)
  simp only [Act.put, List.getElem_toArray, List.getElem_cons_succ, List.getElem_cons_zero, List.setIfInBounds_toArray, List.set_cons_zero, List.set_cons_succ]
  refine wpAnyH_ready (rs := [2, 7]) (by kernel_rfl) (by simp) ?_
  refine AllReadyH.cons (o := _) rfl (fun K hK => ?_) ?_
  · clear hq hr hlt kc
    go_simp; go_at_call 13; refine (HIH.out _).mono ?_
    rintro e w1 ⟨rfl, hb1⟩
    refine hK.out _ _ (hS.trans (hb1.mono hS.size)) (fun hS => ?_)
    clear hK K
    (try simp only [Act.put, List.getElem_toArray, List.getElem_cons_succ, List.getElem_cons_zero, List.setIfInBounds_toArray, List.set_cons_zero, List.set_cons_succ])
    refine wpAnyH_ready (rs := [7]) (by kernel_rfl) (by simp) ?_
    refine AllReadyH.cons (o := _) rfl (fun K hK => ?_) AllReadyH.nil
    go_simp
    refine hK.out _ _ (hS.alloc hS.size _) (fun hS => ?_)
    clear hK K
    (try simp only [Act.put, List.getElem_toArray, List.getElem_cons_succ, List.getElem_cons_zero, List.setIfInBounds_toArray, List.set_cons_zero, List.set_cons_succ])
    refine wpAnyH_ready (rs := [8]) (by kernel_rfl) (by simp) ?_
    refine AllReadyH.cons (o := _) rfl (fun K hK => ?_) AllReadyH.nil
    have kk := conv1 w1 (48 + r)
    have k2 := conv_at (w1.alloc (.cells #[.int .u8 (48 + r)] 5)).drew w1.heap.size (48 + r) (heap_alloc_new w1 _)
    go_simp
    refine hK.out _ _ (hS) (fun hS => ?_)
    clear hK K
    (try simp only [Act.put, List.getElem_toArray, List.getElem_cons_succ, List.getElem_cons_zero, List.setIfInBounds_toArray, List.set_cons_zero, List.set_cons_succ])
    refine wpAnyH_take (i := 9) (oi := _) (v := ?_) rfl (by kernel_rfl) (by kernel_rfl) (by kernel_rfl) (fun _ _ _ h => h) (Or.inl ⟨by rfl, ?_⟩) hS ?_
    rotate_left
    · intro w' hw'
      (try dsimp only at hw')
      go_simp
      (try with_reducible rfl)
    simp only [Act.put, List.getElem_toArray, List.getElem_cons_succ, List.getElem_cons_zero, List.setIfInBounds_toArray, List.set_cons_zero, List.set_cons_succ]
    refine wpAnyH_done (by kernel_rfl) ?_ _
    (try dsimp only)
    go_wp2
    go_ret
    exact ⟨by rw [HD.out]; rfl, hS⟩
  refine AllReadyH.cons (o := _) rfl (fun K hK => ?_) AllReadyH.nil
  go_simp
  refine hK.out _ _ (hS.alloc hS.size _) (fun hS => ?_)
  clear hK K
  (try simp only [Act.put, List.getElem_toArray, List.getElem_cons_succ, List.getElem_cons_zero, List.setIfInBounds_toArray, List.set_cons_zero, List.set_cons_succ])
  refine wpAnyH_ready (rs := [2, 8]) (by kernel_rfl) (by simp) ?_
  refine AllReadyH.cons (o := _) rfl (fun K hK => ?_) ?_
  · clear hq hr hlt kc
    go_simp; go_at_call 13; refine (HIH.out _).mono ?_
    rintro e w1 ⟨rfl, hb1⟩
    refine hK.out _ _ (hS.trans (hb1.mono hS.size)) (fun hS => ?_)
    clear hK K
    (try simp only [Act.put, List.getElem_toArray, List.getElem_cons_succ, List.getElem_cons_zero, List.setIfInBounds_toArray, List.set_cons_zero, List.set_cons_succ])
    refine wpAnyH_ready (rs := [8]) (by kernel_rfl) (by simp) ?_
    refine AllReadyH.cons (o := _) rfl (fun K hK => ?_) AllReadyH.nil
    have kk := conv_at w1 w.heap.size (48 + r) (heapExt hb1 (heap_alloc_new w _))
    go_simp
    refine hK.out _ _ (hS) (fun hS => ?_)
    clear hK K
    (try simp only [Act.put, List.getElem_toArray, List.getElem_cons_succ, List.getElem_cons_zero, List.setIfInBounds_toArray, List.set_cons_zero, List.set_cons_succ])
    refine wpAnyH_take (i := 9) (oi := _) (v := ?_) rfl (by kernel_rfl) (by kernel_rfl) (by kernel_rfl) (fun _ _ _ h => h) (Or.inl ⟨by rfl, ?_⟩) hS ?_
    rotate_left
    · intro w' hw'
      (try dsimp only at hw')
      go_simp
      (try with_reducible rfl)
    simp only [Act.put, List.getElem_toArray, List.getElem_cons_succ, List.getElem_cons_zero, List.setIfInBounds_toArray, List.set_cons_zero, List.set_cons_succ]
    refine wpAnyH_done (by kernel_rfl) ?_ _
    (try dsimp only)
    go_wp2
    go_ret
    exact ⟨by rw [HD.out]; rfl, hS⟩
  refine AllReadyH.cons (o := _) rfl (fun K hK => ?_) AllReadyH.nil
  have kk := conv1 w (48 + r)
  have k2 := conv_at (w.alloc (.cells #[.int .u8 (48 + r)] 5)).drew w.heap.size (48 + r) (heap_alloc_new w _)
  go_simp
  refine hK.out _ _ (hS) (fun hS => ?_)
  clear hK K
  (try simp only [Act.put, List.getElem_toArray, List.getElem_cons_succ, List.getElem_cons_zero, List.setIfInBounds_toArray, List.set_cons_zero, List.set_cons_succ])
  refine wpAnyH_ready (rs := [2]) (by kernel_rfl) (by simp) ?_
  refine AllReadyH.cons (o := _) rfl (fun K hK => ?_) AllReadyH.nil
  clear hq hr hlt kc
  go_simp; go_at_call 13; refine (HIH.out _).mono ?_
  rintro e w1 ⟨rfl, hb1⟩
  refine hK.out _ _ (hS.trans (hb1.mono hS.size)) (fun hS => ?_)
  clear hK K
  (try simp only [Act.put, List.getElem_toArray, List.getElem_cons_succ, List.getElem_cons_zero, List.setIfInBounds_toArray, List.set_cons_zero, List.set_cons_succ])
  refine wpAnyH_take (i := 9) (oi := _) (v := ?_) rfl (by kernel_rfl) (by kernel_rfl) (by kernel_rfl) (fun _ _ _ h => h) (Or.inl ⟨by rfl, ?_⟩) hS ?_
  rotate_left
  · intro w' hw'
    (try dsimp only at hw')
    go_simp
    (try with_reducible rfl)
  simp only [Act.put, List.getElem_toArray, List.getElem_cons_succ, List.getElem_cons_zero, List.setIfInBounds_toArray, List.set_cons_zero, List.set_cons_succ]
  refine wpAnyH_done (by kernel_rfl) ?_ _
  (try dsimp only)
  go_wp2
  go_ret
  exact ⟨by rw [HD.out]; rfl, hS⟩

theorem dec_call (n : Nat) (hn : (n : Int) ≤ 9223372036854775807) (w : World) : Calls Tryz.prog 13 #[.int .i64 n] w fun e w' => e = .returned (.string (decB n)) ∧ Below w.heap.size w w' := by
  induction n using Nat.strongRecOn generalizing w with
  | _ n ih =>
    by_cases h : n < 10
    · exact dec_small n h w
    · exact dec_big n (by omega) hn (fun w => ih (n / 10) (by omega) (by omega) w) w

end Go.Proofs.YtcejackabdmpkaaGreatDoor
