/-
  slots.Clone returns a copy of a state in memory of its own. Condition: the state can be read as data.
-/
import Derived.Test.YthjlgpmajeafpaaGreatDoorSlotFMrg
import Derived.Test.YthjlgpmajeafpaaGreatDoorPlaceMrg
import Derived.Test.YthjlgpmajeafpaaGreatDoorSymmMrg
import Derived.Laws.Entries
import Derived.OpenShut
namespace Go.Proofs.YthjlgpmajeafpaaGreatDoor
open Go Go.RowKit Go.Shelf
set_option linter.unusedVariables false
set_option linter.unusedSimpArgs false

theorem infoSlot : (Tryz.prog.info? 58).map (fun i => (i.zero, i.size, i.bytes)) = some (some (.agg #[.int .i64 0, .int .i64 0, .int .i64 0, .string ByteArray.empty, .slice none 0 0, .slice none 0 0, .int .i64 0, .int .i64 0, .slice none 0 0, .slice none 0 0]), 10, 152) := by kernel_rfl
def StaPost (w : World) (d : Sta) (e : Ending) (w' : World) : Prop := ∃ c' : StC, e = .returned c'.v ∧ Below w.heap.size w w' ∧ IsSta (fun b => w.heap.size ≤ b ∧ b < w'.heap.size) w' c' d ∧ Built slK 58 (w.heap.size + 2) w' (.slice c'.a c'.l c'.c) c'.l d.l

set_option maxRecDepth 100000 in
set_option maxHeartbeats 16000000 in
theorem cloneSta_call (c : StC) (d : Sta) (w : World) (hd : IsSta (· < w.heap.size) w c d) : Calls Tryz.prog 39 #[c.v] w (StaPost w d) := by
  obtain ⟨ti, hi, hz0, hz1, hz2⟩ := info_parts infoSlot
  obtain ⟨sn, st, a, sl, sc⟩ := c
  have hbig := hd.l.big
  have HLI := hid hd.l.len
  have HDI := hid hd.l
  have HNT := hid (And.intro hd.n (And.intro hd.rn (And.intro hd.t hd.rt)))
  dsimp only at hbig HLI HDI HNT
  clear hd
  obtain ⟨wb, hwb⟩ : ∃ wb, wb = (w.alloc (.cells #[.int .i64 sn, .int .i64 st, .slice a sl sc] 55)).alloc (.cells #[.int .i64 0, .int .i64 0, .slice none 0 0] 55) := ⟨_, rfl⟩
  have hb0 : Below w.heap.size w wb := by rw [hwb]; exact ((Below.refl _ w).alloc (Nat.le_refl _) _).alloc (by simp) _
  have hsb : wb.heap.size = w.heap.size + 2 := by rw [hwb]; simp
  have g1 : wb.heap[w.heap.size]? = some (.cells #[.int .i64 sn, .int .i64 st, .slice a sl sc] 55) := by rw [hwb]; exact heapAlloc _ (heap_alloc_new w _)
  have g2 : wb.heap[w.heap.size + 1]? = some (.cells #[.int .i64 0, .int .i64 0, .slice none 0 0] 55) := by rw [hwb]; exact heapNewAt _ _ _ (by simp)
  have k2 := cellOf g1 2
  (try dsimp only at k2)
  rw [hwb] at k2
  have HWB := hid hwb
  have HB0 := hid hb0
  have HSB := hid hsb
  have G1 := hid g1
  have G2 := hid g2
  clear hwb hb0 hsb g1 g2
  dsimp only [StC.v]
  go_enter Tryz.func39, Tryz.ntmps39
  go_wp2_with (at_make; refine wpList_make_own _ rfl _ _ 53 rfl wb.heap.size 58 ti _ 10 Tryz.underlying53 hi hz0 hz1 .i64 .i64 _ sl rfl rfl rfl (by rw [hz2]; omega) (by unfold maxLen; omega) (by rw [HWB.out]; exact Nat.le_refl _) ?_; intro w1 hown1 hg1; rw [← HWB.out] at hown1 hg1; have k2' := (heapGrown hg1 G1.out (by simp) : _); have c2 := cellOf k2' 2; (try dsimp only at c2); have HO1 := hid hown1; have HG1 := hid hg1; clear k2' hown1 hg1 k2)
  clear c2
  have HBS := hid (show Below w.heap.size w w1 from HB0.out.grown HG1.out (by have := HSB.out; omega) (fun r e => by cases e))
  have HZS := hid (show w.heap.size ≤ wb.heap.size by have := HSB.out; omega)
  have HZB := hid (show wb.heap.size ≤ w1.heap.size from HG1.out.size)
  go_loopw [3, 13] (fun vv i wr => ∃ (k : Nat) (v : Value), v = vv ∧ k ≤ sl ∧ i = .int .i64 k ∧ Built slK 58 wb.heap.size wr v k d.l ∧ Below wb.heap.size w1 wr) (fun _ i _ => sl - (intOf i).toNat)
  case atStart => exact ⟨0, _, rfl, Nat.zero_le _, rfl, ⟨[], rfl, (by rw [show w.heap.size + 1 + 1 = wb.heap.size from HSB.out.symm]; exact HO1.out), fun j h => by simp at h⟩, Below.refl _ _⟩
  case round =>
  obtain ⟨k, v, rfl, hk, rfl, hbu, hbr⟩ := hrel
  obtain ⟨wp, rfl⟩ : ∃ w1 : World, w1 = wr := ⟨_, rfl⟩
  by_cases hlt : k < sl
  · have hkl : k < d.l.length := by have := HLI.out; omega
    obtain ⟨b, o, rfl, hb, hx⟩ := HDI.out.slot (show 0 < sl by omega)
    obtain ⟨x, hxa, hxi⟩ := hx k hkl
    have hbw : Below w.heap.size w wp := HBS.out.trans (hbr.mono HZS.out)
    obtain ⟨x0, x1, x2, x3, x4, x5, x6, x7, x8, x9⟩ := (hxa.same (hbw.block b hb)).slot
    have hlt' : (k : Int) < (sl : Int) := by omega
    have hk0 : (0 : Int) ≤ (k : Int) := by omega
    obtain ⟨cs, hcs, hown, hel⟩ := hbu
    have hvb := Built.own (K := slK) ⟨cs, hcs, hown, hel⟩
    have hba : Below w.heap.size w (wp.alloc (.cells #[.int .i64 x.k.k, .int .i64 x.k.i, .int .i64 x.k.s, .string x.k.t, .slice x.k.la x.k.ll x.k.lc, .slice x.k.fa x.k.fl x.k.fc, .int .i64 x.n, .int .i64 x.t, .slice x.ia x.il x.ic, .slice x.va x.vl x.vc] 58)) := hbw.alloc hbw.size _
    have hbs : wb.heap.size ≤ wp.heap.size := belowSize hbr HZB.out
    have HCS : Hid (Calls Tryz.prog 84 #[.agg #[.int .i64 x.k.k, .int .i64 x.k.i, .int .i64 x.k.s, .string x.k.t, .slice x.k.la x.k.ll x.k.lc, .slice x.k.fa x.k.fl x.k.fc, .int .i64 x.n, .int .i64 x.t, .slice x.ia x.il x.ic, .slice x.va x.vl x.vc]] (wp.alloc (.cells #[.int .i64 x.k.k, .int .i64 x.k.i, .int .i64 x.k.s, .string x.k.t, .slice x.k.la x.k.ll x.k.lc, .slice x.k.fa x.k.fl x.k.fc, .int .i64 x.n, .int .i64 x.t, .slice x.ia x.il x.ic, .slice x.va x.vl x.vc] 58)) fun e w' => ∃ c' : SlC, e = .returned (.agg #[.int .i64 c'.k.k, .int .i64 c'.k.i, .int .i64 c'.k.s, .string c'.k.t, .slice c'.k.la c'.k.ll c'.k.lc, .slice c'.k.fa c'.k.fl c'.k.fc, .int .i64 c'.n, .int .i64 c'.t, .slice c'.ia c'.il c'.ic, .slice c'.va c'.vl c'.vc]) ∧ Below (wp.alloc (.cells #[.int .i64 x.k.k, .int .i64 x.k.i, .int .i64 x.k.s, .string x.k.t, .slice x.k.la x.k.ll x.k.lc, .slice x.k.fa x.k.fl x.k.fc, .int .i64 x.n, .int .i64 x.t, .slice x.ia x.il x.ic, .slice x.va x.vl x.vc] 58)).heap.size (wp.alloc (.cells #[.int .i64 x.k.k, .int .i64 x.k.i, .int .i64 x.k.s, .string x.k.t, .slice x.k.la x.k.ll x.k.lc, .slice x.k.fa x.k.fl x.k.fc, .int .i64 x.n, .int .i64 x.t, .slice x.ia x.il x.ic, .slice x.va x.vl x.vc] 58)) w' ∧ IsSl (fun b => (wp.alloc (.cells #[.int .i64 x.k.k, .int .i64 x.k.i, .int .i64 x.k.s, .string x.k.t, .slice x.k.la x.k.ll x.k.lc, .slice x.k.fa x.k.fl x.k.fc, .int .i64 x.n, .int .i64 x.t, .slice x.ia x.il x.ic, .slice x.va x.vl x.vc] 58)).heap.size ≤ b ∧ b < w'.heap.size) w' c' d.l[k]) := hid (cloneSlot_call x d.l[k] (wp.alloc (.cells #[.int .i64 x.k.k, .int .i64 x.k.i, .int .i64 x.k.s, .string x.k.t, .slice x.k.la x.k.ll x.k.lc, .slice x.k.fa x.k.fl x.k.fc, .int .i64 x.n, .int .i64 x.t, .slice x.ia x.il x.ic, .slice x.va x.vl x.vc] 58)) (slK.same (fun b q => ⟨by have := hba.size; omega, hba.block b q⟩) hxi))
    have HVB := hid hvb
    have HOWN := hid hown
    have HEL := hid hel
    have HCL := hid hcs
    have HBR := hid hbr
    clear hvb hown hel hcs hba hbr hxi hxa hx hb hbw
    have hcap1 : k + 1 ≤ maxLen := by unfold maxLen; omega
    have hcap2 : (k + 1) * 152 ≤ 140737488355328 := by omega
    go_wp2_with (first
      | (go_at_call 84; refine HCS.out.mono ?_; rintro e w4 ⟨c4, rfl, hb4, hi4⟩; have HB4 := hid hb4; have HI4 := hid hi4; clear hb4 hi4)
      | (at_builtin; refine wpList_append_lies _ (by rfl) _ _ 53 (by rfl) wb.heap.size 58 ti _ 10 152 Tryz.underlying53 hi hz0 hz1 hz2 rfl (by omega) v k (cs.flatMap SlC.cs) (by rfl) ((ownExt (HOWN.out.alloc _) HB4.out).alloc (.cells #[.int .i64 c4.k.k, .int .i64 c4.k.i, .int .i64 c4.k.s, .string c4.k.t, .slice c4.k.la c4.k.ll c4.k.lc, .slice c4.k.fa c4.k.fl c4.k.fc, .int .i64 c4.n, .int .i64 c4.t, .slice c4.ia c4.il c4.ic, .slice c4.va c4.vl c4.vc] 58)) ⟨w4.heap.size, 0, none⟩ 1 1 (SlC.cs c4) (by rfl) (by rfl) (World.news_of_block (heap_alloc_new w4 _)) (by simp [SlC.cs, Value.oneCell']) (by omega) hcap1 hcap2 (by have h2 := HB4.out.size; simp at h2 ⊢; omega) (w4.heap.size + 1) (by simp) ?_; intro gg cap5 w5 hown2 hgrow hat hlt2; have HO2 := hid hown2; have HG := hid hgrow; have HAT := hid hat; clear hown2 hgrow hat hlt2))
    go_roundw
    case rel =>
      have h4 := HB4.out.size
      simp only [World.size_alloc] at h4
      have h14 : Below wb.heap.size w1 w4 := HBR.out.trans ((((Below.refl _ wp).alloc (Nat.le_refl _) (.cells #[.int .i64 x.k.k, .int .i64 x.k.i, .int .i64 x.k.s, .string x.k.t, .slice x.k.la x.k.ll x.k.lc, .slice x.k.fa x.k.fl x.k.fc, .int .i64 x.n, .int .i64 x.t, .slice x.ia x.il x.ic, .slice x.va x.vl x.vc] 58)).trans (HB4.out.mono (by simp))).mono hbs)
      have hpush : Built slK 58 wb.heap.size w5 (.slice (some ⟨gg, 0, none⟩) (k + 1) cap5) (k + 1) d.l :=
        Built.push (K := slK) (N := wp.heap.size) (w1 := w4) (o := (.cells #[.int .i64 c4.k.k, .int .i64 c4.k.i, .int .i64 c4.k.s, .string c4.k.t, .slice c4.k.la c4.k.ll c4.k.lc, .slice c4.k.fa c4.k.fl c4.k.fc, .int .i64 c4.n, .int .i64 c4.t, .slice c4.ia c4.il c4.ic, .slice c4.va c4.vl c4.vc] 58)) (c := c4) HCL.out
          (fun j hj hj' => slK.same (fun b hb => ⟨⟨hb.1, by have := hb.2.1; omega, hb.2.2⟩, (HB4.out.block b (by have := hb.2.1; simp; omega)).trans (Below.heap_alloc _ _ _ (by have := hb.2.1; omega))⟩) (HEL.out j hj hj')) hkl
          (HI4.out.same fun b hb => ⟨⟨by have := hb.1; simp at this; omega, hb.2⟩, rfl⟩) hbs (fun r e => (HVB.out r e).2) HO2.out HG.out HAT.out
      exact ⟨k + 1, _, rfl, by omega, by go_num, hpush, (h14.alloc (by omega) _).grown HG.out (by simp; omega) (fun r e => (HVB.out r e).1)⟩
    case measure => simp [intOf]; omega
  · obtain rfl : sl = k := by omega
    obtain ⟨va, vc1, rfl, hva, _, _⟩ := hbu.shape
    have hsz0 : wb.heap.size ≤ wp.heap.size := belowSize hbr HZB.out
    have gb : wp.heap[w.heap.size]? = some (.cells #[.int .i64 sn, .int .i64 st, .slice a sl sc] 55) := heapBelow hbr (heapGrown HG1.out G1.out (by simp)) (by have := HSB.out; omega)
    have gr : wp.heap[w.heap.size + 1]? = some (.cells #[.int .i64 0, .int .i64 0, .slice none 0 0] 55) := heapBelow hbr (heapGrown HG1.out G2.out (by simp)) (by have := HSB.out; omega)
    have HBP := hid (HBS.out.trans (hbr.mono HZS.out))
    have HBU := hid hbu
    have HGB := hid gb
    have HGR := hid gr
    have HSP := hid hsz0
    have e0 := cellOf gb 0; have ef0 := freeOf gb 0; have f0 := cellOf gr 0; have ff0 := freeOf gr 0; have e1 := cellOf gb 1; have ef1 := freeOf gb 1; have f1 := cellOf gr 1; have ff1 := freeOf gr 1; have e2 := cellOf gb 2; have ef2 := freeOf gb 2; have f2 := cellOf gr 2; have ff2 := freeOf gr 2
    (try dsimp only at e0 f0 e1 f1 e2 f2)
    clear gb gr hbu hbr hsz0 HO1 HG1 G1 G2 HWB HB0 HBS HZS HZB
    go_wp2
    clear e0 f0 ef0 ff0 e1 f1 ef1 ff1 e2 f2 ef2 ff2
    have hsp := HSP.out
    have hsb := HSB.out
    have h8 := heapSetOther (⟨w.heap.size, 2, none⟩ : Addr) (.slice va sl vc1) HGR.out (by dsimp only; omega)
    have h1 := heapSet (o := 2) (.slice va sl vc1) (heapSet (o := 1) (.int .i64 st) (heapSet (o := 0) (.int .i64 sn) h8))
    simp only [List.setIfInBounds_toArray, List.set_cons_zero, List.set_cons_succ] at h1
    obtain ⟨_, c1', e1', hr1⟩ := Built.row' HBU.out HLI.out (by dsimp only; omega)
    obtain ⟨rfl, rfl⟩ : va = _ ∧ vc1 = c1' := by (injection e1' with q1 _ q2; exact ⟨q1, q2⟩)
    have hO : ∀ b, b ≠ w.heap.size → b ≠ w.heap.size + 1 → ((((wp.setCell ⟨w.heap.size, 2, none⟩ (.slice va sl vc1)).setCell ⟨w.heap.size + 1, 0, none⟩ (.int .i64 sn)).setCell ⟨w.heap.size + 1, 1, none⟩ (.int .i64 st)).setCell ⟨w.heap.size + 1, 2, none⟩ (.slice va sl vc1)).heap[b]? = wp.heap[b]? := fun b h2 h3 => (Below.heap_setCell _ _ _ _ h3).trans ((Below.heap_setCell _ _ _ _ h3).trans ((Below.heap_setCell _ _ _ _ h3).trans (Below.heap_setCell _ _ _ _ h2)))
    have hS : ((((wp.setCell ⟨w.heap.size, 2, none⟩ (.slice va sl vc1)).setCell ⟨w.heap.size + 1, 0, none⟩ (.int .i64 sn)).setCell ⟨w.heap.size + 1, 1, none⟩ (.int .i64 st)).setCell ⟨w.heap.size + 1, 2, none⟩ (.slice va sl vc1)).heap.size = wp.heap.size := by simp [World.setCell]
    have hB9 : Below w.heap.size w ((((wp.setCell ⟨w.heap.size, 2, none⟩ (.slice va sl vc1)).setCell ⟨w.heap.size + 1, 0, none⟩ (.int .i64 sn)).setCell ⟨w.heap.size + 1, 1, none⟩ (.int .i64 st)).setCell ⟨w.heap.size + 1, 2, none⟩ (.slice va sl vc1)) := (((HBP.out.setCell (p := ⟨w.heap.size, 2, none⟩) (Nat.le_refl _) _).setCell (p := ⟨w.heap.size + 1, 0, none⟩) (by dsimp only; omega) _).setCell (p := ⟨w.heap.size + 1, 1, none⟩) (by dsimp only; omega) _).setCell (p := ⟨w.heap.size + 1, 2, none⟩) (by dsimp only; omega) _
    have I1 := hr1.same (S' := fun b => w.heap.size ≤ b ∧ b < ((((wp.setCell ⟨w.heap.size, 2, none⟩ (.slice va sl vc1)).setCell ⟨w.heap.size + 1, 0, none⟩ (.int .i64 sn)).setCell ⟨w.heap.size + 1, 1, none⟩ (.int .i64 st)).setCell ⟨w.heap.size + 1, 2, none⟩ (.slice va sl vc1)).heap.size) (w' := ((((wp.setCell ⟨w.heap.size, 2, none⟩ (.slice va sl vc1)).setCell ⟨w.heap.size + 1, 0, none⟩ (.int .i64 sn)).setCell ⟨w.heap.size + 1, 1, none⟩ (.int .i64 st)).setCell ⟨w.heap.size + 1, 2, none⟩ (.slice va sl vc1))) fun b q => ⟨by rw [hS]; omega, hO b (by omega) (by omega)⟩
    have HBU9 : Built slK 58 (w.heap.size + 2) ((((wp.setCell ⟨w.heap.size, 2, none⟩ (.slice va sl vc1)).setCell ⟨w.heap.size + 1, 0, none⟩ (.int .i64 sn)).setCell ⟨w.heap.size + 1, 1, none⟩ (.int .i64 st)).setCell ⟨w.heap.size + 1, 2, none⟩ (.slice va sl vc1)) (.slice va sl vc1) sl d.l := by
      have h0 := HBU.out
      rw [hsb] at h0
      exact (((h0.set (⟨w.heap.size, 2, none⟩ : Addr) _ (by dsimp only; omega)).set (⟨w.heap.size + 1, 0, none⟩ : Addr) _ (by dsimp only; omega)).set (⟨w.heap.size + 1, 1, none⟩ : Addr) _ (by dsimp only; omega)).set (⟨w.heap.size + 1, 2, none⟩ : Addr) _ (by dsimp only; omega)
    exact bodyPost_ret (v := StC.v ⟨sn, st, va, sl, vc1⟩) (by simp [results, Tryz.results39, go_sem, cellOf h1]) rfl ⟨(⟨sn, st, va, sl, vc1⟩ : StC), rfl, hB9, ⟨HNT.out.1, HNT.out.2.1, HNT.out.2.2.1, HNT.out.2.2.2, I1⟩, HBU9⟩
end Go.Proofs.YthjlgpmajeafpaaGreatDoor

/-
  Plain: equality of slots and states is symmetric; what a store of another number into a built row's first slot leaves. No program in sight.
-/
namespace Go.Proofs.YthjlgpmajeafpaaGreatDoor
open Go Go.RowKit
set_option linter.unusedVariables false
set_option linter.unusedSimpArgs false

theorem valEqB_symm (d d2 : Val) : valEqB d d2 = valEqB d2 d := by
  have h := cmpV_anti d d2
  simp only [valEqB, h]
  rw [Bool.eq_iff_iff, beq_iff_eq, beq_iff_eq]
  omega
theorem slEqB_symm (d d2 : Slot) : slEqB d d2 = slEqB d2 d := by
  have h := valEqB_symm d.k d2.k
  simp only [valEqB] at h
  rw [slEqB, slEqB, h, eqL_symm msgEqB_symm d.items d2.items, eqL_symm valEqB_symm d.vals d2.vals]
  have e1 : decide (d.n = d2.n) = decide (d2.n = d.n) := by congr 1; exact propext ⟨Eq.symm, Eq.symm⟩
  have e2 : decide (d.t = d2.t) = decide (d2.t = d.t) := by congr 1; exact propext ⟨Eq.symm, Eq.symm⟩
  rw [e1, e2]
theorem staEqB_symm (d d2 : Sta) : staEqB d d2 = staEqB d2 d := by
  rw [staEqB, staEqB, eqL_symm slEqB_symm d.l d2.l]
  have e1 : decide (d.n = d2.n) = decide (d2.n = d.n) := by congr 1; exact propext ⟨Eq.symm, Eq.symm⟩
  have e2 : decide (d.t = d2.t) = decide (d2.t = d.t) := by congr 1; exact propext ⟨Eq.symm, Eq.symm⟩
  rw [e1, e2]
theorem xor_one_mod (a : Nat) : (a ^^^ 1) % 2 = (a + 1) % 2 := by
  have h := Nat.testBit_xor a 1 0
  simp only [Nat.testBit_zero] at h
  rcases Nat.mod_two_eq_zero_or_one a with h1 | h1 <;> rcases Nat.mod_two_eq_zero_or_one (a ^^^ 1) with h2 | h2 <;> simp [h1, h2] at h <;> omega
theorem xor1_ne (x : Int) (hx : I64 x) : bits .xor .i64 x 1 ≠ x := by
  have h1 : ((BitVec.ofInt 64 x ^^^ BitVec.ofInt 64 1).toNat) % 2 = ((BitVec.ofInt 64 x).toNat + 1) % 2 := by
    rw [BitVec.toNat_xor, show (BitVec.ofInt 64 1).toNat = 1 by decide]
    exact xor_one_mod _
  have h2 : ((BitVec.ofInt 64 x).toNat : Int) = x % 18446744073709551616 := by
    rw [BitVec.toNat_ofInt]
    have : 0 ≤ x % ((2 ^ 64 : Nat) : Int) := Int.emod_nonneg _ (by decide)
    rw [Int.toNat_of_nonneg this]
    rfl
  have h3 : bits .xor .i64 x 1 = IntKind.i64.wrap ((BitVec.ofInt 64 x ^^^ BitVec.ofInt 64 1).toNat : Int) := rfl
  rw [h3]
  generalize (BitVec.ofInt 64 x ^^^ BitVec.ofInt 64 1).toNat = a at *
  generalize (BitVec.ofInt 64 x).toNat = b at *
  intro h4
  have h5 : IntKind.i64.wrap (a : Int) % 2 = (a : Int) % 2 := by
    simp only [IntKind.wrap, IntKind.bits, IntKind.signed]
    omega
  omega
theorem xor1_i64 (x : Int) : I64 (bits .xor .i64 x 1) := bounds_i64 (wf_bits .xor .i64 x 1)
/-- The slots with another number in the first. -/
def pokeL (l : List Slot) (z : Int) : List Slot := match l with
  | [] => []
  | x :: r => { x with n := z } :: r
theorem pokeL_ne {d : Sta} {z : Int} (h : 0 < d.l.length) (hz : ∀ (g : 0 < d.l.length), z ≠ d.l[0].n) : staEqB ⟨d.n, d.t, pokeL d.l z⟩ d = false := by
  obtain ⟨n, t, l⟩ := d
  cases l with
  | nil => simp at h
  | cons x r =>
    have h1 : z ≠ x.n := hz h
    simp [staEqB, pokeL, eqL, slEqB, h1]
theorem pokeL_get {l : List Slot} {z : Int} (j : Nat) (h : j < (pokeL l z).length) (h' : j < l.length) : (pokeL l z)[j] = if j = 0 then { l[j] with n := z } else l[j] := by
  cases l with
  | nil => simp at h'
  | cons x r =>
    cases j with
    | zero => simp [pokeL]
    | succ j => simp [pokeL]
theorem pokeL_len (l : List Slot) (z : Int) : (pokeL l z).length = l.length := by cases l <;> simp [pokeL]
theorem SlC.cs_at (c : SlC) : c.cs = [.int .i64 c.k.k, .int .i64 c.k.i, .int .i64 c.k.s, .string c.k.t, .slice c.k.la c.k.ll c.k.lc, .slice c.k.fa c.k.fl c.k.fc, .int .i64 c.n, .int .i64 c.t, .slice c.ia c.il c.ic, .slice c.va c.vl c.vc] := rfl
/-- A store of another number into the first slot of a built row. -/
theorem Built.poke {T B : Nat} {w : World} {g n cap : Nat} {l : List Slot} (h : Built slK T B w (.slice (some ⟨g, 0, none⟩) n cap) n l) (hn : n = l.length) (hbig : n * 152 ≤ 140737488351232) (z : Int) (hz : I64 z) :
    IsRow slK (fun b => B ≤ b ∧ b < w.heap.size) (w.setCell ⟨g, 6, none⟩ (.int .i64 z)) (some ⟨g, 0, none⟩) n cap (pokeL l z) := by
  obtain ⟨cs, h1, h2, h3⟩ := h
  have hat := fun j (hj : j < cs.length) => AtG.ofRow (K := slK) h2 j hj
  obtain ⟨hlen, h4 | ⟨g', cap', cur, hv, hB, hg, hcap, _, hsz, _⟩⟩ := h2
  · exact absurd h4.1 (by simp)
  · simp only [Value.slice.injEq, Option.some.injEq, Addr.mk.injEq, and_true] at hv
    obtain ⟨rfl, _, rfl⟩ := hv
    have hgl : g < w.heap.size := ltOf hg
    have hset := heapSet (o := 6) (.int .i64 z) hg
    refine ⟨by rw [pokeL_len]; exact hn, hcap, hbig, ?_⟩
    rcases Nat.eq_zero_or_pos n with h0 | h0
    · exact .inl (List.eq_nil_of_length_eq_zero (by rw [pokeL_len]; omega))
    · refine .inr ⟨g, 0, rfl, ⟨hB, hgl⟩, fun j hj => ?_⟩
      have hj' : j < l.length := by rw [pokeL_len] at hj; exact hj
      have hjc : j < cs.length := by omega
      have hother : ∀ b, b ≠ g → (w.setCell ⟨g, 6, none⟩ (.int .i64 z)).heap[b]? = w.heap[b]? := fun b hb => Below.heap_setCell _ _ _ _ hb
      have hIs : IsSl (fun b => B ≤ b ∧ b < w.heap.size) (w.setCell ⟨g, 6, none⟩ (.int .i64 z)) cs[j] l[j] := (h3 j hjc hj').same fun b q => ⟨⟨q.1, q.2.1⟩, hother b (fun e => q.2.2 (by rw [e]; rfl))⟩
      have hcell : ∀ i, i < 10 → (w.setCell ⟨g, 6, none⟩ (.int .i64 z)).cell? ⟨g, 0 + j * 10 + i, none⟩ = if 0 + j * 10 + i = 6 then some (.int .i64 z) else (slK.cs cs[j])[i]? := fun i hi => by
        have e1 := hat j hjc i hi
        have e2 := cellOf hg (j * 10 + i)
        have e3 := cellOf hset (j * 10 + i)
        rw [Nat.zero_add]
        rw [e3, Array.getElem?_setIfInBounds]
        by_cases q : 6 = j * 10 + i
        · rw [if_pos q, if_pos q.symm, if_pos (by rw [hsz]; show 6 < cap * 10; omega)]
        · rw [if_neg q, if_neg (fun h => q h.symm), ← e2]
          exact e1
      by_cases hj0 : j = 0
      · subst hj0
        refine ⟨{ cs[0] with n := z }, fun i hi => ?_, ?_⟩
        · rw [hcell i hi]
          by_cases q : i = 6
          · subst q; rfl
          · rw [if_neg (by omega)]
            match i, hi, q with
            | 0, _, _ => rfl
            | 1, _, _ => rfl
            | 2, _, _ => rfl
            | 3, _, _ => rfl
            | 4, _, _ => rfl
            | 5, _, _ => rfl
            | 6, _, q => exact absurd rfl q
            | 7, _, _ => rfl
            | 8, _, _ => rfl
            | 9, _, _ => rfl
        · rw [pokeL_get 0 hj hj', if_pos rfl]
          exact ⟨hIs.k, rfl, hz, hIs.t, hIs.rt, hIs.items, hIs.vals⟩
      · refine ⟨cs[j], fun i hi => ?_, ?_⟩
        · rw [hcell i hi, if_neg (by omega)]
        · rw [pokeL_get j hj hj', if_neg hj0]
          exact hIs
end Go.Proofs.YthjlgpmajeafpaaGreatDoor
