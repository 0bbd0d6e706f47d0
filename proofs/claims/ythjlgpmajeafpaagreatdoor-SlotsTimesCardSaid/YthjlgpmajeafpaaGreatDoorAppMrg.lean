/-
  slots.Waiting and slots.Held: the messages of a state, cloned, in order, and their number. Conditions: the state can be read as data and is small.
-/
import Derived.Test.YthjlgpmajeafpaaGreatDoorSmallSMrg
import Derived.Test.YthjlgpmajeafpaaGreatDoorSlotDMrg
import Derived.Test.YthjlgpmajeafpaaGreatDoorKeepMrg
import Derived.Deep.AppendLies
import Derived.Deep.Upon
namespace Go.Proofs.YthjlgpmajeafpaaGreatDoor
open Go Go.RowKit Go.Shelf
set_option linter.unusedVariables false
set_option linter.unusedSimpArgs false

/-- The messages that wait, in order. -/
def waitL : List Slot → List Msg
  | [] => []
  | x :: r => x.items ++ waitL r
theorem waitL_append : ∀ (l r : List Slot), waitL (l ++ r) = waitL l ++ waitL r
  | [], r => rfl
  | x :: l, r => by rw [List.cons_append, waitL, waitL, waitL_append l r, List.append_assoc]
theorem waitL_succ (l : List Slot) (k : Nat) (h : k < l.length) : waitL (l.take (k + 1)) = waitL (l.take k) ++ l[k].items := by
  rw [List.take_succ_eq_append_getElem h, waitL_append]
  simp [waitL]
theorem waitL_cut (l : List Slot) (k : Nat) (h : k < l.length) : waitL l = waitL (l.take k) ++ (l[k].items ++ waitL (l.drop (k + 1))) := by
  have h1 : l = l.take k ++ (l[k] :: l.drop (k + 1)) := by
    rw [← List.drop_eq_getElem_cons h, List.take_append_drop]
  have h2 := congrArg waitL h1
  rw [waitL_append, waitL] at h2
  exact h2
theorem wait_get {l p i t : List Msg} (h : l = p ++ (i ++ t)) {r j : Nat} (hr : r < l.length) (hj : j < i.length) (e : r = p.length + j) : l[r] = i[j] := by
  subst h e
  rw [List.getElem_append_right (by omega)]
  simp only [Nat.add_sub_cancel_left]
  rw [List.getElem_append_left hj]
theorem waitL_le : ∀ (l : List Slot), (∀ x ∈ l, x.items.length ≤ 8) → (waitL l).length ≤ l.length * 8
  | [], _ => by simp [waitL]
  | x :: l, h => by
    have h1 := h x (List.mem_cons_self ..)
    have h2 := waitL_le l fun y hy => h y (List.mem_cons_of_mem _ hy)
    rw [waitL, List.length_append, List.length_cons]
    omega
theorem waitL_small {d : Sta} (h : SmSta d) : (waitL d.l).length ≤ 80 := by
  have h1 := waitL_le d.l fun x hx => (h.2 x hx).1
  have h2 := h.1
  omega

def WaitPost (w : World) (l : List Msg) (e : Ending) (w' : World) : Prop := ∃ a n c, e = .returned (.slice a n c) ∧ Below w.heap.size w w' ∧ IsRow msgK (fun b => w.heap.size ≤ b ∧ b < w'.heap.size) w' a n c l
set_option maxRecDepth 100000 in
set_option maxHeartbeats 16000000 in
theorem waiting_call (c : StC) (d : Sta) (w : World) (hd : IsSta (· < w.heap.size) w c d) (hsm : SmSta d) : Calls Tryz.prog 43 #[c.v] w (WaitPost w (waitL d.l)) := by
  obtain ⟨ti, hi, hz0, hz1, hz2⟩ := info_parts infoMsg
  obtain ⟨sn, st, a, sl, sc⟩ := c
  have hbig := hd.l.big
  have HLI := hid hd.l.len
  have HDI := hid hd.l
  dsimp only at hbig HLI HDI
  have HLEN := hid (waitL_small hsm)
  obtain ⟨wb, hwb⟩ : ∃ wb, wb = w.alloc (.cells #[.int .i64 sn, .int .i64 st, .slice a sl sc] 55) := ⟨_, rfl⟩
  have hb0 : Below w.heap.size w wb := by rw [hwb]; exact (Below.refl _ w).alloc (Nat.le_refl _) _
  have hsb : wb.heap.size = w.heap.size + 1 := by rw [hwb]; simp
  have g1 : wb.heap[w.heap.size]? = some (.cells #[.int .i64 sn, .int .i64 st, .slice a sl sc] 55) := by rw [hwb]; exact heap_alloc_new w _
  have k2 := cellOf g1 2
  (try dsimp only at k2)
  rw [hwb] at k2
  have HWB := hid hwb
  have HB0 := hid hb0
  have HSB := hid hsb
  clear hwb hb0 hsb g1 hd
  dsimp only [StC.v]
  go_enter Tryz.func43, Tryz.ntmps43
  go_wp2
  clear k2
  rw [← HWB.out]
  go_loopw [3, 11] (fun vv i wr => ∃ (k q : Nat) (v : Value), v = vv ∧ k ≤ sl ∧ i = .int .i64 k ∧ q = (waitL (d.l.take k)).length ∧ Built msgK 30 (w.heap.size + 1) wr v q (waitL d.l) ∧ Below (w.heap.size + 1) wb wr) (fun _ i _ => sl - (intOf i).toNat)
  case atStart => exact ⟨0, 0, _, rfl, Nat.zero_le _, rfl, (by rw [List.take_zero]; rfl), Built.nil _ _ _ _, Below.refl _ _⟩
  case round =>
  obtain ⟨k, q, v, rfl, hk, rfl, hq, hbu, hbr⟩ := hrel
  obtain ⟨wp, rfl⟩ : ∃ w1 : World, w1 = wr := ⟨_, rfl⟩
  have HQ := hid hq
  clear hq
  by_cases hlt : k < sl
  · have hkl : k < d.l.length := by have := HLI.out; omega
    obtain ⟨b, o, rfl, hb, hx⟩ := HDI.out.slot (show 0 < sl by omega)
    obtain ⟨x, hxa, hxi⟩ := hx k hkl
    have hbw : Below w.heap.size w wp := HB0.out.trans (hbr.mono (by omega))
    obtain ⟨x0, x1, x2, x3, x4, x5, x6, x7, x8, x9⟩ := (hxa.same (hbw.block b hb)).slot
    have hlt' : (k : Int) < (sl : Int) := by omega
    have hk0 : (0 : Int) ≤ (k : Int) := by omega
    obtain ⟨ds, hds⟩ : ∃ ds, ds = d.l[k] := ⟨_, rfl⟩
    have HTK := hid (show waitL (d.l.take (k + 1)) = waitL (d.l.take k) ++ ds.items by rw [hds]; exact waitL_succ d.l k hkl)
    have HPRE := hid (show ∃ t, waitL d.l = waitL (d.l.take k) ++ (ds.items ++ t) from ⟨_, by rw [hds]; exact waitL_cut d.l k hkl⟩)
    rw [← hds] at hxi
    have HIL := hid hxi.items.len
    have HII := hid hxi.items
    have hbigI := hxi.items.big
    dsimp only at hbigI
    have hg := heap_alloc_new wp (.cells #[.int .i64 x.k.k, .int .i64 x.k.i, .int .i64 x.k.s, .string x.k.t, .slice x.k.la x.k.ll x.k.lc, .slice x.k.fa x.k.fl x.k.fc, .int .i64 x.n, .int .i64 x.t, .slice x.ia x.il x.ic, .slice x.va x.vl x.vc] 58)
    have m8 := cellOf hg 8
    (try dsimp only at m8)
    have hbx : Below (w.heap.size + 1) wb (wp.alloc (.cells #[.int .i64 x.k.k, .int .i64 x.k.i, .int .i64 x.k.s, .string x.k.t, .slice x.k.la x.k.ll x.k.lc, .slice x.k.fa x.k.fl x.k.fc, .int .i64 x.n, .int .i64 x.t, .slice x.ia x.il x.ic, .slice x.va x.vl x.vc] 58)) := hbr.alloc (by have := hbr.size; have := HSB.out; omega) _
    have hbux := hbu.ext ((Below.refl _ wp).alloc (Nat.le_refl _) (.cells #[.int .i64 x.k.k, .int .i64 x.k.i, .int .i64 x.k.s, .string x.k.t, .slice x.k.la x.k.ll x.k.lc, .slice x.k.fa x.k.fl x.k.fc, .int .i64 x.n, .int .i64 x.t, .slice x.ia x.il x.ic, .slice x.va x.vl x.vc] 58))
    have HBX := hid hbx
    have HBUX := hid hbux
    have HSBP := hid (show (w.heap.size + 1) ≤ wp.heap.size by have := hbr.size; have := HSB.out; omega)
    clear hx hxa hxi hb hbw hds hg hbx hbux hbu hbr
    go_wp2
    clear m8
    obtain ⟨wx, hwx⟩ : ∃ wx, wx = wp.alloc (.cells #[.int .i64 x.k.k, .int .i64 x.k.i, .int .i64 x.k.s, .string x.k.t, .slice x.k.la x.k.ll x.k.lc, .slice x.k.fa x.k.fl x.k.fc, .int .i64 x.n, .int .i64 x.t, .slice x.ia x.il x.ic, .slice x.va x.vl x.vc] 58) := ⟨_, rfl⟩
    rw [← hwx] at HBX HBUX ⊢
    have HSX := hid (show (w.heap.size + 1) ≤ wx.heap.size by rw [hwx]; have := HSBP.out; simp; omega)
    clear hwx HSBP
    go_loopw [3, 18] (fun vv i wr => ∃ (j r : Nat) (v : Value), v = vv ∧ j ≤ x.il ∧ i = .int .i64 j ∧ r = q + j ∧ Built msgK 30 (w.heap.size + 1) wr v r (waitL d.l) ∧ Below (w.heap.size + 1) wb wr) (fun _ i _ => x.il - (intOf i).toNat)
    case atStart => exact ⟨0, q, _, rfl, Nat.zero_le _, rfl, rfl, HBUX.out, HBX.out⟩
    case round =>
    obtain ⟨j, r, v, rfl, hj, rfl, hr, hbu, hbr⟩ := hrel
    obtain ⟨wq, rfl⟩ : ∃ w1 : World, w1 = wr := ⟨_, rfl⟩
    clear HBX HBUX
    have HR := hid hr
    clear hr
    by_cases hlt : j < x.il
    · have hjl : j < ds.items.length := by have := HIL.out; omega
      obtain ⟨b, o, hia, hb, hy⟩ := HII.out.slot (show 0 < x.il by omega)
      obtain ⟨y, hya, hyi⟩ := hy j hjl
      obtain ⟨ia, hia2⟩ : ∃ ia, ia = x.ia := ⟨_, rfl⟩
      rw [← hia2] at hia ⊢
      clear hia2
      subst hia
      have hbw : Below w.heap.size w wq := HB0.out.trans (hbr.mono (by omega))
      obtain ⟨y0, y1, y2, y3, y4, y5, y6, y7, y8, y9⟩ := (hya.same (hbw.block b hb)).m
      have hlt' : (j : Int) < (x.il : Int) := by omega
      have hk0 : (0 : Int) ≤ (j : Int) := by omega
      obtain ⟨cs, hcs, hown, hel⟩ := hbu
      have hvb := Built.own (K := msgK) ⟨cs, hcs, hown, hel⟩
      have hba : Below w.heap.size w (wq.alloc (.cells #[.int .i64 y.st.e, .slice y.st.a y.st.n y.st.c, .int .i64 y.m, .slice y.a y.n y.c, .int .i64 y.b.k, .int .i64 y.b.i, .int .i64 y.b.s, .string y.b.t, .slice y.b.la y.b.ll y.b.lc, .slice y.b.fa y.b.fl y.b.fc] 30)) := hbw.alloc hbw.size _
      have hbs : (w.heap.size + 1) ≤ wq.heap.size := by have := hbr.size; have := HSB.out; omega
      have hrl : r < (waitL d.l).length := by
        obtain ⟨t, ht⟩ := HPRE.out
        have := HR.out; have := HQ.out
        rw [ht]; simp; omega
      have HGET := hid (show (waitL d.l)[r] = ds.items[j] by
        obtain ⟨t, ht⟩ := HPRE.out
        have h1 := HR.out; have h2 := HQ.out
        exact wait_get ht hrl hjl (by omega))
      have HCS : Hid (Calls Tryz.prog 88 #[.agg #[.int .i64 y.st.e, .slice y.st.a y.st.n y.st.c, .int .i64 y.m, .slice y.a y.n y.c, .int .i64 y.b.k, .int .i64 y.b.i, .int .i64 y.b.s, .string y.b.t, .slice y.b.la y.b.ll y.b.lc, .slice y.b.fa y.b.fl y.b.fc]] (wq.alloc (.cells #[.int .i64 y.st.e, .slice y.st.a y.st.n y.st.c, .int .i64 y.m, .slice y.a y.n y.c, .int .i64 y.b.k, .int .i64 y.b.i, .int .i64 y.b.s, .string y.b.t, .slice y.b.la y.b.ll y.b.lc, .slice y.b.fa y.b.fl y.b.fc] 30)) fun e w' => ∃ c' : MC, e = .returned (.agg #[.int .i64 c'.st.e, .slice c'.st.a c'.st.n c'.st.c, .int .i64 c'.m, .slice c'.a c'.n c'.c, .int .i64 c'.b.k, .int .i64 c'.b.i, .int .i64 c'.b.s, .string c'.b.t, .slice c'.b.la c'.b.ll c'.b.lc, .slice c'.b.fa c'.b.fl c'.b.fc]) ∧ Below (wq.alloc (.cells #[.int .i64 y.st.e, .slice y.st.a y.st.n y.st.c, .int .i64 y.m, .slice y.a y.n y.c, .int .i64 y.b.k, .int .i64 y.b.i, .int .i64 y.b.s, .string y.b.t, .slice y.b.la y.b.ll y.b.lc, .slice y.b.fa y.b.fl y.b.fc] 30)).heap.size (wq.alloc (.cells #[.int .i64 y.st.e, .slice y.st.a y.st.n y.st.c, .int .i64 y.m, .slice y.a y.n y.c, .int .i64 y.b.k, .int .i64 y.b.i, .int .i64 y.b.s, .string y.b.t, .slice y.b.la y.b.ll y.b.lc, .slice y.b.fa y.b.fl y.b.fc] 30)) w' ∧ IsMsg (fun b => (wq.alloc (.cells #[.int .i64 y.st.e, .slice y.st.a y.st.n y.st.c, .int .i64 y.m, .slice y.a y.n y.c, .int .i64 y.b.k, .int .i64 y.b.i, .int .i64 y.b.s, .string y.b.t, .slice y.b.la y.b.ll y.b.lc, .slice y.b.fa y.b.fl y.b.fc] 30)).heap.size ≤ b ∧ b < w'.heap.size) w' c' ds.items[j]) := hid (msgClone_call y ds.items[j] (wq.alloc (.cells #[.int .i64 y.st.e, .slice y.st.a y.st.n y.st.c, .int .i64 y.m, .slice y.a y.n y.c, .int .i64 y.b.k, .int .i64 y.b.i, .int .i64 y.b.s, .string y.b.t, .slice y.b.la y.b.ll y.b.lc, .slice y.b.fa y.b.fl y.b.fc] 30)) (msgK.same (fun b q => ⟨by have := hba.size; omega, hba.block b q⟩) hyi))
      have HVB := hid hvb
      have HOWN := hid hown
      have HEL := hid hel
      have HCL := hid hcs
      have HBR := hid hbr
      have HRL := hid hrl
      have hr80 : r + 1 ≤ 80 := by have := HLEN.out; omega
      have hcap1 : r + 1 ≤ maxLen := by unfold maxLen; omega
      have hcap2 : (r + 1) * 152 ≤ 140737488355328 := by omega
      clear hvb hown hel hcs hba hbr hyi hya hy hb hbw hr80
      go_wp2_with (first
        | (at_builtin; refine wpList_append_lies _ (by rfl) _ _ 36 (by rfl) (w.heap.size + 1) 30 ti _ 10 152 Tryz.underlying36 hi hz0 hz1 hz2 rfl (by omega) v r (cs.flatMap MC.cs) (by rfl) ((ownExt (HOWN.out.alloc _) HB4.out).alloc (.cells #[.int .i64 c4.st.e, .slice c4.st.a c4.st.n c4.st.c, .int .i64 c4.m, .slice c4.a c4.n c4.c, .int .i64 c4.b.k, .int .i64 c4.b.i, .int .i64 c4.b.s, .string c4.b.t, .slice c4.b.la c4.b.ll c4.b.lc, .slice c4.b.fa c4.b.fl c4.b.fc] 30)) ⟨w4.heap.size, 0, none⟩ 1 1 (MC.cs c4) (by rfl) (by rfl) (World.news_of_block (heap_alloc_new w4 _)) (by simp [MC.cs, Value.oneCell']) (by omega) hcap1 hcap2 (by have h2 := HB4.out.size; simp at h2 ⊢; omega) (w4.heap.size + 1) (by simp) ?_; intro gg cap5 w5 hown2 hgrow hat hlt2; have HO2 := hid hown2; have HG := hid hgrow; have HAT := hid hat; clear hown2 hgrow hat hlt2)
        | (go_at_call 88; refine HCS.out.mono ?_; rintro e w4 ⟨c4, rfl, hb4, hi4⟩; have HB4 := hid hb4; have HI4 := hid hi4; clear hb4 hi4))
      go_roundw
      case rel =>
        have h4 := HB4.out.size
        simp only [World.size_alloc] at h4
        have h14 : Below (w.heap.size + 1) wb w4 := HBR.out.trans ((((Below.refl _ wq).alloc (Nat.le_refl _) (.cells #[.int .i64 y.st.e, .slice y.st.a y.st.n y.st.c, .int .i64 y.m, .slice y.a y.n y.c, .int .i64 y.b.k, .int .i64 y.b.i, .int .i64 y.b.s, .string y.b.t, .slice y.b.la y.b.ll y.b.lc, .slice y.b.fa y.b.fl y.b.fc] 30)).trans (HB4.out.mono (by simp))).mono hbs)
        have hpush : Built msgK 30 (w.heap.size + 1) w5 (.slice (some ⟨gg, 0, none⟩) (r + 1) cap5) (r + 1) (waitL d.l) :=
          Built.push (K := msgK) (N := wq.heap.size) (w1 := w4) (o := (.cells #[.int .i64 c4.st.e, .slice c4.st.a c4.st.n c4.st.c, .int .i64 c4.m, .slice c4.a c4.n c4.c, .int .i64 c4.b.k, .int .i64 c4.b.i, .int .i64 c4.b.s, .string c4.b.t, .slice c4.b.la c4.b.ll c4.b.lc, .slice c4.b.fa c4.b.fl c4.b.fc] 30)) (c := c4) HCL.out
            (fun j hj hj' => msgK.same (fun b hb => ⟨⟨hb.1, by have := hb.2.1; omega, hb.2.2⟩, (HB4.out.block b (by have := hb.2.1; simp; omega)).trans (Below.heap_alloc _ _ _ (by have := hb.2.1; omega))⟩) (HEL.out j hj hj')) HRL.out
            (by rw [HGET.out]; exact HI4.out.same fun b hb => ⟨⟨by have := hb.1; simp at this; omega, hb.2⟩, rfl⟩) hbs (fun r e => (HVB.out r e).2) HO2.out HG.out HAT.out
        exact ⟨j + 1, r + 1, _, rfl, by omega, by go_num, by have := HR.out; omega, hpush, (h14.alloc (by omega) _).grown HG.out (by simp; omega) (fun r e => (HVB.out r e).1)⟩
      case measure => simp [intOf]; omega
    · obtain rfl : j = x.il := by omega
      have HBU := hid hbu
      have HBR := hid hbr
      clear hbu hbr
      go_wp2
      go_roundw
      case rel => exact ⟨k + 1, r, _, rfl, by omega, by go_num, by rw [HTK.out, List.length_append]; have := HR.out; have := HQ.out; have := HIL.out; omega, HBU.out, HBR.out⟩
      case measure => simp [intOf]; omega
  · obtain rfl : k = sl := by omega
    have hql : q = (waitL d.l).length := by rw [HQ.out, show k = d.l.length from HLI.out, List.take_length]
    have hl80 := HLEN.out
    obtain ⟨av, capv, rfl, hrow⟩ := Built.row' hbu hql (by dsimp only; omega)
    have HROW := hid (hrow.same (S' := fun b => w.heap.size ≤ b ∧ b < wp.heap.size) (w' := wp) fun b q => ⟨⟨by omega, q.2⟩, rfl⟩)
    have HBR := hid hbr
    clear hrow hbu hbr hql hl80
    go_wp2
    go_ret
    exact ⟨av, q, capv, rfl, HB0.out.trans (HBR.out.mono (by omega)), HROW.out⟩

set_option maxRecDepth 100000 in
set_option maxHeartbeats 8000000 in
theorem held_call (c : StC) (d : Sta) (w : World) (hd : IsSta (· < w.heap.size) w c d) (hsm : SmSta d) : Calls Tryz.prog 44 #[c.v] w fun e w' => e = .returned (.int .i64 ((waitL d.l).length : Nat)) ∧ Below w.heap.size w w' := by
  obtain ⟨sn, st, a, sl, sc⟩ := c
  have hbig := hd.l.big
  have HLI := hid hd.l.len
  have HDI := hid hd.l
  dsimp only at hbig HLI HDI
  have HLEN := hid (waitL_small hsm)
  obtain ⟨wb, hwb⟩ : ∃ wb, wb = w.alloc (.cells #[.int .i64 sn, .int .i64 st, .slice a sl sc] 55) := ⟨_, rfl⟩
  have hb0 : Below w.heap.size w wb := by rw [hwb]; exact (Below.refl _ w).alloc (Nat.le_refl _) _
  have g1 : wb.heap[w.heap.size]? = some (.cells #[.int .i64 sn, .int .i64 st, .slice a sl sc] 55) := by rw [hwb]; exact heap_alloc_new w _
  have k2 := cellOf g1 2
  (try dsimp only at k2)
  rw [hwb] at k2
  have HWB := hid hwb
  have HB0 := hid hb0
  clear hwb hb0 g1 hd
  dsimp only [StC.v]
  go_enter Tryz.func44, Tryz.ntmps44
  go_wp2
  clear k2
  rw [← HWB.out]
  go_loopw [3, 9] (fun vv i wr => ∃ (k q : Nat), vv = .int .i64 q ∧ k ≤ sl ∧ i = .int .i64 k ∧ q = (waitL (d.l.take k)).length ∧ Below wb.heap.size wb wr) (fun _ i _ => sl - (intOf i).toNat)
  case atStart => exact ⟨0, 0, rfl, Nat.zero_le _, rfl, (by rw [List.take_zero]; rfl), Below.refl _ _⟩
  case round =>
  obtain ⟨k, q, rfl, hk, rfl, hq, hbr⟩ := hrel
  obtain ⟨wp, rfl⟩ : ∃ w1 : World, w1 = wr := ⟨_, rfl⟩
  have HQ := hid hq
  clear hq
  by_cases hlt : k < sl
  · have hkl : k < d.l.length := by have := HLI.out; omega
    obtain ⟨b, o, rfl, hb, hx⟩ := HDI.out.slot (show 0 < sl by omega)
    obtain ⟨x, hxa, hxi⟩ := hx k hkl
    have hbw : Below w.heap.size w wp := HB0.out.trans (hbr.mono HB0.out.size)
    obtain ⟨x0, x1, x2, x3, x4, x5, x6, x7, x8, x9⟩ := (hxa.same (hbw.block b hb)).slot
    have hlt' : (k : Int) < (sl : Int) := by omega
    have hk0 : (0 : Int) ≤ (k : Int) := by omega
    have HTK := hid (show waitL (d.l.take (k + 1)) = waitL (d.l.take k) ++ d.l[k].items from waitL_succ d.l k hkl)
    have HIL := hid hxi.items.len
    have hsum : q + x.il ≤ 80 := by
      have h1 := waitL_cut d.l k hkl
      have h2 := HLEN.out
      rw [h1] at h2
      have h3 := HQ.out
      have h4 := HIL.out
      simp at h2
      omega
    have hi1 : (0 : Int) ≤ (q : Int) + (x.il : Int) := by omega
    have hi2 : (q : Int) + (x.il : Int) ≤ 80 := by omega
    have hwr : IntKind.i64.wrap ((q : Int) + (x.il : Int)) = ((q + x.il : Nat) : Int) := by rw [IntWalk.i64_in _ (by omega)]; omega
    have hg := heap_alloc_new wp (.cells #[.int .i64 x.k.k, .int .i64 x.k.i, .int .i64 x.k.s, .string x.k.t, .slice x.k.la x.k.ll x.k.lc, .slice x.k.fa x.k.fl x.k.fc, .int .i64 x.n, .int .i64 x.t, .slice x.ia x.il x.ic, .slice x.va x.vl x.vc] 58)
    have m8 := cellOf hg 8
    (try dsimp only at m8)
    have HBR := hid hbr
    clear hx hxa hxi hb hbw hg hbr hsum
    go_wp2
    go_roundw
    case rel => exact ⟨k + 1, q + x.il, by first | rfl | go_num | (simp; omega), by omega, by go_num, by rw [HTK.out, List.length_append]; have := HQ.out; have := HIL.out; omega, HBR.out.alloc HBR.out.size _⟩
    case measure => simp [intOf]; omega
  · obtain rfl : k = sl := by omega
    have hql := hid (show q = (waitL d.l).length by rw [HQ.out, show k = d.l.length from HLI.out, List.take_length])
    have HBR := hid hbr
    clear hbr
    go_wp2
    go_ret
    exact ⟨retI (by rw [hql.out]), HB0.out.trans (HBR.out.mono HB0.out.size)⟩
end Go.Proofs.YthjlgpmajeafpaaGreatDoor

/-
  message.Mass and slots.Mass. Conditions: the messages can be read as data; the state is small.
-/
namespace Go.Proofs.YthjlgpmajeafpaaGreatDoor
open Go Go.RowKit Go.Shelf
set_option linter.unusedVariables false
set_option linter.unusedSimpArgs false

def sumM : List Msg → Int
  | [] => 0
  | x :: r => x.m + sumM r
theorem sumM_append : ∀ (l r : List Msg), sumM (l ++ r) = sumM l + sumM r
  | [], r => by simp [sumM]
  | x :: l, r => by rw [List.cons_append, sumM, sumM, sumM_append l r]; omega
theorem sumM_take (l : List Msg) (k : Nat) (h : k < l.length) : sumM (l.take (k + 1)) = sumM (l.take k) + l[k].m := by
  rw [List.take_succ_eq_append_getElem h, sumM_append]
  simp [sumM]
def anyHv (l : List Msg) : Bool := l.any fun m => heavyB m.m
theorem anyHv_get {l : List Msg} (h : anyHv l = false) (k : Nat) (hk : k < l.length) : 0 ≤ l[k].m ∧ l[k].m ≤ 1099511627776 := by
  have h1 : ∀ m ∈ l, heavyB m.m = false := fun m hm => by
    rw [anyHv, List.any_eq_false] at h
    simpa using h m hm
  have h2 := h1 _ (List.getElem_mem hk)
  simp [heavyB] at h2
  omega
theorem sumM_in {l : List Msg} (h : anyHv l = false) : ∀ (k : Nat), k ≤ l.length → 0 ≤ sumM (l.take k) ∧ sumM (l.take k) ≤ (k : Int) * 1099511627776
  | 0, _ => by simp [sumM]
  | k + 1, hk => by
    have h1 := sumM_in h k (by omega)
    have h2 := anyHv_get h k (by omega)
    rw [sumM_take l k (by omega)]
    omega
/-- The sum of the masses, or 0. -/
def massL (l : List Msg) : Int := if 1024 < l.length ∨ anyHv l = true then 0 else sumM l

set_option maxRecDepth 100000 in
theorem mass1_call (x : MC) (d : Msg) (w : World) (hd : IsMsg (· < w.heap.size) w x d) : Calls Tryz.prog 90 #[x.v] w fun e w' => e = .returned (.bool (heavyB d.m)) ∧ Below w.heap.size w w' := by
  have hb : Below w.heap.size w (w.alloc (mObj x)) := (Below.refl _ w).alloc (Nat.le_refl _) _
  have g1 := heap_alloc_new w (mObj x)
  have e2 := cellOf g1 2
  (try dsimp only [mObj] at e2)
  have HM : Hid (∀ w', Calls Tryz.prog 91 #[.int .i64 x.m] w' fun e w2 => e = .returned (.bool (heavyB d.m)) ∧ w' = w2) := hid fun w' => by rw [← hd.m]; exact heavy_call x.m w'
  have HB := hid hb
  clear hb hd g1
  dsimp only [mObj, MC.v] at HB e2 ⊢
  go_enter Tryz.func90, Tryz.ntmps90
  go_wp2_with (go_at_call 91; refine (HM.out _).mono ?_; rintro e w2 ⟨rfl, rfl⟩)
  go_ret
  exact ⟨rfl, HB.out⟩
set_option maxRecDepth 100000 in
set_option maxHeartbeats 4000000 in
theorem idxHv_call (a : Option Addr) (n c : Nat) (l : List Msg) (w : World) (hd : IsRow msgK (· < w.heap.size) w a n c l) : Calls Tryz.prog 129 #[.slice a n c, .func (.func 90) #[] #[]] w (IdxPost w (anyHv l)) := by
  have hen : ∀ args w, (callFunc 90 args).run Tryz.prog w = .ok (.enter 90 args) w := enters_of Tryz.func90 (by kernel_rfl) rfl
  have hbig := hd.big
  have HL := hid hd.len
  have HD := hid hd
  clear hd
  go_enter Tryz.func129, Tryz.ntmps129
  go_wp2
  go_loopw [8] (fun i wr => ∃ k : Nat, k ≤ n ∧ i = .int .i64 k ∧ (∀ j (hj : j < l.length), j < k → heavyB l[j].m = false) ∧ Below w.heap.size w wr) (fun i _ => n - (intOf i).toNat)
  case atStart => exact ⟨0, Nat.zero_le _, rfl, fun j _ h => absurd h (Nat.not_lt_zero j), Below.refl _ _⟩
  case round =>
    obtain ⟨k, hk, rfl, hall, hbr⟩ := hrel
    obtain ⟨wp, rfl⟩ : ∃ w1 : World, w1 = wr := ⟨_, rfl⟩
    have HA := hid hall
    have HBR := hid hbr
    clear hall
    by_cases hlt : k < n
    · have hkl : k < l.length := by have := HL.out; omega
      obtain ⟨b, o, rfl, hb, hx⟩ := HD.out.slot (show 0 < n by omega)
      obtain ⟨x, hxa, hxi⟩ := hx k hkl
      obtain ⟨x0, x1, x2, x3, x4, x5, x6, x7, x8, x9⟩ := (hxa.same (hbr.block b hb)).m
      have hlt' : (k : Int) < (n : Int) := by omega
      have hk0 : (0 : Int) ≤ (k : Int) := by omega
      have hn63 : (n : Int) ≤ 9223372036854775807 := by omega
      obtain ⟨u, hu⟩ : ∃ u, u = heavyB l[k].m := ⟨_, rfl⟩
      have HC : Hid (Calls Tryz.prog 90 #[x.v] wp fun e w' => e = .returned (.bool u) ∧ Below wp.heap.size wp w') := hid (by
        rw [hu]
        have hs := hbr.size
        exact mass1_call x l[k] wp (msgK.same (fun b q => ⟨by omega, hbr.block b q⟩) hxi))
      have HU := hid hu
      dsimp only [MC.v] at HC
      clear hu hx hxa hxi hbr hb
      cases u with
      | true =>
        go_wp2_with (go_at_call 90; refine HC.out.mono ?_; rintro e w3 ⟨rfl, hb3⟩)
        go_ret
        exact ⟨⟨k, rfl, ⟨fun _ => by rw [anyHv, List.any_eq_true]; exact ⟨_, List.getElem_mem hkl, HU.out.symm⟩, fun _ => by omega⟩⟩, HBR.out.trans (hb3.mono HBR.out.size)⟩
      | false =>
        go_wp2_with (go_at_call 90; refine HC.out.mono ?_; rintro e w3 ⟨rfl, hb3⟩)
        go_roundw
        case rel => exact ⟨k + 1, by omega, by go_num, fun j hj h => by
          by_cases hjk : j < k
          · exact HA.out j hj hjk
          · obtain rfl : j = k := by omega
            exact HU.out.symm, HBR.out.trans (hb3.mono HBR.out.size)⟩
        case measure => simp [intOf]; omega
    · obtain rfl : k = n := by omega
      go_wp2
      go_ret
      refine ⟨⟨-1, rfl, ⟨fun h => by omega, fun h => ?_⟩⟩, hbr⟩
      exfalso
      rw [anyHv, List.any_eq_true] at h
      obtain ⟨m, hm, he⟩ := h
      obtain ⟨j, hj, rfl⟩ := List.getElem_of_mem hm
      rw [HA.out j hj (by have := HL.out; omega)] at he
      cases he
theorem hasHv_call (a : Option Addr) (n c : Nat) (l : List Msg) (w : World) (hd : IsRow msgK (· < w.heap.size) w a n c l) : Calls Tryz.prog 89 #[.slice a n c, .func (.func 90) #[] #[]] w fun e w' => e = .returned (.bool (anyHv l)) ∧ Below w.heap.size w w' := by
  obtain ⟨p, hp⟩ : ∃ p, p = anyHv l := ⟨_, rfl⟩
  have hc := idxHv_call a n c l w hd
  rw [← hp] at hc ⊢
  have HC := hid hc
  clear hc hd hp
  go_enter Tryz.func89, Tryz.ntmps89
  cases p with
  | true =>
    go_wp2_with (go_at_call 129; refine HC.out.mono ?_; rintro e w2 ⟨⟨k, rfl, hk⟩, hb2⟩; have hk0 : 0 ≤ k := hk.2 rfl; clear hk)
    go_ret
    exact ⟨rfl, hb2⟩
  | false =>
    go_wp2_with (go_at_call 129; refine HC.out.mono ?_; rintro e w2 ⟨⟨k, rfl, hk⟩, hb2⟩; have hk0 : k < 0 := Int.not_le.1 (fun h => absurd (hk.1 h) (by decide)); have hk1 : decide (0 ≤ k) = false := decide_eq_false (by omega); clear hk)
    go_ret
    exact ⟨rfl, hb2⟩
set_option maxRecDepth 100000 in
set_option maxHeartbeats 4000000 in
theorem mass_call (a : Option Addr) (n c : Nat) (l : List Msg) (w : World) (hd : IsRow msgK (· < w.heap.size) w a n c l) : Calls Tryz.prog 46 #[.slice a n c] w fun e w' => e = .returned (.int .i64 (massL l)) ∧ Below w.heap.size w w' := by
  have hbig := hd.big
  have HL := hid hd.len
  have HD := hid hd
  obtain ⟨p, hp⟩ : ∃ p, p = anyHv l := ⟨_, rfl⟩
  have HP := hid hp
  have HCF : Hid (Calls Tryz.prog 89 #[.slice a n c, .func (.func 90) #[] #[]] w fun e w' => e = .returned (.bool p) ∧ Below w.heap.size w w') := hid (by rw [hp]; exact hasHv_call a n c l w hd)
  clear hd hp
  go_enter Tryz.func46, Tryz.ntmps46
  by_cases hbl : 1024 < n
  · have hbl' : (1024 : Int) < (n : Int) := by omega
    have r := hid (show massL l = 0 by rw [massL, if_pos (.inl (by rw [← HL.out]; exact hbl))])
    go_wp2
    go_ret
    exact ⟨retI r.out.symm, Below.refl _ _⟩
  have hbl' : ¬ (1024 : Int) < (n : Int) := by omega
  cases p with
  | true =>
    have r := hid (show massL l = 0 by rw [massL, if_pos (.inr HP.out.symm)])
    go_wp2_with (go_at_call 89; refine HCF.out.mono ?_; rintro e w2 ⟨rfl, hb2⟩)
    go_ret
    exact ⟨retI r.out.symm, hb2⟩
  | false =>
    have r := hid (show massL l = sumM l by rw [massL, if_neg (fun h => by rcases h with h | h; exact hbl (by rw [HL.out]; exact h); rw [← HP.out] at h; cases h)])
    go_wp2_with (go_at_call 89; refine HCF.out.mono ?_; rintro e w2 ⟨rfl, hb2⟩)
    have HB2 := hid hb2
    clear hb2
    go_loopw [3, 15] (fun vv i wr => ∃ (k : Nat) (z : Int), vv = .int .i64 z ∧ k ≤ n ∧ i = .int .i64 k ∧ z = sumM (l.take k) ∧ Below w.heap.size w wr) (fun _ i _ => n - (intOf i).toNat)
    case atStart => exact ⟨0, 0, rfl, Nat.zero_le _, rfl, (by rw [List.take_zero]; rfl), HB2.out⟩
    case round =>
    obtain ⟨k, z, rfl, hk, rfl, hz, hbr⟩ := hrel
    obtain ⟨wp, rfl⟩ : ∃ w1 : World, w1 = wr := ⟨_, rfl⟩
    have HZ := hid hz
    have HBR := hid hbr
    clear hz
    by_cases hlt : k < n
    · have hkl : k < l.length := by have := HL.out; omega
      obtain ⟨b, o, rfl, hb, hx⟩ := HD.out.slot (show 0 < n by omega)
      obtain ⟨x, hxa, hxi⟩ := hx k hkl
      obtain ⟨x0, x1, x2, x3, x4, x5, x6, x7, x8, x9⟩ := (hxa.same (hbr.block b hb)).m
      have hlt' : (k : Int) < (n : Int) := by omega
      have hk0 : (0 : Int) ≤ (k : Int) := by omega
      have HXM := hid (show x.m = l[k].m from hxi.m)
      have hin := sumM_in HP.out.symm k (by omega)
      have hget := anyHv_get HP.out.symm k hkl
      rw [← HZ.out] at hin
      rw [← HXM.out] at hget
      have hwr : IntKind.i64.wrap (z + x.m) = z + x.m := IntWalk.i64_in _ (by omega)
      have hg := heap_alloc_new wp (.cells #[.int .i64 x.st.e, .slice x.st.a x.st.n x.st.c, .int .i64 x.m, .slice x.a x.n x.c, .int .i64 x.b.k, .int .i64 x.b.i, .int .i64 x.b.s, .string x.b.t, .slice x.b.la x.b.ll x.b.lc, .slice x.b.fa x.b.fl x.b.fc] 30)
      have m2 := cellOf hg 2
      (try dsimp only at m2)
      clear hx hxa hxi hb hg hbr hin hget
      go_wp2
      go_roundw
      case rel => exact ⟨k + 1, z + x.m, rfl, by omega, by go_num, by rw [sumM_take l k hkl, ← HZ.out, HXM.out], HBR.out.alloc HBR.out.size _⟩
      case measure => simp [intOf]; omega
    · obtain rfl : k = n := by omega
      have r2 := hid (show z = sumM l by rw [HZ.out, show k = l.length from HL.out, List.take_length])
      clear hbr
      go_wp2
      go_ret
      exact ⟨retI (by rw [r2.out, r.out]), HBR.out⟩
set_option maxRecDepth 100000 in
set_option maxHeartbeats 4000000 in
theorem slotsMass_call (c : StC) (d : Sta) (w : World) (hd : IsSta (· < w.heap.size) w c d) (hsm : SmSta d) : Calls Tryz.prog 45 #[c.v] w fun e w' => e = .returned (.int .i64 (massL (waitL d.l))) ∧ Below w.heap.size w w' := by
  obtain ⟨sn, st, a, sl, sc⟩ := c
  have hb0 : Below w.heap.size w (w.alloc (.cells #[.int .i64 sn, .int .i64 st, .slice a sl sc] 55)) := (Below.refl _ w).alloc (Nat.le_refl _) _
  have g1 := heap_alloc_new w (.cells #[.int .i64 sn, .int .i64 st, .slice a sl sc] 55)
  have k0 := cellOf g1 0
  have k1 := cellOf g1 1
  have k2 := cellOf g1 2
  (try dsimp only at k0 k1 k2)
  have HB0 := hid hb0
  have HW : Hid (Calls Tryz.prog 43 #[.agg #[.int .i64 sn, .int .i64 st, .slice a sl sc]] (w.alloc (.cells #[.int .i64 sn, .int .i64 st, .slice a sl sc] 55)) (WaitPost (w.alloc (.cells #[.int .i64 sn, .int .i64 st, .slice a sl sc] 55)) (waitL d.l))) := hid (waiting_call ⟨sn, st, a, sl, sc⟩ d _ (hd.same fun b q => ⟨Nat.lt_of_lt_of_le q hb0.size, hb0.block b q⟩) hsm)
  clear hd g1 hb0
  dsimp only [StC.v]
  go_enter Tryz.func45, Tryz.ntmps45
  go_wp2_with (first
    | (go_at_call 46; refine HM.out.mono ?_; rintro e w3 ⟨rfl, hb3⟩)
    | (go_at_call 43; refine HW.out.mono ?_; rintro e w2 ⟨a2, n2, c2, rfl, hb2, hr2⟩; have HM := hid (mass_call a2 n2 c2 _ w2 (hr2.same fun b q => ⟨q.2, rfl⟩)); clear hr2))
  go_ret
  exact ⟨rfl, HB0.out.trans ((hb2.trans (hb3.mono hb2.size)).mono HB0.out.size)⟩
end Go.Proofs.YthjlgpmajeafpaaGreatDoor

/-
  Plain: appending a row that can be read to a row of the call's own: what is left; appending nothing. No program in sight.
-/
namespace Go.Proofs.YthjlgpmajeafpaaGreatDoor
open Go Go.RowKit
set_option linter.unusedVariables false
set_option linter.unusedSimpArgs false

theorem pick_l {α : Type} {Q : Nat → α → Prop} : ∀ (n : Nat), (∀ i, i < n → ∃ x, Q i x) → ∃ l : List α, l.length = n ∧ ∀ i (h : i < l.length), Q i l[i]
  | 0, _ => ⟨[], rfl, fun i h => absurd h (Nat.not_lt_zero i)⟩
  | n + 1, h => by
    obtain ⟨l, hl, hq⟩ := pick_l n fun i hi => h i (Nat.lt_succ_of_lt hi)
    obtain ⟨x, hx⟩ := h n (Nat.lt_succ_self n)
    refine ⟨l ++ [x], by simp [hl], fun i hi => ?_⟩
    by_cases h1 : i < l.length
    · rw [List.getElem_append_left h1]; exact hq i h1
    · have h2 : i = n := by simp at hi; omega
      subst h2
      rw [List.getElem_append_right (by omega)]
      simpa [hl] using hx
section
variable {C D : Type} {K : Kit C D}
theorem flat_cells {w : World} {b o : Nat} {cs : List C} (h : ∀ j (hj : j < cs.length), AtG K w b (o + j * K.n) cs[j]) : ∀ t u, (cs.flatMap K.cs)[t]? = some u → w.cell? ((⟨b, o, none⟩ : Addr).add t) = some u := by
  intro t u hu
  have hn := K.pos
  have hlen : (cs.flatMap K.cs).length = cs.length * K.n := by
    clear h hu
    induction cs with
    | nil => simp
    | cons c r ih => rw [List.flatMap_cons, List.length_append, ih, K.len, List.length_cons, Nat.add_mul]; omega
  have ht : t < cs.length * K.n := by
    rw [← hlen]
    rcases Nat.lt_or_ge t (cs.flatMap K.cs).length with g | g
    · exact g
    · rw [List.getElem?_eq_none g] at hu; cases hu
  have hj : t / K.n < cs.length := (Nat.div_lt_iff_lt_mul hn).2 ht
  have hi : t % K.n < K.n := Nat.mod_lt _ hn
  have e : t / K.n * K.n + t % K.n = t := by rw [Nat.mul_comm]; exact Nat.div_add_mod t K.n
  have h1 := h _ hj _ hi
  have h2 := flat_get K.cs K.n K.len cs _ _ hj hi
  rw [e] at h2
  rw [← h2, hu, Nat.add_assoc, e] at h1
  rw [show ((⟨b, o, none⟩ : Addr).add t) = ⟨b, o + t, none⟩ by unfold Addr.add; split <;> simp_all]
  exact h1
/-- The elements of a row that can be read. -/
theorem IsRow.pick {S : Nat → Prop} {w : World} {a : Option Addr} {n c : Nat} {l : List D} (h : IsRow K S w a n c l) (hn : 0 < n) :
    ∃ (b o : Nat) (cs : List C), a = some ⟨b, o, none⟩ ∧ S b ∧ cs.length = n ∧ (∀ j (h : j < cs.length) (h' : j < l.length), K.Is S w cs[j] l[j]) ∧ ∀ t u, (cs.flatMap K.cs)[t]? = some u → w.cell? ((⟨b, o, none⟩ : Addr).add t) = some u := by
  obtain ⟨b, o, ha, hb, hx⟩ := h.slot hn
  have hl := h.len
  obtain ⟨cs, hcl, hq⟩ := pick_l (Q := fun j x => AtG K w b (o + j * K.n) x ∧ ∀ (h' : j < l.length), K.Is S w x l[j]) n fun j hj => by
    obtain ⟨x, h1, h2⟩ := hx j (by omega)
    exact ⟨x, h1, fun _ => h2⟩
  exact ⟨b, o, cs, ha, hb, hcl, fun j h1 h2 => (hq j h1).2 h2, flat_cells fun j hj => (hq j hj).1⟩
theorem Kept.pushN {T B : Nat} {w1 w2 : World} {v : Value} {k m : Nat} {l l2 : List D} {cs cs2 : List C} {g cap : Nat} (hcs : cs.length = k) (hl : l.length = k)
    (hel : ∀ j (h : j < cs.length) (h' : j < l.length), K.Is (· < B) w1 cs[j] l[j]) (hcs2 : cs2.length = m) (hl2 : l2.length = m) (hel2 : ∀ j (h : j < cs2.length) (h' : j < l2.length), K.Is (· < B) w1 cs2[j] l2[j])
    (hn : B ≤ w1.heap.size) (hv : ∀ r, v.ownBlock = some r → B ≤ r)
    (hown : w2.ownsRow B T K.n (.slice (some ⟨g, 0, none⟩) (k + m) cap) (k + m) (cs.flatMap K.cs ++ cs2.flatMap K.cs)) (hgrow : w1.grownBy w2 v.ownBlock) :
    Kept K T B w2 (.slice (some ⟨g, 0, none⟩) (k + m) cap) (k + m) (l ++ l2) := by
  have hst : ∀ b, b < B → w2.heap[b]? = w1.heap[b]? := fun b hb => hgrow.block b (by omega) (fun e => by have := hv b e.symm; omega)
  refine ⟨cs ++ cs2, by simp [hcs, hcs2], by simp [hl, hl2], by rw [List.flatMap_append]; exact hown, fun j hj hj' => ?_⟩
  by_cases hjk : j < cs.length
  · rw [List.getElem_append_left hjk, List.getElem_append_left (by omega)]
    exact K.same (fun b q => ⟨q, hst b q⟩) (hel j hjk (by omega))
  · rw [List.getElem_append_right (by omega), List.getElem_append_right (by omega)]
    have e1 : j - cs.length = j - l.length := by omega
    have h1 := hel2 (j - cs.length) (by simp at hj; omega) (by simp at hj'; omega)
    have e2 : l2[j - cs.length]'(by simp at hj'; omega) = l2[j - l.length]'(by simp at hj'; omega) := by congr 1
    rw [e2] at h1
    exact K.same (fun b q => ⟨q, hst b q⟩) h1
end
theorem wpList_append_nothing {P : Program} {w : World} {ops : Array Oper} {rest : List Oper} {o : Oper} {a : Act} {Q : Exit → Act → World → Prop} (hgd : o.guard = none) (s x : Operand) (t : TypeId)
    (ho : o.op = .call { callee := .builtin .append, args := #[s, x], argTypes := #[t, t] })
    (e : TypeId) (i : TypeInfo) (ht : P.underlying t = some (.slice e)) (hi : P.info? e = some i)
    (base : Option Addr) (sLen sCap : Nat) (hle : sLen ≤ sCap) (hs : a.eval s = .slice base sLen sCap) (ax : Option Addr) (c : Nat) (hx : a.eval x = .slice ax 0 c)
    (h : wpList P ops Q rest (a.put o.dst (.slice base sLen sCap)) w) : wpList P ops Q (o :: rest) a w := by
  refine wpList_plain hgd fun K hK => ?_
  have hsrc : Src P i.size t (.slice ax 0 c) 0 [] w := by
    cases ax with
    | none => exact Src.ofNil w ht c
    | some ad => exact Src.ofSlice w ht ad 0 c [] (by simp) (fun j u hu => by simp at hu) (fun u hu => by cases hu)
  have hrun := run_append_nothing (P := P) w t t o.type e i ht hi base sLen sCap hle _ hsrc
  unfold Oper.wp
  simp [execOp, ho, resolve, invoke, builtin, hs, hx, hrun, Result.andThen]
  exact hK _ _ h
end Go.Proofs.YthjlgpmajeafpaaGreatDoor
