/-
  message.Merged returns the fates of merged messages. Condition: the messages and the stamp can be read as data.
-/
import Derived.Test.YthjlgpmajeafpaaGreatDoorFateE
namespace Go.Proofs.YthjlgpmajeafpaaGreatDoor
open Go Go.RowKit Go.Shelf
set_option linter.unusedVariables false
set_option linter.unusedSimpArgs false

theorem row_one {w : World} {S : Nat → Prop} {B : Nat} {c : SC} {d : St} (h : w.heap[B]? = some (.cells #[.int .i64 c.e, .slice c.a c.n c.c] 24)) (hi : IsSt S w c d) (hS : S B) : IsRow stK S w (some ⟨B, 0, none⟩) 1 1 [d] := by
  refine ⟨rfl, Nat.le_refl _, (show 1 * 32 ≤ 140737488351232 by decide), .inr ⟨B, 0, rfl, hS, fun j hj => ?_⟩⟩
  obtain rfl : j = 0 := by simp at hj; omega
  refine ⟨c, fun i hi' => ?_, hi⟩
  match i, hi' with
  | 0, _ => exact cellOf h 0
  | 1, _ => exact cellOf h 1
theorem infoFt : (Tryz.prog.info? 45).map (fun i => (i.zero, i.size, i.bytes)) = some (some (.agg #[.int .i64 0, .slice none 0 0, .int .i64 0, .string ByteArray.empty, .slice none 0 0, .string ByteArray.empty]), 6, 96) := by kernel_rfl
def mrgF (nd : ByteArray) (dby : St) (m : Msg) : Fate := ⟨m.st, 2, nd, [dby], ByteArray.empty⟩
def FtsPost (w : World) (n : Nat) (l : List Fate) (e : Ending) (w' : World) : Prop := ∃ a' c', e = .returned (.slice a' n c') ∧ Below w.heap.size w w' ∧ IsRow ftK (fun b => w.heap.size ≤ b ∧ b < w'.heap.size) w' a' n c' l

set_option maxRecDepth 100000 in
set_option maxHeartbeats 8000000 in
theorem merged_call (a : Option Addr) (n c : Nat) (l : List Msg) (nd : ByteArray) (cb : SC) (dby : St) (w : World) (hd : IsMsgs (· < w.heap.size) w a n c l) (hby : IsSt (· < w.heap.size) w cb dby) :
    Calls Tryz.prog 26 #[.slice a n c, .string nd, cb.v] w (FtsPost w n (l.map (mrgF nd dby))) := by
  obtain ⟨ti, hi, hz0, hz1, hz2⟩ := info_parts infoFt
  have hbig := hd.big
  have HL := hid hd.len
  have HD := hid hd
  have HBY := hid hby
  clear hd hby
  dsimp only [SC.v]
  obtain ⟨wb, hwb⟩ : ∃ wb, wb = w.alloc (.cells #[.int .i64 cb.e, .slice cb.a cb.n cb.c] 24) := ⟨_, rfl⟩
  have hb0 : Below w.heap.size w wb := by rw [hwb]; exact (Below.refl _ w).alloc (Nat.le_refl _) _
  have hsb : wb.heap.size = w.heap.size + 1 := by rw [hwb]; simp
  have g1 : wb.heap[w.heap.size]? = some (.cells #[.int .i64 cb.e, .slice cb.a cb.n cb.c] 24) := by rw [hwb]; exact heap_alloc_new w _
  have HB0 := hid hb0
  have HSB := hid hsb
  have G1 := hid g1
  have HWB := hid hwb
  clear hwb hb0 hsb g1
  go_enter Tryz.func26, Tryz.ntmps26
  go_wp2
  rw [← HWB.out]
  go_loopw [7, 12] (fun vv i wr => ∃ (k : Nat) (v : Value), v = vv ∧ k ≤ n ∧ i = .int .i64 k ∧ Built ftK 45 wb.heap.size wr v k (l.map (mrgF nd dby)) ∧ Below wb.heap.size wb wr) (fun _ i _ => n - (intOf i).toNat)
  case atStart => exact ⟨0, _, rfl, Nat.zero_le _, rfl, Built.nil _ _ _ _, Below.refl _ _⟩
  case round =>
  obtain ⟨k, v, rfl, hk, rfl, hbu, hbr⟩ := hrel
  obtain ⟨wp, rfl⟩ : ∃ w1 : World, w1 = wr := ⟨_, rfl⟩
  by_cases hlt : k < n
  · have hkl : k < l.length := by have := HL.out; omega
    obtain ⟨b, o, rfl, hb, hx⟩ := HD.out.at'.resolve_left fun h => by rw [h] at hkl; simp at hkl
    obtain ⟨x, hxa, hxi⟩ := hx k hkl
    have hbw : Below w.heap.size w wp := HB0.out.trans (hbr.mono HB0.out.size)
    obtain ⟨x0, x1, x2, x3, x4, x5, x6, x7, x8, x9⟩ := hxa.same (hbw.block b hb)
    have hlt' : (k : Int) < (n : Int) := by omega
    have hk0 : (0 : Int) ≤ (k : Int) := by omega
    have hvo := hbu.own
    obtain ⟨cs, hcs, hown, hel⟩ := hbu
    have hsb := HSB.out
    have hs0 := hbr.size
    have hS0 : KeepS wb none w.heap.size (.cells #[.int .i64 cb.e, .slice cb.a cb.n cb.c] 24) wp.heap.size (.cells #[.int .i64 x.st.e, .slice x.st.a x.st.n x.st.c, .int .i64 x.m, .slice x.a x.n x.c, .int .i64 x.b.k, .int .i64 x.b.i, .int .i64 x.b.s, .string x.b.t, .slice x.b.la x.b.ll x.b.lc, .slice x.b.fa x.b.fl x.b.fc] 30) (wp.heap.size + 1) (wp.alloc (.cells #[.int .i64 x.st.e, .slice x.st.a x.st.n x.st.c, .int .i64 x.m, .slice x.a x.n x.c, .int .i64 x.b.k, .int .i64 x.b.i, .int .i64 x.b.s, .string x.b.t, .slice x.b.la x.b.ll x.b.lc, .slice x.b.fa x.b.fl x.b.fc] 30)) := ⟨grownOf (hbr.trans (((Below.refl _ wp).alloc (Nat.le_refl _) _).mono hbr.size)) none, heapAlloc _ (heapExt hbr G1.out), heap_alloc_new _ _, by simp⟩
    have HC : Hid (∀ w', KeepS wb none w.heap.size (.cells #[.int .i64 cb.e, .slice cb.a cb.n cb.c] 24) wp.heap.size (.cells #[.int .i64 x.st.e, .slice x.st.a x.st.n x.st.c, .int .i64 x.m, .slice x.a x.n x.c, .int .i64 x.b.k, .int .i64 x.b.i, .int .i64 x.b.s, .string x.b.t, .slice x.b.la x.b.ll x.b.lc, .slice x.b.fa x.b.fl x.b.fc] 30) (wp.heap.size + 1) w' → w'.cell? ⟨w.heap.size, 0, none⟩ = some (.int .i64 cb.e) ∧ w'.cell? ⟨w.heap.size, 1, none⟩ = some (.slice cb.a cb.n cb.c) ∧ w'.cell? ⟨wp.heap.size, 0, none⟩ = some (.int .i64 x.st.e) ∧ w'.cell? ⟨wp.heap.size, 1, none⟩ = some (.slice x.st.a x.st.n x.st.c) ∧ w'.cell? ⟨wp.heap.size, 2, none⟩ = some (.int .i64 x.m) ∧ w'.cell? ⟨wp.heap.size, 3, none⟩ = some (.slice x.a x.n x.c) ∧ w'.cell? ⟨wp.heap.size, 4, none⟩ = some (.int .i64 x.b.k) ∧ w'.cell? ⟨wp.heap.size, 5, none⟩ = some (.int .i64 x.b.i) ∧ w'.cell? ⟨wp.heap.size, 6, none⟩ = some (.int .i64 x.b.s) ∧ w'.cell? ⟨wp.heap.size, 7, none⟩ = some (.string x.b.t) ∧ w'.cell? ⟨wp.heap.size, 8, none⟩ = some (.slice x.b.la x.b.ll x.b.lc) ∧ w'.cell? ⟨wp.heap.size, 9, none⟩ = some (.slice x.b.fa x.b.fl x.b.fc)) := hid fun w' h => ⟨cellOf h.f 0, cellOf h.f 1, cellOf h.x 0, cellOf h.x 1, cellOf h.x 2, cellOf h.x 3, cellOf h.x 4, cellOf h.x 5, cellOf h.x 6, cellOf h.x 7, cellOf h.x 8, cellOf h.x 9⟩
    have LAT : Hid (∀ w', KeepS wb none w.heap.size (.cells #[.int .i64 cb.e, .slice cb.a cb.n cb.c] 24) wp.heap.size (.cells #[.int .i64 x.st.e, .slice x.st.a x.st.n x.st.c, .int .i64 x.m, .slice x.a x.n x.c, .int .i64 x.b.k, .int .i64 x.b.i, .int .i64 x.b.s, .string x.b.t, .slice x.b.la x.b.ll x.b.lc, .slice x.b.fa x.b.fl x.b.fc] 30) (wp.heap.size + 1) w' → IsMsg (· < w'.heap.size) w' x l[k] ∧ IsSt (· < w'.heap.size) w' cb dby) := hid fun w' h => by
      have h1 := h.g.size
      have h2 : ∀ c, c < w.heap.size → c < w'.heap.size ∧ w'.heap[c]? = w.heap[c]? := fun c hc => ⟨by omega, (h.g.block c (by omega) (by simp)).trans (HB0.out.block c hc)⟩
      exact ⟨hxi.same h2, HBY.out.same h2⟩
    have HS0 := hid hS0
    have HOWN := hid hown
    have HEL := hid hel
    have HCL := hid hcs
    have HVO := hid (show some w.heap.size ≠ v.ownBlock ∧ some wp.heap.size ≠ v.ownBlock ∧ ∀ r, v.ownBlock = some r → wb.heap.size ≤ r from ⟨fun e => by have := (hvo _ e.symm).1; omega, fun e => by have := (hvo _ e.symm).2; omega, fun r e => (hvo r e).1⟩)
    have HVL := hid (fun r (e : v.ownBlock = some r) => (hvo r e).2)
    have HBR := hid hbr
    have hcap1 : k + 1 ≤ maxLen := by unfold maxLen; omega
    have hcap2 : (k + 1) * 96 ≤ 140737488355328 := by omega
    clear hS0 hown hel hcs hvo hbr hbw hxa hxi hx hb hsb
    go_upto_region 5 with (fail)
    refine wp_region_split 10 (KeepS wb none w.heap.size (.cells #[.int .i64 cb.e, .slice cb.a cb.n cb.c] 24) wp.heap.size (.cells #[.int .i64 x.st.e, .slice x.st.a x.st.n x.st.c, .int .i64 x.m, .slice x.a x.n x.c, .int .i64 x.b.k, .int .i64 x.b.i, .int .i64 x.b.s, .string x.b.t, .slice x.b.la x.b.ll x.b.lc, .slice x.b.fa x.b.fl x.b.fc] 30) (wp.heap.size + 1)) (by kernel_rfl) (by kernel_rfl) (by kernel_rfl) (by decide) (HS0.out.ext ((Below.refl _ _).drew)) (fun hS => ?_)
    simp only [List.take_succ_cons, List.take_zero, List.drop_succ_cons, List.drop_zero]
    refine wpAnyH_take (i := 0) (oi := _) (v := ?_) rfl (by kernel_rfl) (by kernel_rfl) (by kernel_rfl) (fun _ _ _ h => h) (Or.inl ⟨by rfl, ?_⟩) hS ?_
    rotate_left
    · intro w' hw'
      have hcells := HC.out w' hw'
      go_simp
      (try with_reducible rfl)
    simp only [Act.put, List.getElem_toArray, List.getElem_cons_succ, List.getElem_cons_zero, List.setIfInBounds_toArray, List.set_cons_zero, List.set_cons_succ]
    refine wpAnyH_take (i := 1) (oi := _) (v := ?_) rfl (by kernel_rfl) (by kernel_rfl) (by kernel_rfl) (fun _ _ _ h => h) (Or.inl ⟨by rfl, ?_⟩) hS ?_
    rotate_left
    · intro w' hw'
      have hcells := HC.out w' hw'
      go_simp
      (try with_reducible rfl)
    simp only [Act.put, List.getElem_toArray, List.getElem_cons_succ, List.getElem_cons_zero, List.setIfInBounds_toArray, List.set_cons_zero, List.set_cons_succ]
    refine wpAnyH_take (i := 2) (oi := _) (v := ?_) rfl (by kernel_rfl) (by kernel_rfl) (by kernel_rfl) (fun _ _ _ h => h) (Or.inl ⟨by rfl, ?_⟩) hS ?_
    rotate_left
    · intro w' hw'
      have hcells := HC.out w' hw'
      go_simp
      (try with_reducible rfl)
    simp only [Act.put, List.getElem_toArray, List.getElem_cons_succ, List.getElem_cons_zero, List.setIfInBounds_toArray, List.set_cons_zero, List.set_cons_succ]
    refine wpAnyH_take (i := 3) (oi := _) (v := ?_) rfl (by kernel_rfl) (by kernel_rfl) (by kernel_rfl) (fun _ _ _ h => h) (Or.inl ⟨by rfl, ?_⟩) hS ?_
    rotate_left
    · intro w' hw'
      have hcells := HC.out w' hw'
      go_simp
      (try with_reducible rfl)
    simp only [Act.put, List.getElem_toArray, List.getElem_cons_succ, List.getElem_cons_zero, List.setIfInBounds_toArray, List.set_cons_zero, List.set_cons_succ]
    refine wpAnyH_ready (rs := [4]) (by kernel_rfl) (by simp) ?_
    refine AllReadyH.cons (o := _) rfl (fun K hK => ?_) AllReadyH.nil
    go_simp
    refine hK.out _ _ (hS.ext ((Below.refl _ _).alloc (Nat.le_refl _) _)) (fun hS => ?_)
    clear hK K
    (try simp only [Act.put, List.getElem_toArray, List.getElem_cons_succ, List.getElem_cons_zero, List.setIfInBounds_toArray, List.set_cons_zero, List.set_cons_succ])
    refine wpAnyH_ready (rs := [5]) (by kernel_rfl) (by simp) ?_
    refine AllReadyH.cons (o := _) rfl (fun K hK => ?_) AllReadyH.nil
    go_simp; go_at_call 68; refine (into_call _ _ _ _).mono ?_
    rintro e w3 ⟨rfl, rfl⟩
    refine hK.out _ _ (hS.ext ((Below.refl _ _).alloc (Nat.le_refl _) _)) (fun hS => ?_)
    clear hK K
    (try simp only [Act.put, List.getElem_toArray, List.getElem_cons_succ, List.getElem_cons_zero, List.setIfInBounds_toArray, List.set_cons_zero, List.set_cons_succ])
    refine wpAnyH_ready (rs := [6]) (by kernel_rfl) (by simp) ?_
    refine AllReadyH.cons (o := _) rfl (fun K hK => ?_) AllReadyH.nil
    go_simp
    refine hK.out _ _ (hS.ext ((Below.refl _ _).alloc (Nat.le_refl _) _)) (fun hS => ?_)
    clear hK K
    (try simp only [Act.put, List.getElem_toArray, List.getElem_cons_succ, List.getElem_cons_zero, List.setIfInBounds_toArray, List.set_cons_zero, List.set_cons_succ])
    refine wpAnyH_ready (rs := [7]) (by kernel_rfl) (by simp) ?_
    refine AllReadyH.cons (o := _) rfl (fun K hK => ?_) AllReadyH.nil
    generalize hw5 : World.drew (World.alloc (World.alloc (World.alloc (World.alloc _ _) _) _) _) = w5 at hS ⊢
    have hb5 : Below wp.heap.size wp w5 := by rw [← hw5]; exact (((((Below.refl _ wp).alloc (Nat.le_refl _) _).alloc (by simp) _).alloc (by simp; omega) _).alloc (by simp; omega) _).drew
    have o0 : w5.heap[wp.heap.size + 1]? = some (.cells #[.int .i64 cb.e, .slice cb.a cb.n cb.c] 24) := by rw [← hw5]; exact heapAlloc _ (heapAlloc _ (heapNewAt _ _ _ (by simp)))
    have o1 : w5.heap[wp.heap.size + 2]? = some (.cells #[.slice (some ⟨wp.heap.size + 1, 0, none⟩) 1 1] 42) := by rw [← hw5]; exact heapAlloc _ (heapNewAt _ _ _ (by simp))
    have o2 : w5.heap[wp.heap.size + 3]? = some (.cells #[.func (.func 115) #[] #[.pointer (some ⟨wp.heap.size + 2, 0, none⟩)]] 103) := by rw [← hw5]; exact heapNewAt _ _ _ (by simp)
    clear hw5
    have hl5 := LAT.out w5 hS
    have HF := hid (fate1_call x l[k] 2 nd w5 hl5.1 (wp.heap.size + 3) (wp.heap.size + 2) (some ⟨wp.heap.size + 1, 0, none⟩) 1 1 [dby] o2 o1 (row_one o0 hl5.2 (ltOf o0)))
    dsimp only [MC.v] at HF
    go_simp; go_at_call 67; refine HF.out.mono ?_
    rintro e w6 ⟨c6, rfl, hb6, hi6⟩
    have HI6 := hid hi6
    have HB5 := hid hb5
    have HB6 := hid hb6
    clear o0 o1 o2 HF hi6 hb5 hl5
    refine hK.out _ _ (hS.ext hb6) (fun hS => ?_)
    clear hK K
    (try simp only [Act.put, List.getElem_toArray, List.getElem_cons_succ, List.getElem_cons_zero, List.setIfInBounds_toArray, List.set_cons_zero, List.set_cons_succ])
    refine wpAnyH_ready (rs := [8]) (by kernel_rfl) (by simp) ?_
    refine AllReadyH.cons (o := _) rfl (fun K hK => ?_) AllReadyH.nil
    go_simp
    refine hK.out _ _ (hS.ext ((Below.refl _ _).alloc (Nat.le_refl _) _)) (fun hS => ?_)
    clear hK K
    (try simp only [Act.put, List.getElem_toArray, List.getElem_cons_succ, List.getElem_cons_zero, List.setIfInBounds_toArray, List.set_cons_zero, List.set_cons_succ])
    refine wpAnyH_ready (rs := [9]) (by kernel_rfl) (by simp) ?_
    refine AllReadyH.cons (o := _) rfl (fun K hK => ?_) AllReadyH.nil
    refine step_append_lies _ (by rfl) _ _ _ (by rfl) wb.heap.size 45 ti _ 6 96 Tryz.underlying49 hi hz0 hz1 hz2 rfl (by omega) v k (cs.flatMap FtC.cs) (by rfl) ((ownExt (ownExt HOWN.out HB5.out) HB6.out).alloc _) ⟨w6.heap.size, 0, none⟩ 1 1 (FtC.cs c6) (by rfl) (by rfl) (World.news_of_block (heap_alloc_new w6 _)) (by simp [FtC.cs, Value.oneCell']) (by omega) hcap1 hcap2 hS.g.size _ rfl ?_
    intro gg cap5 w7 hown2 hgrow hat hlt2
    have hS7 := hS.grown hgrow HVO.out.1 HVO.out.2.1 HVO.out.2.2
    have HO2 := hid hown2
    have HG := hid hgrow
    have HAT := hid hat
    clear hown2 hgrow hat hlt2 hb6
    refine hK.out _ _ (hS7) (fun hS => ?_)
    clear hK K
    (try simp only [Act.put, List.getElem_toArray, List.getElem_cons_succ, List.getElem_cons_zero, List.setIfInBounds_toArray, List.set_cons_zero, List.set_cons_succ])
    refine wpAnyH_done (by kernel_rfl) ?_ _
    (try dsimp only)
    have HS7 := hid hS
    clear hS hS7 hi hz0 hz1 hz2 HC LAT
    go_wp2
    go_roundw
    case rel =>
      have hs6 := HB6.out.size
      have hs5 := HB5.out.size
      have hs0 := HBR.out.size
      have hvl := HVL.out
      have hkm : k < (l.map (mrgF nd dby)).length := by simpa using hkl
      have hpush : Built ftK 45 wb.heap.size w7 (.slice (some ⟨gg, 0, none⟩) (k + 1) cap5) (k + 1) (l.map (mrgF nd dby)) :=
        Built.push (K := ftK) (N := wp.heap.size) (w1 := w6) (o := (.cells #[.int .i64 c6.st.e, .slice c6.st.a c6.st.n c6.st.c, .int .i64 c6.k, .string c6.node, .slice c6.a c6.n c6.c, .string c6.text] 45)) (c := c6) HCL.out
          (fun j hj hj' => (HEL.out j hj hj').same fun b hb => ⟨⟨hb.1, by have := hb.2.1; omega, hb.2.2⟩, (HB6.out.block b (by have := hb.2.1; omega)).trans (HB5.out.block b hb.2.1)⟩) hkm
          (by rw [List.getElem_map]; exact HI6.out.same fun b hb => ⟨⟨by have := hb.1; omega, hb.2⟩, rfl⟩) hs0 hvl HO2.out HG.out (HAT.out.imp id fun h => by rw [h]; simp)
      refine ⟨k + 1, _, rfl, by omega, by go_num, hpush, ?_⟩
      have g := HS7.out.g
      exact ⟨g.os, g.tape, g.output, g.size, fun j hj => g.block j hj (by simp)⟩
    case measure => simp [intOf]; omega
  · obtain rfl : k = n := by omega
    obtain ⟨av, capv, rfl, hrow⟩ := Built.row' hbu (by rw [List.length_map]; exact HL.out) (by dsimp only; omega)
    go_wp2
    go_ret
    exact ⟨av, capv, rfl, HB0.out.trans (hbr.mono HB0.out.size), hrow.same fun b q => ⟨⟨by have := HSB.out; omega, q.2⟩, rfl⟩⟩
end Go.Proofs.YthjlgpmajeafpaaGreatDoor
