/-
  slots.Encode of the chapter's example. Conditions: the state's blocks; Tabs.
-/
import Derived.Test.YthjlgpmajeafpaaGreatDoorLitMrg
import Derived.Test.YthjlgpmajeafpaaGreatDoorLineMrg
import Derived.Test.YthjlgpmajeafpaaGreatDoorSymmMrg
import Derived.Sort.CutIn
import Derived.Deep.RegionHeld3
import Derived.Test.YthjlgpmajeafpaaGreatDoorSlotMrg
import Derived.Test.YthjlgpmajeafpaaGreatDoorSharesMrg
import Derived.Test.YthjlgpmajeafpaaGreatDoorPartsMMrg
import Derived.OwnWalk
import Derived.Deep.AppendLies
namespace Go.Proofs.YthjlgpmajeafpaaGreatDoor
open Go Go.RowKit Go.Shelf
set_option linter.unusedVariables false
set_option linter.unusedSimpArgs false

abbrev sBox (sb : Nat) : Obj := (.cells #[.int .i64 2, .int .i64 0, .slice (some ⟨sb, 0, none⟩) 1 1] 55)
abbrev fBox : Obj := (.cells #[.int .i64 0] 59)
abbrev slObj (vb : Nat) : Obj := (.cells #[.int .i64 4, .int .i64 0, .int .i64 0, .string ⟨#[97]⟩, .slice none 0 0, .slice none 0 0, .int .i64 1, .int .i64 50, .slice none 0 0, .slice (some ⟨vb, 0, none⟩) 1 1] 58)
abbrev v7Obj : Obj := (.cells #[.int .i64 2, .int .i64 7, .int .i64 0, .string ⟨#[]⟩, .slice none 0 0, .slice none 0 0] 28)
abbrev keyA : Val := .mk 4 0 0 ⟨#[97]⟩ [] [] []
abbrev val7 : Val := .mk 2 7 0 ⟨#[]⟩ [] [] []
abbrev knownS : Sta := ⟨2, 0, [⟨keyA, 1, 50, [], [val7]⟩]⟩
theorem okA : VC.ok ⟨4, 0, 0, ⟨#[97]⟩, none, 0, 0, none, 0, 0⟩ := ⟨⟨by decide, by decide⟩, ⟨by decide, by decide⟩, ⟨by decide, by decide⟩, by decide, by decide, by decide, by decide, by decide⟩
theorem ok7 : VC.ok ⟨2, 7, 0, ⟨#[]⟩, none, 0, 0, none, 0, 0⟩ := ⟨⟨by decide, by decide⟩, ⟨by decide, by decide⟩, ⟨by decide, by decide⟩, by decide, by decide, by decide, by decide, by decide⟩
theorem keyA_is (S : Nat → Prop) (w : World) : IsVal S w ⟨4, 0, 0, ⟨#[97]⟩, none, 0, 0, none, 0, 0⟩ keyA := ⟨⟨rfl, rfl, rfl, rfl, okA, rfl, rfl, rfl⟩, .inl rfl, .inl rfl⟩
theorem val7_is (S : Nat → Prop) (w : World) : IsVal S w ⟨2, 7, 0, ⟨#[]⟩, none, 0, 0, none, 0, 0⟩ val7 := ⟨⟨rfl, rfl, rfl, rfl, ok7, rfl, rfl, rfl⟩, .inl rfl, .inl rfl⟩
theorem v7_at {w : World} {vb : Nat} (h : w.heap[vb]? = some v7Obj) : AtG valK w vb 0 ⟨2, 7, 0, ⟨#[]⟩, none, 0, 0, none, 0, 0⟩ := fun i hi => by
  match i, hi with
  | 0, _ => exact cellOf h 0
  | 1, _ => exact cellOf h 1
  | 2, _ => exact cellOf h 2
  | 3, _ => exact cellOf h 3
  | 4, _ => exact cellOf h 4
  | 5, _ => exact cellOf h 5
theorem slObj_at {w : World} {sb vb : Nat} (h : w.heap[sb]? = some (slObj vb)) : AtG slK w sb 0 ⟨⟨4, 0, 0, ⟨#[97]⟩, none, 0, 0, none, 0, 0⟩, 1, 50, none, 0, 0, some ⟨vb, 0, none⟩, 1, 1⟩ := fun i hi => by
  match i, hi with
  | 0, _ => exact cellOf h 0
  | 1, _ => exact cellOf h 1
  | 2, _ => exact cellOf h 2
  | 3, _ => exact cellOf h 3
  | 4, _ => exact cellOf h 4
  | 5, _ => exact cellOf h 5
  | 6, _ => exact cellOf h 6
  | 7, _ => exact cellOf h 7
  | 8, _ => exact cellOf h 8
  | 9, _ => exact cellOf h 9
theorem knownS_is {S : Nat → Prop} {w : World} {sb vb : Nat} (h1 : S sb) (h2 : S vb) (hs : w.heap[sb]? = some (slObj vb)) (hv : w.heap[vb]? = some v7Obj) : IsSta S w ⟨2, 0, some ⟨sb, 0, none⟩, 1, 1⟩ knownS := by
  refine ⟨rfl, (show I64 2 from ⟨by decide, by decide⟩), rfl, (show I64 0 from ⟨by decide, by decide⟩), rfl, Nat.le_refl _, (by decide : 1 * 152 ≤ 140737488351232), .inr ⟨sb, 0, rfl, h1, fun j hj => ?_⟩⟩
  have hj0 : j = 0 := by simpa using hj
  subst hj0
  refine ⟨⟨⟨4, 0, 0, ⟨#[97]⟩, none, 0, 0, none, 0, 0⟩, 1, 50, none, 0, 0, some ⟨vb, 0, none⟩, 1, 1⟩, slObj_at hs, keyA_is _ _, rfl, (show I64 1 from ⟨by decide, by decide⟩), rfl, (show I64 50 from ⟨by decide, by decide⟩), ⟨rfl, Nat.le_refl _, (show 0 * 152 ≤ 140737488351232 by decide), .inl rfl⟩, rfl, Nat.le_refl _, (by decide : 1 * 88 ≤ 140737488351232), .inr ⟨vb, 0, rfl, h2, fun j hj => ?_⟩⟩
  have hj0 : j = 0 := by simpa using hj
  subst hj0
  exact ⟨_, v7_at hv, val7_is _ _⟩
theorem cells2 {w : World} {b : Nat} {x0 x1 : ByteArray} {t : TypeId} {fr : Nat × Nat} (h : w.heap[b]? = some (.cells #[.string x0, .string x1] t fr)) : ∀ (j : Nat) x, [x0, x1][j]? = some x → w.cell? ⟨b, 0 + j, none⟩ = some (.string x) := fun j x hj => by
  rw [cellOf h]
  match j, hj with
  | 0, hj => simp at hj; subst hj; rfl
  | 1, hj => simp at hj; subst hj; rfl
theorem cells3 {w : World} {b : Nat} {x0 x1 x2 : ByteArray} {t : TypeId} {fr : Nat × Nat} (h : w.heap[b]? = some (.cells #[.string x0, .string x1, .string x2] t fr)) : ∀ (j : Nat) x, [x0, x1, x2][j]? = some x → w.cell? ⟨b, 0 + j, none⟩ = some (.string x) := fun j x hj => by
  rw [cellOf h]
  match j, hj with
  | 0, hj => simp at hj; subst hj; rfl
  | 1, hj => simp at hj; subst hj; rfl
  | 2, hj => simp at hj; subst hj; rfl
theorem cells4 {w : World} {b : Nat} {x0 x1 x2 x3 : ByteArray} {t : TypeId} {fr : Nat × Nat} (h : w.heap[b]? = some (.cells #[.string x0, .string x1, .string x2, .string x3] t fr)) : ∀ (j : Nat) x, [x0, x1, x2, x3][j]? = some x → w.cell? ⟨b, 0 + j, none⟩ = some (.string x) := fun j x hj => by
  rw [cellOf h]
  match j, hj with
  | 0, hj => simp at hj; subst hj; rfl
  | 1, hj => simp at hj; subst hj; rfl
  | 2, hj => simp at hj; subst hj; rfl
  | 3, hj => simp at hj; subst hj; rfl
def knT0 : List UInt8 := [115, 116, 97, 116, 101, 32, 50, 32, 48, 10]
def knTS : List UInt8 := [115, 108, 111, 116, 32, 49, 32, 53, 48, 32, 34, 97, 34, 10]
def knTV : List UInt8 := [118, 97, 108, 117, 101, 32, 55, 10]
theorem plainA : ∀ (j : Nat) (h : j < (⟨#[97]⟩ : ByteArray).size), plainC (⟨#[97]⟩ : ByteArray)[j].toNat = true := fun j h => by
  have hj : j = 0 := by have h' : j < 1 := h; omega
  subst hj
  rfl
theorem knownS_check : checkE knownS = 0 := by kernel_rfl
theorem keyA_chk : chkVal keyA = 0 := by kernel_rfl
theorem val7_chk : chkVal val7 = 0 := by kernel_rfl

set_option maxRecDepth 100000 in
set_option maxHeartbeats 8000000 in
theorem encK_call (w : World) (hT : Tabs w) (sb vb : Nat) (hs : w.heap[sb]? = some (slObj vb)) (hv : w.heap[vb]? = some v7Obj) :
    Calls Tryz.prog 73 #[.agg #[.int .i64 2, .int .i64 0, .slice (some ⟨sb, 0, none⟩) 1 1]] w fun e w' => e = .returned (.tuple #[.string ⟨#[115, 116, 97, 116, 101, 32, 50, 32, 48, 10, 115, 108, 111, 116, 32, 49, 32, 53, 48, 32, 34, 97, 34, 10, 118, 97, 108, 117, 101, 32, 55, 10]⟩, .int .i64 0]) ∧ Below w.heap.size w w' := by
  have hb0 : Below w.heap.size w (w.alloc (sBox sb)) := (Below.refl _ w).alloc (Nat.le_refl _) _
  have hsl := ltOf hs
  have hvl := ltOf hv
  have hck := slotsCheck_call ⟨2, 0, some ⟨sb, 0, none⟩, 1, 1⟩ knownS (w.alloc (sBox sb)) (knownS_is (S := (· < (w.alloc (sBox sb)).heap.size)) (by simp; omega) (by simp; omega) (heapAlloc _ hs) (heapAlloc _ hv)) (hT.below hb0)
  rw [knownS_check] at hck
  have HCK := hid hck
  have HB0 := hid hb0
  have HS := hid hs
  have HV := hid hv
  have HT := hid hT
  have HG := hid (heap_alloc_new w (sBox sb))
  clear hck hb0 hs hv hT
  dsimp only [StC.v] at HCK
  go_enter Tryz.func73, Tryz.ntmps73
  go_upto_region 8 with (go_at_call 31; refine HCK.out.mono ?_; rintro e w1 ⟨rfl, hb1⟩; have hg1 := heapExt hb1 HG.out; have g2 := cellOf hg1 2; (try dsimp only at g2))
  obtain ⟨w2, hw2⟩ : ∃ w2, w2 = (w1.alloc fBox).alloc (.cells #[.pointer none, .slice none 0 0] 155) := ⟨_, rfl⟩
  rw [← hw2]
  have hz1 := hb1.size
  simp only [World.size_alloc] at hz1
  have hb01 : Below w.heap.size w w1 := HB0.out.trans (hb1.mono (by simp))
  have hbl : IsBld (w1.heap.size + 1) (w1.heap.size + 1) [] w2 := by have h := bld_new (w1.alloc fBox); rw [World.size_alloc] at h; rw [hw2]; exact h
  have hs0 : BldAt w (w1.heap.size + 1) [] [(w.heap.size, sBox sb), (w1.heap.size, fBox)] w2 := by
    refine ⟨hbl, by rw [hw2]; exact (hb01.alloc (by omega) _).alloc (by simp; omega) _, by rw [hw2]; simp, by omega, fun p hp => ?_⟩
    simp only [List.mem_cons, List.not_mem_nil, or_false] at hp
    rcases hp with rfl | rfl
    · exact ⟨by rw [hw2]; exact heapAlloc _ (heapAlloc _ hg1), by dsimp only; omega, fun c fz e => by cases e⟩
    · exact ⟨by rw [hw2]; exact heapAlloc _ (heap_alloc_new _ _), by dsimp only; omega, fun c fz e => by cases e⟩
  have HS0 := hid hs0
  have HB1 := hid hb01
  have HC : Hid (∀ w', (∃ bs, BldAt w (w1.heap.size + 1) bs [(w.heap.size, sBox sb), (w1.heap.size, fBox)] w') → w'.cell? ⟨w.heap.size, 0, none⟩ = some (.int .i64 2) ∧ w'.cell? ⟨w.heap.size, 1, none⟩ = some (.int .i64 0)) := hid fun w' ⟨_, h⟩ => by
    have h1 := h.at 0 (by simp)
    exact ⟨cellOf h1 0, cellOf h1 1⟩
  clear hw2 hbl hs0 hb01 hg1 g2 hb1 hz1
  refine wp_region_held_drew (S := (fun w' => ∃ bs, BldAt w (w1.heap.size + 1) bs [(w.heap.size, sBox sb), (w1.heap.size, fBox)] w')) (by kernel_rfl) (⟨_, HS0.out.ext (Below.refl _ _).drew⟩) (fun hS => ?_)
  refine wpAnyH_take (i := 0) (oi := _) (v := ?_) rfl (by kernel_rfl) (by kernel_rfl) (by kernel_rfl) (fun _ _ _ h => h) (Or.inl ⟨by rfl, ?_⟩) hS ?_
  rotate_left
  · intro w' hw'
    have hcells := HC.out w' hw'
    go_simp
    (try with_reducible rfl)
  simp only [Act.put, List.getElem_toArray, List.getElem_cons_succ, List.getElem_cons_zero, List.setIfInBounds_toArray, List.set_cons_zero, List.set_cons_succ]
  refine wpAnyH_take (i := 1) (oi := _) (v := ?_) rfl (by kernel_rfl) (by kernel_rfl) (by kernel_rfl) (fun _ _ _ h => h) (Or.inl ⟨by rfl, ?_⟩) hS ?_
  rotate_left
  · intro w' hw'
    have hcells := HC.out w' hw'
    go_simp
    (try with_reducible rfl)
  simp only [Act.put, List.getElem_toArray, List.getElem_cons_succ, List.getElem_cons_zero, List.setIfInBounds_toArray, List.set_cons_zero, List.set_cons_succ]
  refine wpAnyH_take (i := 2) (oi := _) (v := ?_) rfl (by kernel_rfl) (by kernel_rfl) (by kernel_rfl) (fun _ _ _ h => h) (Or.inl ⟨by rfl, ?_⟩) hS ?_
  rotate_left
  · intro w' hw'
    have hcells := HC.out w' hw'
    go_simp
    (try with_reducible rfl)
  simp only [Act.put, List.getElem_toArray, List.getElem_cons_succ, List.getElem_cons_zero, List.setIfInBounds_toArray, List.set_cons_zero, List.set_cons_succ]
  refine wpAnyH_take (i := 4) (oi := _) (v := ?_) rfl (by kernel_rfl) (by kernel_rfl) (by kernel_rfl) (fun _ _ _ h => h) (Or.inl ⟨by rfl, ?_⟩) hS ?_
  rotate_left
  · intro w' hw'
    have hcells := HC.out w' hw'
    go_simp
    (try with_reducible rfl)
  simp only [Act.put, List.getElem_toArray, List.getElem_cons_succ, List.getElem_cons_zero, List.setIfInBounds_toArray, List.set_cons_zero, List.set_cons_succ]
  refine wpAnyH_take (i := 5) (oi := _) (v := ?_) rfl (by kernel_rfl) (by kernel_rfl) (by kernel_rfl) (fun _ _ _ h => h) (Or.inl ⟨by rfl, ?_⟩) hS ?_
  rotate_left
  · intro w' hw'
    have hcells := HC.out w' hw'
    go_simp
    (try with_reducible rfl)
  simp only [Act.put, List.getElem_toArray, List.getElem_cons_succ, List.getElem_cons_zero, List.setIfInBounds_toArray, List.set_cons_zero, List.set_cons_succ]
  refine wpAnyH_ready (rs := [3]) (by kernel_rfl) (by simp) ?_
  refine AllReadyH.cons (o := _) rfl (fun K hK => ?_) AllReadyH.nil
  go_simp; go_at_call 110; refine (Tryz.strconv_Itoa_small 2 (by decide) _).mono ?_
  rintro e w3 ⟨rfl, rfl⟩
  refine hK.out _ _ (hS) (fun hS => ?_)
  clear hK K
  (try simp only [Act.put, List.getElem_toArray, List.getElem_cons_succ, List.getElem_cons_zero, List.setIfInBounds_toArray, List.set_cons_zero, List.set_cons_succ])
  refine wpAnyH_ready (rs := [6]) (by kernel_rfl) (by simp) ?_
  refine AllReadyH.cons (o := _) rfl (fun K hK => ?_) AllReadyH.nil
  go_simp; go_at_call 110; refine (Tryz.strconv_Itoa_small 0 (by decide) _).mono ?_
  rintro e w3 ⟨rfl, rfl⟩
  refine hK.out _ _ (hS) (fun hS => ?_)
  clear hK K
  (try simp only [Act.put, List.getElem_toArray, List.getElem_cons_succ, List.getElem_cons_zero, List.setIfInBounds_toArray, List.set_cons_zero, List.set_cons_succ])
  refine wpAnyH_ready (rs := [7]) (by kernel_rfl) (by simp) ?_
  refine AllReadyH.cons (o := _) rfl (fun K hK => ?_) AllReadyH.nil
  go_simp
  refine hK.out _ _ (⟨_, HS0.out.ext (((Below.refl _ w2).drew).alloc (Nat.le_refl _) _)⟩) (fun hS => ?_)
  clear hK K
  (try simp only [Act.put, List.getElem_toArray, List.getElem_cons_succ, List.getElem_cons_zero, List.setIfInBounds_toArray, List.set_cons_zero, List.set_cons_succ])
  refine wpAnyH_ready (rs := [8]) (by kernel_rfl) (by simp) ?_
  refine AllReadyH.cons (o := _) rfl (fun K hK => ?_) AllReadyH.nil
  generalize hw3 : World.drew _ = w3 at hS ⊢
  have h3 : BldAt w (w1.heap.size + 1) [] [(w.heap.size, sBox sb), (w1.heap.size, fBox)] w3 := by rw [← hw3]; exact HS0.out.ext ((Below.refl _ w2).alloc (Nat.le_refl _) _).drew
  have g3 : w3.heap[w2.heap.size]? = some (.cells #[.string ⟨#[115, 116, 97, 116, 101]⟩, .string ⟨(Lib.decDigits 2).toArray⟩, .string ⟨(Lib.decDigits 0).toArray⟩] 9) := by rw [← hw3]; exact heap_alloc_new _ _
  clear hw3
  have e3 : lineB [⟨#[115, 116, 97, 116, 101]⟩, ⟨(Lib.decDigits 2).toArray⟩, ⟨(Lib.decDigits 0).toArray⟩] = knT0 := by kernel_rfl
  have hl3 := line_call _ _ [] [⟨#[115, 116, 97, 116, 101]⟩, ⟨(Lib.decDigits 2).toArray⟩, ⟨(Lib.decDigits 0).toArray⟩] w2.heap.size 0 3 w3 h3.bld (cells3 g3) (ltOf g3) (by decide) (by decide) (by rw [e3]; decide) (by have := h3.n; omega)
  rw [e3] at hl3
  go_simp; go_at_call 116; refine hl3.mono ?_
  rintro e w4 he
  have h4 := h3.line he
  obtain ⟨rfl, _⟩ := he
  refine hK.out _ _ (⟨_, h4⟩) (fun hS => ?_)
  clear hK K
  (try simp only [Act.put, List.getElem_toArray, List.getElem_cons_succ, List.getElem_cons_zero, List.setIfInBounds_toArray, List.set_cons_zero, List.set_cons_succ])
  refine wpAnyH_done (by kernel_rfl) ?_ _
  (try dsimp only)
  have h5 : w4.heap[w.heap.size]? = some (sBox sb) := h4.at 0 (by simp)
  have k2 := cellOf h5 2
  (try dsimp only at k2)
  have H4 := hid h4
  clear h5 hS h4 hl3 e3 g3 h3 HC HS0
  go_wp2
  go_loopw [34] (fun i wr => ∃ k : Nat, k ≤ 1 ∧ i = .int .i64 k ∧ BldAt w (w1.heap.size + 1) (if k = 0 then knT0 else knT0 ++ knTS ++ knTV) [(w.heap.size, sBox sb), (w1.heap.size, fBox)] wr) (fun i _ => 1 - (intOf i).toNat)
  case atStart => exact ⟨0, by omega, rfl, H4.out⟩
  case round =>
    obtain ⟨k, hk, rfl, hbr⟩ := hrel
    obtain ⟨wp, rfl⟩ : ∃ w1 : World, w1 = wr := ⟨_, rfl⟩
    rcases Nat.lt_or_ge k 1 with hlt | hge
    · obtain rfl : k = 0 := by omega
      rw [if_pos rfl] at hbr
      have HBR := hid hbr
      have gs := heapExt hbr.bw HS.out
      have y0 := cellOf gs 0; have y1 := cellOf gs 1; have y2 := cellOf gs 2; have y3 := cellOf gs 3; have y4 := cellOf gs 4; have y5 := cellOf gs 5; have y6 := cellOf gs 6; have y7 := cellOf gs 7; have y8 := cellOf gs 8; have y9 := cellOf gs 9
      (try dsimp only at y0 y1 y2 y3 y4 y5 y6 y7 y8 y9)
      clear hbr
      go_upto_region 12 with (fail)
      clear y0 y1 y2 y3 y4 y5 y6 y7 y8 y9 gs
      obtain ⟨w5, hw5⟩ : ∃ w5, w5 = wp.alloc (slObj vb) := ⟨_, rfl⟩
      rw [← hw5]
      have HS5 : Hid (BldAt w (w1.heap.size + 1) knT0 [(wp.heap.size, slObj vb), (w.heap.size, sBox sb), (w1.heap.size, fBox)] w5) := hid (by
        rw [hw5]
        refine (HBR.out.ext ((Below.refl _ wp).alloc (Nat.le_refl _) _)).cons (heap_alloc_new _ _) ?_ (fun c fz e => by cases e)
        have := HBR.out.n
        omega)
      have HC2 : Hid (∀ w', (∃ bs, BldAt w (w1.heap.size + 1) bs [(wp.heap.size, slObj vb), (w.heap.size, sBox sb), (w1.heap.size, fBox)] w') → w'.cell? ⟨wp.heap.size, 0, none⟩ = some (.int .i64 4) ∧ w'.cell? ⟨wp.heap.size, 1, none⟩ = some (.int .i64 0) ∧ w'.cell? ⟨wp.heap.size, 2, none⟩ = some (.int .i64 0) ∧ w'.cell? ⟨wp.heap.size, 3, none⟩ = some (.string ⟨#[97]⟩) ∧ w'.cell? ⟨wp.heap.size, 4, none⟩ = some (.slice none 0 0) ∧ w'.cell? ⟨wp.heap.size, 5, none⟩ = some (.slice none 0 0) ∧ w'.cell? ⟨wp.heap.size, 6, none⟩ = some (.int .i64 1) ∧ w'.cell? ⟨wp.heap.size, 7, none⟩ = some (.int .i64 50) ∧ w'.cell? ⟨wp.heap.size, 8, none⟩ = some (.slice none 0 0) ∧ w'.cell? ⟨wp.heap.size, 9, none⟩ = some (.slice (some ⟨vb, 0, none⟩) 1 1)) := hid fun w' ⟨_, h⟩ => by
        have h1 := h.at 0 (by simp)
        exact ⟨cellOf h1 0, cellOf h1 1, cellOf h1 2, cellOf h1 3, cellOf h1 4, cellOf h1 5, cellOf h1 6, cellOf h1 7, cellOf h1 8, cellOf h1 9⟩
      have HBX := hid (show Below w.heap.size w w5 from HS5.out.bw)
      clear hw5
      refine wp_region_held_drew (S := (fun w' => ∃ bs, BldAt w (w1.heap.size + 1) bs [(wp.heap.size, slObj vb), (w.heap.size, sBox sb), (w1.heap.size, fBox)] w')) (by kernel_rfl) (⟨_, HS5.out.ext (Below.refl _ _).drew⟩) (fun hS => ?_)
      refine wpAnyH_take (i := 0) (oi := _) (v := ?_) rfl (by kernel_rfl) (by kernel_rfl) (by kernel_rfl) (fun _ _ _ h => h) (Or.inl ⟨by rfl, ?_⟩) hS ?_
      rotate_left
      · intro w' hw'
        have hcells := HC2.out w' hw'
        go_simp
        (try with_reducible rfl)
      simp only [Act.put, List.getElem_toArray, List.getElem_cons_succ, List.getElem_cons_zero, List.setIfInBounds_toArray, List.set_cons_zero, List.set_cons_succ]
      refine wpAnyH_take (i := 1) (oi := _) (v := ?_) rfl (by kernel_rfl) (by kernel_rfl) (by kernel_rfl) (fun _ _ _ h => h) (Or.inl ⟨by rfl, ?_⟩) hS ?_
      rotate_left
      · intro w' hw'
        have hcells := HC2.out w' hw'
        go_simp
        (try with_reducible rfl)
      simp only [Act.put, List.getElem_toArray, List.getElem_cons_succ, List.getElem_cons_zero, List.setIfInBounds_toArray, List.set_cons_zero, List.set_cons_succ]
      refine wpAnyH_take (i := 2) (oi := _) (v := ?_) rfl (by kernel_rfl) (by kernel_rfl) (by kernel_rfl) (fun _ _ _ h => h) (Or.inl ⟨by rfl, ?_⟩) hS ?_
      rotate_left
      · intro w' hw'
        have hcells := HC2.out w' hw'
        go_simp
        (try with_reducible rfl)
      simp only [Act.put, List.getElem_toArray, List.getElem_cons_succ, List.getElem_cons_zero, List.setIfInBounds_toArray, List.set_cons_zero, List.set_cons_succ]
      refine wpAnyH_take (i := 4) (oi := _) (v := ?_) rfl (by kernel_rfl) (by kernel_rfl) (by kernel_rfl) (fun _ _ _ h => h) (Or.inl ⟨by rfl, ?_⟩) hS ?_
      rotate_left
      · intro w' hw'
        have hcells := HC2.out w' hw'
        go_simp
        (try with_reducible rfl)
      simp only [Act.put, List.getElem_toArray, List.getElem_cons_succ, List.getElem_cons_zero, List.setIfInBounds_toArray, List.set_cons_zero, List.set_cons_succ]
      refine wpAnyH_take (i := 5) (oi := _) (v := ?_) rfl (by kernel_rfl) (by kernel_rfl) (by kernel_rfl) (fun _ _ _ h => h) (Or.inl ⟨by rfl, ?_⟩) hS ?_
      rotate_left
      · intro w' hw'
        have hcells := HC2.out w' hw'
        go_simp
        (try with_reducible rfl)
      simp only [Act.put, List.getElem_toArray, List.getElem_cons_succ, List.getElem_cons_zero, List.setIfInBounds_toArray, List.set_cons_zero, List.set_cons_succ]
      refine wpAnyH_take (i := 7) (oi := _) (v := ?_) rfl (by kernel_rfl) (by kernel_rfl) (by kernel_rfl) (fun _ _ _ h => h) (Or.inl ⟨by rfl, ?_⟩) hS ?_
      rotate_left
      · intro w' hw'
        have hcells := HC2.out w' hw'
        go_simp
        (try with_reducible rfl)
      simp only [Act.put, List.getElem_toArray, List.getElem_cons_succ, List.getElem_cons_zero, List.setIfInBounds_toArray, List.set_cons_zero, List.set_cons_succ]
      refine wpAnyH_take (i := 8) (oi := _) (v := ?_) rfl (by kernel_rfl) (by kernel_rfl) (by kernel_rfl) (fun _ _ _ h => h) (Or.inl ⟨by rfl, ?_⟩) hS ?_
      rotate_left
      · intro w' hw'
        have hcells := HC2.out w' hw'
        go_simp
        (try with_reducible rfl)
      simp only [Act.put, List.getElem_toArray, List.getElem_cons_succ, List.getElem_cons_zero, List.setIfInBounds_toArray, List.set_cons_zero, List.set_cons_succ]
      refine wpAnyH_take (i := 9) (oi := _) (v := ?_) rfl (by kernel_rfl) (by kernel_rfl) (by kernel_rfl) (fun _ _ _ h => h) (Or.inl ⟨by rfl, ?_⟩) hS ?_
      rotate_left
      · intro w' hw'
        have hcells := HC2.out w' hw'
        go_simp
        (try with_reducible rfl)
      simp only [Act.put, List.getElem_toArray, List.getElem_cons_succ, List.getElem_cons_zero, List.setIfInBounds_toArray, List.set_cons_zero, List.set_cons_succ]
      refine wpAnyH_ready (rs := [3]) (by kernel_rfl) (by simp) ?_
      refine AllReadyH.cons (o := _) rfl (fun K hK => ?_) AllReadyH.nil
      go_simp; go_at_call 110; refine (Tryz.strconv_Itoa_small 1 (by decide) _).mono ?_
      rintro e w3 ⟨rfl, rfl⟩
      refine hK.out _ _ (hS) (fun hS => ?_)
      clear hK K
      (try simp only [Act.put, List.getElem_toArray, List.getElem_cons_succ, List.getElem_cons_zero, List.setIfInBounds_toArray, List.set_cons_zero, List.set_cons_succ])
      refine wpAnyH_ready (rs := [6]) (by kernel_rfl) (by simp) ?_
      refine AllReadyH.cons (o := _) rfl (fun K hK => ?_) AllReadyH.nil
      go_simp; go_at_call 110; refine (Tryz.strconv_Itoa_small 50 (by decide) _).mono ?_
      rintro e w3 ⟨rfl, rfl⟩
      refine hK.out _ _ (hS) (fun hS => ?_)
      clear hK K
      (try simp only [Act.put, List.getElem_toArray, List.getElem_cons_succ, List.getElem_cons_zero, List.setIfInBounds_toArray, List.set_cons_zero, List.set_cons_succ])
      refine wpAnyH_ready (rs := [10]) (by kernel_rfl) (by simp) ?_
      refine AllReadyH.cons (o := _) rfl (fun K hK => ?_) AllReadyH.nil
      generalize hw6 : World.drew _ = w6 at hS ⊢
      have h6 : BldAt w (w1.heap.size + 1) knT0 [(wp.heap.size, slObj vb), (w.heap.size, sBox sb), (w1.heap.size, fBox)] w6 := by rw [← hw6]; exact HS5.out.ext (Below.refl _ w5).drew
      have hl6 := litA_call ⟨4, 0, 0, ⟨#[97]⟩, none, 0, 0, none, 0, 0⟩ ⟨#[97]⟩ w6 (keyA_is _ _) (HT.out.below h6.bw) keyA_chk (by decide) plainA
      dsimp only [VC.v] at hl6
      clear hw6
      go_simp; go_at_call 108; refine hl6.mono ?_
      rintro e w7 ⟨rfl, hb7⟩
      have h7 := h6.ext hb7
      have g7 : w7.heap[w1.heap.size]? = some fBox := h7.at 2 (by simp)
      refine hK.out _ _ (⟨_, h7⟩) (fun hS => ?_)
      clear hK K
      (try simp only [Act.put, List.getElem_toArray, List.getElem_cons_succ, List.getElem_cons_zero, List.setIfInBounds_toArray, List.set_cons_zero, List.set_cons_succ])
      refine wpAnyH_take (i := 11) (oi := _) (v := ?_) rfl (by kernel_rfl) (by kernel_rfl) (by kernel_rfl) (fun _ _ _ h => h) (Or.inl ⟨by rfl, ?_⟩) hS ?_
      rotate_left
      · intro w' hw'
        have hcells := HC2.out w' hw'
        go_simp
        (try with_reducible rfl)
      simp only [Act.put, List.getElem_toArray, List.getElem_cons_succ, List.getElem_cons_zero, List.setIfInBounds_toArray, List.set_cons_zero, List.set_cons_succ]
      refine wpAnyH_take (i := 12) (oi := _) (v := ?_) rfl (by kernel_rfl) (by kernel_rfl) (by kernel_rfl) (fun _ _ _ h => h) (Or.inl ⟨by rfl, ?_⟩) hS ?_
      rotate_left
      · intro w' hw'
        have hcells := HC2.out w' hw'
        go_simp
        (try with_reducible rfl)
      simp only [Act.put, List.getElem_toArray, List.getElem_cons_succ, List.getElem_cons_zero, List.setIfInBounds_toArray, List.set_cons_zero, List.set_cons_succ]
      refine wpAnyH_ready (rs := [13]) (by kernel_rfl) (by simp) ?_
      refine AllReadyH.cons (o := _) rfl (fun K hK => ?_) AllReadyH.nil
      go_simp; go_at_call 118; refine (kept_call _ _ w7 (cellOf g7 0) (freeOf g7 0)).mono ?_
      rintro e w8 ⟨rfl, hw8⟩
      rw [setCell_self g7 rfl] at hw8
      subst hw8
      refine hK.out _ _ (⟨_, h7⟩) (fun hS => ?_)
      clear hK K
      (try simp only [Act.put, List.getElem_toArray, List.getElem_cons_succ, List.getElem_cons_zero, List.setIfInBounds_toArray, List.set_cons_zero, List.set_cons_succ])
      refine wpAnyH_ready (rs := [14]) (by kernel_rfl) (by simp) ?_
      refine AllReadyH.cons (o := _) rfl (fun K hK => ?_) AllReadyH.nil
      go_simp
      refine hK.out _ _ (⟨_, h7.ext ((Below.refl _ _).alloc (Nat.le_refl _) _)⟩) (fun hS => ?_)
      clear hK K
      (try simp only [Act.put, List.getElem_toArray, List.getElem_cons_succ, List.getElem_cons_zero, List.setIfInBounds_toArray, List.set_cons_zero, List.set_cons_succ])
      refine wpAnyH_ready (rs := [15]) (by kernel_rfl) (by simp) ?_
      refine AllReadyH.cons (o := _) rfl (fun K hK => ?_) AllReadyH.nil
      generalize hw9 : World.alloc _ _ = w9 at hS ⊢
      have h9 : BldAt w (w1.heap.size + 1) knT0 [(wp.heap.size, slObj vb), (w.heap.size, sBox sb), (w1.heap.size, fBox)] w9 := by rw [← hw9]; exact h7.ext ((Below.refl _ _).alloc (Nat.le_refl _) _)
      have g9 : w9.heap[w8.heap.size]? = some (.cells #[.string ⟨#[115, 108, 111, 116]⟩, .string ⟨(Lib.decDigits 1).toArray⟩, .string ⟨(Lib.decDigits 50).toArray⟩, .string ⟨(quoteP ⟨#[97]⟩).toArray⟩] 9) := by rw [← hw9]; exact heap_alloc_new _ _
      clear hw9
      have e9 : lineB [⟨#[115, 108, 111, 116]⟩, ⟨(Lib.decDigits 1).toArray⟩, ⟨(Lib.decDigits 50).toArray⟩, ⟨(quoteP ⟨#[97]⟩).toArray⟩] = knTS := by kernel_rfl
      have hl9 := line_call _ _ knT0 [⟨#[115, 108, 111, 116]⟩, ⟨(Lib.decDigits 1).toArray⟩, ⟨(Lib.decDigits 50).toArray⟩, ⟨(quoteP ⟨#[97]⟩).toArray⟩] w8.heap.size 0 4 w9 h9.bld (cells4 g9) (ltOf g9) (by decide) (by decide) (by rw [e9]; decide) (by have := h9.n; omega)
      rw [e9] at hl9
      go_simp; go_at_call 116; refine hl9.mono ?_
      rintro e w10 he
      have h10 := h9.line he
      obtain ⟨rfl, _⟩ := he
      refine hK.out _ _ (⟨_, h10⟩) (fun hS => ?_)
      clear hK K
      (try simp only [Act.put, List.getElem_toArray, List.getElem_cons_succ, List.getElem_cons_zero, List.setIfInBounds_toArray, List.set_cons_zero, List.set_cons_succ])
      refine wpAnyH_done (by kernel_rfl) ?_ _
      (try dsimp only)
      have H10 := hid h10
      have h11 : w10.heap[wp.heap.size]? = some (slObj vb) := h10.at 0 (by simp)
      have k8 := cellOf h11 8
      have k9 := cellOf h11 9
      (try dsimp only at k8 k9)
      clear hS h10 hl9 e9 g9 h9 h7 g7 hb7 h6 hl6 h11 HC2 HBX
      go_wp2
      go_loopw [57] (fun i wr => i = .int .i64 0 ∧ wr = w10) (fun _ _ => 0)
      case atStart => exact ⟨rfl, rfl⟩
      case round =>
        obtain ⟨rfl, rfl⟩ := hrel
        go_wp2
        go_loopw [74] (fun i wr => ∃ k : Nat, k ≤ 1 ∧ i = .int .i64 k ∧ BldAt w (w1.heap.size + 1) (if k = 0 then knT0 ++ knTS else knT0 ++ knTS ++ knTV) [(wp.heap.size, slObj vb), (w.heap.size, sBox sb), (w1.heap.size, fBox)] wr) (fun i _ => 1 - (intOf i).toNat)
        case atStart => exact ⟨0, by omega, rfl, H10.out⟩
        case round =>
          obtain ⟨k, hk, rfl, hbr⟩ := hrel
          obtain ⟨wq, rfl⟩ : ∃ w1 : World, w1 = wr := ⟨_, rfl⟩
          clear k8 k9
          rcases Nat.lt_or_ge k 1 with hlt | hge
          · obtain rfl : k = 0 := by omega
            rw [if_pos rfl] at hbr
            have HBQ := hid hbr
            have gs := heapExt hbr.bw HV.out
            have y0 := cellOf gs 0; have y1 := cellOf gs 1; have y2 := cellOf gs 2; have y3 := cellOf gs 3; have y4 := cellOf gs 4; have y5 := cellOf gs 5
            (try dsimp only at y0 y1 y2 y3 y4 y5)
            clear hbr
            go_upto_region 21 with (fail)
            clear y0 y1 y2 y3 y4 y5 gs
            obtain ⟨w12, hw12⟩ : ∃ w12, w12 = wq.alloc v7Obj := ⟨_, rfl⟩
            rw [← hw12]
            have h12 : BldAt w (w1.heap.size + 1) (knT0 ++ knTS) [(wp.heap.size, slObj vb), (w.heap.size, sBox sb), (w1.heap.size, fBox)] w12 := by rw [hw12]; exact HBQ.out.ext ((Below.refl _ wq).alloc (Nat.le_refl _) _)
            have g12 : w12.heap[wq.heap.size]? = some v7Obj := by rw [hw12]; exact heap_alloc_new _ _
            have y0 := cellOf g12 0; have y1 := cellOf g12 1; have y2 := cellOf g12 2; have y3 := cellOf g12 3; have y4 := cellOf g12 4; have y5 := cellOf g12 5
            (try dsimp only at y0 y1 y2 y3 y4 y5)
            have HL12 := hid (litI_call ⟨2, 7, 0, ⟨#[]⟩, none, 0, 0, none, 0, 0⟩ 7 (by decide) w12 (val7_is _ _) (HT.out.below h12.bw) val7_chk (by rw [show (⟨(Lib.decDigits 7).toArray⟩ : ByteArray) = ⟨#[55]⟩ by kernel_rfl]; decide))
            dsimp only [VC.v] at HL12
            have H12 := hid h12
            have eTV : lineB [⟨#[118, 97, 108, 117, 101]⟩, ⟨(Lib.decDigits 7).toArray⟩] = knTV := by kernel_rfl
            clear hw12 g12 h12
            go_wp2_with (first
              | (go_at_call 116; refine HLR.out.mono ?_; rintro e w15 he; have H15 := hid (HA14.out.line he); obtain ⟨rfl, _⟩ := he)
              | (go_at_call 118; refine HK13.out.mono ?_; rintro e w14 ⟨rfl, hw14⟩; rw [HSS.out] at hw14; subst hw14)
              | (go_at_call 108; refine HL12.out.mono ?_; rintro e w13 ⟨rfl, hb13⟩; have h13 := H12.out.ext hb13; have g13 : w13.heap[w1.heap.size]? = some fBox := h13.at 2 (by simp); have HK13 := hid (kept_call w1.heap.size ⟨(Lib.decDigits 7).toArray⟩ w13 (cellOf g13 0) (freeOf g13 0)); have HSS := hid (setCell_self (v := .int .i64 0) (i := 0) g13 rfl); have hlr := line_call _ _ (knT0 ++ knTS) [⟨#[118, 97, 108, 117, 101]⟩, ⟨(Lib.decDigits 7).toArray⟩] w13.heap.size 0 2 (w13.alloc (.cells #[.string ⟨#[118, 97, 108, 117, 101]⟩, .string ⟨(Lib.decDigits 7).toArray⟩] 9)) (h13.ext ((Below.refl _ w13).alloc (Nat.le_refl _) _)).bld (cells2 (heap_alloc_new _ _)) (ltOf (heap_alloc_new _ _)) (by decide) (by decide) (by rw [eTV]; decide) (by have := h13.n; simp; omega); rw [eTV] at hlr; have HLR := hid hlr; have HA14 := hid (h13.ext ((Below.refl _ w13).alloc (Nat.le_refl _) (.cells #[.string ⟨#[118, 97, 108, 117, 101]⟩, .string ⟨(Lib.decDigits 7).toArray⟩] 9))); clear hlr h13 g13))
            go_roundw
            case rel => exact ⟨1, Nat.le_refl _, by go_num, by rw [if_neg (by decide)]; exact H15.out⟩
            case measure => simp [intOf]
          · obtain rfl : k = 1 := by omega
            rw [if_neg (by decide)] at hbr
            have HBQ := hid hbr
            clear hbr
            go_wp2
            go_roundw
            case rel => exact ⟨1, Nat.le_refl _, by go_num, by rw [if_neg (by decide)]; exact HBQ.out.tail⟩
            case measure => simp [intOf]
    · obtain rfl : k = 1 := by omega
      rw [if_neg (by decide)] at hbr
      have HBR := hid hbr
      have gf : wp.heap[w1.heap.size]? = some fBox := hbr.at 1 (by simp)
      have kf := cellOf gf 0
      (try dsimp only at kf)
      have HST := hid (Tryz.Builder_String_any_k (w1.heap.size + 1) (w1.heap.size + 1) (knT0 ++ knTS ++ knTV) wp hbr.bld (by have := hbr.n; omega))
      clear hbr gf
      go_wp2_with (go_at_call 119; refine HST.out.mono ?_; rintro e w20 ⟨rfl, _, hb20, _⟩)
      go_ret2
      exact ⟨rfl, HBR.out.bw.trans (hb20.mono HBR.out.m)⟩
end Go.Proofs.YthjlgpmajeafpaaGreatDoor

/-
  slots.cloneSlot returns a copy of a slot in memory of its own. Condition: the slot can be read as data.
-/
namespace Go.Proofs.YthjlgpmajeafpaaGreatDoor
open Go Go.RowKit Go.Shelf
set_option linter.unusedVariables false
set_option linter.unusedSimpArgs false

theorem belowSize {N B : Nat} {w w' : World} (h : Below N w w') (hB : B ≤ w.heap.size) : B ≤ w'.heap.size := Nat.le_trans hB h.size
abbrev putTen (W : World) (B : Nat) (v0 v1 v2 v3 v4 v5 v6 v7 v8 v9 : Value) : World := ((((((((((W.setCell ⟨B, 0, none⟩ (v0)).setCell ⟨B, 1, none⟩ (v1)).setCell ⟨B, 2, none⟩ (v2)).setCell ⟨B, 3, none⟩ (v3)).setCell ⟨B, 4, none⟩ (v4)).setCell ⟨B, 5, none⟩ (v5)).setCell ⟨B, 6, none⟩ (v6)).setCell ⟨B, 7, none⟩ (v7)).setCell ⟨B, 8, none⟩ (v8)).setCell ⟨B, 9, none⟩ (v9))
theorem putTen_heap {w : World} {B : Nat} {v0 v1 v2 v3 v4 v5 v6 v7 v8 v9 : Value} {t : TypeId} {x0 x1 x2 x3 x4 x5 x6 x7 x8 x9 : Value} {fr : Nat × Nat} (h : w.heap[B]? = some (.cells #[x0, x1, x2, x3, x4, x5, x6, x7, x8, x9] t fr)) : (putTen w B v0 v1 v2 v3 v4 v5 v6 v7 v8 v9).heap[B]? = some (.cells #[v0, v1, v2, v3, v4, v5, v6, v7, v8, v9] t fr) := by
  have e := (heapSet (o := 9) (v9) (heapSet (o := 8) (v8) (heapSet (o := 7) (v7) (heapSet (o := 6) (v6) (heapSet (o := 5) (v5) (heapSet (o := 4) (v4) (heapSet (o := 3) (v3) (heapSet (o := 2) (v2) (heapSet (o := 1) (v1) (heapSet (o := 0) (v0) h))))))))))
  simp only [List.setIfInBounds_toArray, List.set_cons_zero, List.set_cons_succ] at e
  exact e
theorem putTen_other (v0 v1 v2 v3 v4 v5 v6 v7 v8 v9 : Value) (w : World) (B b : Nat) (hb : b ≠ B) : (putTen w B v0 v1 v2 v3 v4 v5 v6 v7 v8 v9).heap[b]? = w.heap[b]? := by
  unfold putTen
  rw [Below.heap_setCell _ _ _ _ hb, Below.heap_setCell _ _ _ _ hb, Below.heap_setCell _ _ _ _ hb, Below.heap_setCell _ _ _ _ hb, Below.heap_setCell _ _ _ _ hb, Below.heap_setCell _ _ _ _ hb, Below.heap_setCell _ _ _ _ hb, Below.heap_setCell _ _ _ _ hb, Below.heap_setCell _ _ _ _ hb, Below.heap_setCell _ _ _ _ hb]
theorem putTen_size (v0 v1 v2 v3 v4 v5 v6 v7 v8 v9 : Value) (w : World) (B : Nat) : (putTen w B v0 v1 v2 v3 v4 v5 v6 v7 v8 v9).heap.size = w.heap.size := by simp [putTen, World.setCell]
theorem putTen_below (v0 v1 v2 v3 v4 v5 v6 v7 v8 v9 : Value) (w : World) (B N : Nat) (hN : N ≤ B) : Below N w (putTen w B v0 v1 v2 v3 v4 v5 v6 v7 v8 v9) := (((((((((((Below.refl _ _).setCell (p := ⟨B, 0, none⟩) (by dsimp only; omega) _).setCell (p := ⟨B, 1, none⟩) (by dsimp only; omega) _).setCell (p := ⟨B, 2, none⟩) (by dsimp only; omega) _).setCell (p := ⟨B, 3, none⟩) (by dsimp only; omega) _).setCell (p := ⟨B, 4, none⟩) (by dsimp only; omega) _).setCell (p := ⟨B, 5, none⟩) (by dsimp only; omega) _).setCell (p := ⟨B, 6, none⟩) (by dsimp only; omega) _).setCell (p := ⟨B, 7, none⟩) (by dsimp only; omega) _).setCell (p := ⟨B, 8, none⟩) (by dsimp only; omega) _).setCell (p := ⟨B, 9, none⟩) (by dsimp only; omega) _)
def SlPost (w : World) (d : Slot) (e : Ending) (w' : World) : Prop := ∃ c' : SlC, e = .returned c'.v ∧ Below w.heap.size w w' ∧ IsSl (fun b => w.heap.size ≤ b ∧ b < w'.heap.size) w' c' d

set_option maxRecDepth 100000 in
set_option maxHeartbeats 16000000 in
theorem cloneSlot_call (c : SlC) (d : Slot) (w : World) (hd : IsSl (· < w.heap.size) w c d) : Calls Tryz.prog 84 #[c.v] w (SlPost w d) := by
  obtain ⟨ti10, hi10, hz010, hz110, hz210⟩ := info_parts infoMsg
  obtain ⟨ti6, hi6, hz06, hz16, hz26⟩ := info_parts infoValue
  obtain ⟨⟨kk, ki, ks, kt, kla, kll, klc, kfa, kfl, kfc⟩, cn, ct, ia, il, ic, wa, wl, wc⟩ := c
  have hbig := hd.items.big
  have hbig2 := hd.vals.big
  have HLI := hid hd.items.len
  have HLV := hid hd.vals.len
  have HDI := hid hd.items
  have HDV := hid hd.vals
  have HK := hid hd.k
  have HNT := hid (And.intro hd.n (And.intro hd.rn (And.intro hd.t hd.rt)))
  dsimp only at hbig hbig2 HLI HLV HDI HDV HNT HK
  clear hd
  obtain ⟨wb, hwb⟩ : ∃ wb, wb = (w.alloc (.cells #[.int .i64 kk, .int .i64 ki, .int .i64 ks, .string kt, .slice kla kll klc, .slice kfa kfl kfc, .int .i64 cn, .int .i64 ct, .slice ia il ic, .slice wa wl wc] 58)).alloc (.cells #[.int .i64 0, .int .i64 0, .int .i64 0, .string ⟨#[]⟩, .slice none 0 0, .slice none 0 0, .int .i64 0, .int .i64 0, .slice none 0 0, .slice none 0 0] 58) := ⟨_, rfl⟩
  have hb0 : Below w.heap.size w wb := by rw [hwb]; exact ((Below.refl _ w).alloc (Nat.le_refl _) _).alloc (by simp) _
  have hsb : wb.heap.size = w.heap.size + 2 := by rw [hwb]; simp
  have g1 : wb.heap[w.heap.size]? = some (.cells #[.int .i64 kk, .int .i64 ki, .int .i64 ks, .string kt, .slice kla kll klc, .slice kfa kfl kfc, .int .i64 cn, .int .i64 ct, .slice ia il ic, .slice wa wl wc] 58) := by rw [hwb]; exact heapAlloc _ (heap_alloc_new w _)
  have g2 : wb.heap[w.heap.size + 1]? = some (.cells #[.int .i64 0, .int .i64 0, .int .i64 0, .string ⟨#[]⟩, .slice none 0 0, .slice none 0 0, .int .i64 0, .int .i64 0, .slice none 0 0, .slice none 0 0] 58) := by rw [hwb]; exact heapNewAt _ _ _ (by simp)
  have k8 := cellOf g1 8
  (try dsimp only at k8)
  rw [hwb] at k8
  have HWB := hid hwb
  have HB0 := hid hb0
  have HSB := hid hsb
  have G1 := hid g1
  have G2 := hid g2
  clear hwb hb0 hsb g1 g2
  dsimp only [SlC.v]
  go_enter Tryz.func84, Tryz.ntmps84
  go_wp2_with (at_make; refine wpList_make_own _ rfl _ _ 36 rfl wb.heap.size 30 ti10 _ 10 Tryz.underlying36 hi10 hz010 hz110 .i64 .i64 _ il rfl rfl rfl (by rw [hz210]; omega) (by unfold maxLen; omega) (by rw [HWB.out]; exact Nat.le_refl _) ?_; intro w1 hown1 hg1; rw [← HWB.out] at hown1 hg1; have k8' := (heapGrown hg1 G1.out (by simp) : _); have c8 := cellOf k8' 8; (try dsimp only at c8); have HO1 := hid hown1; have HG1 := hid hg1; clear k8' hown1 hg1 k8)
  clear c8
  have HBS := hid (show Below w.heap.size w w1 from HB0.out.grown HG1.out (by have := HSB.out; omega) (fun r e => by cases e))
  have HZS := hid (show w.heap.size ≤ wb.heap.size by have := HSB.out; omega)
  have HZB := hid (show wb.heap.size ≤ w1.heap.size from HG1.out.size)
  go_loopw [3, 16] (fun vv i wr => ∃ (k : Nat) (v : Value), v = vv ∧ k ≤ il ∧ i = .int .i64 k ∧ Built msgK 30 wb.heap.size wr v k d.items ∧ Below wb.heap.size w1 wr) (fun _ i _ => il - (intOf i).toNat)
  case atStart => exact ⟨0, _, rfl, Nat.zero_le _, rfl, ⟨[], rfl, (by rw [show w.heap.size + 1 + 1 = wb.heap.size from HSB.out.symm]; exact HO1.out), fun j h => by simp at h⟩, Below.refl _ _⟩
  case round =>
  obtain ⟨k, v, rfl, hk, rfl, hbu, hbr⟩ := hrel
  obtain ⟨wp, rfl⟩ : ∃ w1 : World, w1 = wr := ⟨_, rfl⟩
  by_cases hlt : k < il
  · have hkl : k < d.items.length := by have := HLI.out; omega
    obtain ⟨b, o, rfl, hb, hx⟩ := HDI.out.slot (show 0 < il by omega)
    obtain ⟨x, hxa, hxi⟩ := hx k hkl
    have hbw : Below w.heap.size w wp := HBS.out.trans (hbr.mono HZS.out)
    obtain ⟨x0, x1, x2, x3, x4, x5, x6, x7, x8, x9⟩ := ((hxa.same (hbw.block b hb))).m
    have hlt' : (k : Int) < (il : Int) := by omega
    have hk0 : (0 : Int) ≤ (k : Int) := by omega
    obtain ⟨cs, hcs, hown, hel⟩ := hbu
    have hvb := Built.own (K := msgK) ⟨cs, hcs, hown, hel⟩
    have hba : Below w.heap.size w (wp.alloc (.cells #[.int .i64 x.st.e, .slice x.st.a x.st.n x.st.c, .int .i64 x.m, .slice x.a x.n x.c, .int .i64 x.b.k, .int .i64 x.b.i, .int .i64 x.b.s, .string x.b.t, .slice x.b.la x.b.ll x.b.lc, .slice x.b.fa x.b.fl x.b.fc] 30)) := hbw.alloc hbw.size _
    have hsz0 : wb.heap.size ≤ wp.heap.size := belowSize hbr HZB.out
    have HCS := hid (msgClone_call x d.items[k] (wp.alloc (.cells #[.int .i64 x.st.e, .slice x.st.a x.st.n x.st.c, .int .i64 x.m, .slice x.a x.n x.c, .int .i64 x.b.k, .int .i64 x.b.i, .int .i64 x.b.s, .string x.b.t, .slice x.b.la x.b.ll x.b.lc, .slice x.b.fa x.b.fl x.b.fc] 30)) (hxi.same fun b q => ⟨by have := hba.size; omega, hba.block b q⟩))
    have HVB := hid hvb
    have HOWN := hid hown
    have HEL := hid hel
    have HCL := hid hcs
    have HBR := hid hbr
    have hbs : wb.heap.size ≤ wp.heap.size := hsz0
    clear hvb hown hel hcs hba hbr hxi hxa hx hb hbw
    have hcap1 : k + 1 ≤ maxLen := by unfold maxLen; omega
    have hcap2 : (k + 1) * 152 ≤ 140737488355328 := by omega
    go_wp2_with (first
      | (go_at_call 88; refine HCS.out.mono ?_; rintro e w4 ⟨c4, rfl, hb4, hi4⟩; have HB4 := hid hb4; have HI4 := hid hi4; clear hb4 hi4)
      | (at_builtin; refine wpList_append_lies _ (by rfl) _ _ 36 (by rfl) wb.heap.size 30 ti10 _ 10 152 Tryz.underlying36 hi10 hz010 hz110 hz210 rfl (by omega) v k (cs.flatMap MC.cs) (by rfl) ((ownExt (HOWN.out.alloc _) HB4.out).alloc (.cells #[.int .i64 c4.st.e, .slice c4.st.a c4.st.n c4.st.c, .int .i64 c4.m, .slice c4.a c4.n c4.c, .int .i64 c4.b.k, .int .i64 c4.b.i, .int .i64 c4.b.s, .string c4.b.t, .slice c4.b.la c4.b.ll c4.b.lc, .slice c4.b.fa c4.b.fl c4.b.fc] 30)) ⟨w4.heap.size, 0, none⟩ 1 1 (MC.cs c4) (by rfl) (by rfl) (World.news_of_block (heap_alloc_new w4 _)) (by simp [MC.cs, Value.oneCell']) (by omega) hcap1 hcap2 (by have h2 := HB4.out.size; simp at h2 ⊢; omega) (w4.heap.size + 1) (by simp) ?_; intro gg cap5 w5 hown2 hgrow hat hlt2; have HO2 := hid hown2; have HG := hid hgrow; have HAT := hid hat; clear hown2 hgrow hat hlt2))
    go_roundw
    case rel =>
      have h4 := HB4.out.size
      simp only [World.size_alloc] at h4
      have h14 : Below wb.heap.size w1 w4 := HBR.out.trans ((((Below.refl _ wp).alloc (Nat.le_refl _) (.cells #[.int .i64 x.st.e, .slice x.st.a x.st.n x.st.c, .int .i64 x.m, .slice x.a x.n x.c, .int .i64 x.b.k, .int .i64 x.b.i, .int .i64 x.b.s, .string x.b.t, .slice x.b.la x.b.ll x.b.lc, .slice x.b.fa x.b.fl x.b.fc] 30)).trans (HB4.out.mono (by simp))).mono hbs)
      have hpush : Built msgK 30 wb.heap.size w5 (.slice (some ⟨gg, 0, none⟩) (k + 1) cap5) (k + 1) d.items :=
        Built.push (K := msgK) (N := wp.heap.size) (w1 := w4) (o := (.cells #[.int .i64 c4.st.e, .slice c4.st.a c4.st.n c4.st.c, .int .i64 c4.m, .slice c4.a c4.n c4.c, .int .i64 c4.b.k, .int .i64 c4.b.i, .int .i64 c4.b.s, .string c4.b.t, .slice c4.b.la c4.b.ll c4.b.lc, .slice c4.b.fa c4.b.fl c4.b.fc] 30)) (c := c4) HCL.out
          (fun j hj hj' => (HEL.out j hj hj').same fun b hb => ⟨⟨hb.1, by have := hb.2.1; omega, hb.2.2⟩, (HB4.out.block b (by have := hb.2.1; simp; omega)).trans (Below.heap_alloc _ _ _ (by have := hb.2.1; omega))⟩) hkl
          (HI4.out.same fun b hb => ⟨⟨by have := hb.1; simp at this; omega, hb.2⟩, rfl⟩) hbs (fun r e => (HVB.out r e).2) HO2.out HG.out HAT.out
      exact ⟨k + 1, _, rfl, by omega, by go_num, hpush, (h14.alloc (by omega) _).grown HG.out (by simp; omega) (fun r e => (HVB.out r e).1)⟩
    case measure => simp [intOf]; omega
  · obtain rfl : il = k := by omega
    obtain ⟨va, vc1, rfl, hva, _, _⟩ := hbu.shape
    have hsz0 : wb.heap.size ≤ wp.heap.size := belowSize hbr HZB.out
    have gb : wp.heap[w.heap.size]? = some (.cells #[.int .i64 kk, .int .i64 ki, .int .i64 ks, .string kt, .slice kla kll klc, .slice kfa kfl kfc, .int .i64 cn, .int .i64 ct, .slice ia il ic, .slice wa wl wc] 58) := heapBelow hbr (heapGrown HG1.out G1.out (by simp)) (by have := HSB.out; omega)
    have gr : wp.heap[w.heap.size + 1]? = some (.cells #[.int .i64 0, .int .i64 0, .int .i64 0, .string ⟨#[]⟩, .slice none 0 0, .slice none 0 0, .int .i64 0, .int .i64 0, .slice none 0 0, .slice none 0 0] 58) := heapBelow hbr (heapGrown HG1.out G2.out (by simp)) (by have := HSB.out; omega)
    have HBP := hid (HBS.out.trans (hbr.mono HZS.out))
    have HGB := hid gb
    have HGR := hid gr
    have HBU := hid hbu
    have HSP := hid (show wb.heap.size ≤ wp.heap.size from hsz0)
    have k9 := cellOf gb 9
    (try dsimp only at k9)
    clear gb gr hbu hbr hsz0 HO1 HG1 G1 G2 HWB HB0 HBS HZS HZB
    go_wp2_with (at_make; refine wpList_make_own _ rfl _ _ 25 rfl wp.heap.size 28 ti6 _ 6 Tryz.underlying25 hi6 hz06 hz16 .i64 .i64 _ wl rfl rfl rfl (by rw [hz26]; omega) (by unfold maxLen; omega) (Nat.le_refl _) ?_; intro w2 hown2 hg2; have k9' := (heapGrown hg2 HGB.out (by simp) : _); have c9 := cellOf k9' 9; (try dsimp only at c9); have HO2A := hid hown2; have HG2A := hid hg2; clear k9' hown2 hg2 k9)
    clear c9
    have HBS := hid (show Below w.heap.size w w2 from HBP.out.grown HG2A.out HBP.out.size (fun r e => by cases e))
    have HZS := hid (show w.heap.size ≤ wp.heap.size from HBP.out.size)
    have HZB := hid (show wp.heap.size ≤ w2.heap.size from HG2A.out.size)
    obtain ⟨ws, rfl⟩ : ∃ w1 : World, w1 = wp := ⟨_, rfl⟩
    go_loopw [6, 33] (fun vv i wr => ∃ (k : Nat) (v : Value), v = vv ∧ k ≤ wl ∧ i = .int .i64 k ∧ Built valK 28 ws.heap.size wr v k d.vals ∧ Below ws.heap.size w2 wr) (fun _ i _ => wl - (intOf i).toNat)
    case atStart => exact ⟨0, _, rfl, Nat.zero_le _, rfl, ⟨[], rfl, HO2A.out, fun j h => by simp at h⟩, Below.refl _ _⟩
    case round =>
    obtain ⟨k, v, rfl, hk, rfl, hbu, hbr⟩ := hrel
    obtain ⟨wp, rfl⟩ : ∃ w1 : World, w1 = wr := ⟨_, rfl⟩
    by_cases hlt : k < wl
    · have hkl : k < d.vals.length := by have := HLV.out; omega
      obtain ⟨b, o, rfl, hb, hx⟩ := HDV.out.slot (show 0 < wl by omega)
      obtain ⟨x, hxa, hxi⟩ := hx k hkl
      have hbw : Below w.heap.size w wp := HBS.out.trans (hbr.mono HZS.out)
      obtain ⟨x0, x1, x2, x3, x4, x5⟩ := ((hxa.same (hbw.block b hb))).val
      have hlt' : (k : Int) < (wl : Int) := by omega
      have hk0 : (0 : Int) ≤ (k : Int) := by omega
      obtain ⟨cs, hcs, hown, hel⟩ := hbu
      have hvb := Built.own (K := valK) ⟨cs, hcs, hown, hel⟩
      have hba : Below w.heap.size w (wp.alloc (.cells #[.int .i64 x.k, .int .i64 x.i, .int .i64 x.s, .string x.t, .slice x.la x.ll x.lc, .slice x.fa x.fl x.fc] 28)) := hbw.alloc hbw.size _
      have hsz0 : ws.heap.size ≤ wp.heap.size := belowSize hbr HZB.out
      have HCS := hid (clone_call (c := x) (d := d.vals[k]) (w := (wp.alloc (.cells #[.int .i64 x.k, .int .i64 x.i, .int .i64 x.s, .string x.t, .slice x.la x.ll x.lc, .slice x.fa x.fl x.fc] 28))) (hxi.same fun b q => ⟨by have := hba.size; omega, hba.block b q⟩))
      have HVB := hid hvb
      have HOWN := hid hown
      have HEL := hid hel
      have HCL := hid hcs
      have HBR := hid hbr
      have hbs : ws.heap.size ≤ wp.heap.size := hsz0
      clear hvb hown hel hcs hba hbr hxi hxa hx hb hbw
      have hcap1 : k + 1 ≤ maxLen := by unfold maxLen; omega
      have hcap2 : (k + 1) * 88 ≤ 140737488355328 := by omega
      go_wp2_with (first
        | (go_at_call 107; refine HCS.out.mono ?_; rintro e w4 ⟨c4, rfl, hb4, hi4⟩; have HB4 := hid hb4; have HI4 := hid hi4; clear hb4 hi4)
        | (at_builtin; refine wpList_append_lies _ (by rfl) _ _ 25 (by rfl) ws.heap.size 28 ti6 _ 6 88 Tryz.underlying25 hi6 hz06 hz16 hz26 rfl (by omega) v k (cs.flatMap VC.cs) (by rfl) ((ownExt (HOWN.out.alloc _) HB4.out).alloc (.cells #[.int .i64 c4.k, .int .i64 c4.i, .int .i64 c4.s, .string c4.t, .slice c4.la c4.ll c4.lc, .slice c4.fa c4.fl c4.fc] 28)) ⟨w4.heap.size, 0, none⟩ 1 1 (VC.cs c4) (by rfl) (by rfl) (World.news_of_block (heap_alloc_new w4 _)) (by simp [VC.cs, Value.oneCell']) (by omega) hcap1 hcap2 (by have h2 := HB4.out.size; simp at h2 ⊢; omega) (w4.heap.size + 1) (by simp) ?_; intro gg cap5 w5 hown2 hgrow hat hlt2; have HO2 := hid hown2; have HG := hid hgrow; have HAT := hid hat; clear hown2 hgrow hat hlt2))
      go_roundw
      case rel =>
        have h4 := HB4.out.size
        simp only [World.size_alloc] at h4
        have h14 : Below ws.heap.size w2 w4 := HBR.out.trans ((((Below.refl _ wp).alloc (Nat.le_refl _) (.cells #[.int .i64 x.k, .int .i64 x.i, .int .i64 x.s, .string x.t, .slice x.la x.ll x.lc, .slice x.fa x.fl x.fc] 28)).trans (HB4.out.mono (by simp))).mono hbs)
        have hpush : Built valK 28 ws.heap.size w5 (.slice (some ⟨gg, 0, none⟩) (k + 1) cap5) (k + 1) d.vals :=
          Built.push (K := valK) (N := wp.heap.size) (w1 := w4) (o := (.cells #[.int .i64 c4.k, .int .i64 c4.i, .int .i64 c4.s, .string c4.t, .slice c4.la c4.ll c4.lc, .slice c4.fa c4.fl c4.fc] 28)) (c := c4) HCL.out
            (fun j hj hj' => (HEL.out j hj hj').same fun b hb => ⟨⟨hb.1, by have := hb.2.1; omega, hb.2.2⟩, (HB4.out.block b (by have := hb.2.1; simp; omega)).trans (Below.heap_alloc _ _ _ (by have := hb.2.1; omega))⟩) hkl
            (HI4.out.same fun b hb => ⟨⟨by have := hb.1; simp at this; omega, hb.2⟩, rfl⟩) hbs (fun r e => (HVB.out r e).2) HO2.out HG.out HAT.out
        exact ⟨k + 1, _, rfl, by omega, by go_num, hpush, (h14.alloc (by omega) _).grown HG.out (by simp; omega) (fun r e => (HVB.out r e).1)⟩
      case measure => simp [intOf]; omega
    · obtain rfl : wl = k := by omega
      obtain ⟨vb, vc2, rfl, hvb2, _, _⟩ := hbu.shape
      have hsz2 : ws.heap.size ≤ wp.heap.size := belowSize hbr HZB.out
      have hbp2 : Below ws.heap.size ws wp := ((Below.refl _ ws).grown HG2A.out (Nat.le_refl _) (fun r e => by cases e)).trans (hbr.mono (Nat.le_refl _))
      have gb := heapExt hbp2 HGB.out
      have gr := heapExt hbp2 HGR.out
      have hbw : Below w.heap.size w wp := HBP.out.trans (hbp2.mono HBP.out.size)
      have HKC := hid (clone_call (c := ⟨kk, ki, ks, kt, kla, kll, klc, kfa, kfl, kfc⟩) (d := d.k) (w := wp) (HK.out.same fun b q => ⟨Nat.lt_of_lt_of_le q hbw.size, hbw.block b q⟩))
      dsimp only [VC.v] at HKC
      have e0 := cellOf gb 0; have ef0 := freeOf gb 0; have e1 := cellOf gb 1; have ef1 := freeOf gb 1; have e2 := cellOf gb 2; have ef2 := freeOf gb 2; have e3 := cellOf gb 3; have ef3 := freeOf gb 3; have e4 := cellOf gb 4; have ef4 := freeOf gb 4; have e5 := cellOf gb 5; have ef5 := freeOf gb 5; have e6 := cellOf gb 6; have ef6 := freeOf gb 6; have e7 := cellOf gb 7; have ef7 := freeOf gb 7; have e8 := cellOf gb 8; have ef8 := freeOf gb 8; have e9 := cellOf gb 9; have ef9 := freeOf gb 9
      (try dsimp only at e0 e1 e2 e3 e4 e5 e6 e7 e8 e9)
      have HGB2 := hid gb
      have HGR2 := hid gr
      have HBU2 := hid hbu
      have HBW := hid hbw
      have HBP2 := hid hbp2
      have HSZ2 := hid hsz2
      clear gb gr hbu hbr hbw hbp2 hsz2 HBS HZS HZB HO2A HG2A HGB HGR
      go_wp2_with (go_at_call 107; refine HKC.out.mono ?_; rintro e w7 ⟨c6, rfl, hb7, hi7⟩; clear e0 e1 e2 e3 e4 e5 e6 e7 e8 e9 ef0 ef1 ef2 ef3 ef4 ef5 ef6 ef7 ef8 ef9; have gb := heapExt hb7 HGB2.out; have gr := heapExt hb7 HGR2.out; have e0 := cellOf gb 0; have ef0 := freeOf gb 0; have f0 := cellOf gr 0; have ff0 := freeOf gr 0; have e1 := cellOf gb 1; have ef1 := freeOf gb 1; have f1 := cellOf gr 1; have ff1 := freeOf gr 1; have e2 := cellOf gb 2; have ef2 := freeOf gb 2; have f2 := cellOf gr 2; have ff2 := freeOf gr 2; have e3 := cellOf gb 3; have ef3 := freeOf gb 3; have f3 := cellOf gr 3; have ff3 := freeOf gr 3; have e4 := cellOf gb 4; have ef4 := freeOf gb 4; have f4 := cellOf gr 4; have ff4 := freeOf gr 4; have e5 := cellOf gb 5; have ef5 := freeOf gb 5; have f5 := cellOf gr 5; have ff5 := freeOf gr 5; have e6 := cellOf gb 6; have ef6 := freeOf gb 6; have f6 := cellOf gr 6; have ff6 := freeOf gr 6; have e7 := cellOf gb 7; have ef7 := freeOf gb 7; have f7 := cellOf gr 7; have ff7 := freeOf gr 7; have e8 := cellOf gb 8; have ef8 := freeOf gb 8; have f8 := cellOf gr 8; have ff8 := freeOf gr 8; have e9 := cellOf gb 9; have ef9 := freeOf gb 9; have f9 := cellOf gr 9; have ff9 := freeOf gr 9; (try dsimp only at e0 e1 e2 e3 e4 e5 e6 e7 e8 e9 f0 f1 f2 f3 f4 f5 f6 f7 f8 f9); have GR7 := hid gr; have HI7 := hid hi7; have HB7 := hid hb7; clear gb gr hi7 hb7)
      clear e0 e1 e2 e3 e4 e5 e6 e7 e8 e9 ef0 ef1 ef2 ef3 ef4 ef5 ef6 ef7 ef8 ef9 f0 f1 f2 f3 f4 f5 f6 f7 f8 f9 ff0 ff1 ff2 ff3 ff4 ff5 ff6 ff7 ff8 ff9
      have hb7 := HB7.out
      have hs7 := hb7.size
      have hsw := HBP.out.size
      have hss := HSP.out
      have hsb := HSB.out
      have hz2 := HSZ2.out
      obtain ⟨W8, hW8⟩ : ∃ W8, W8 = ((((((((w7.setCell ⟨w.heap.size, 0, none⟩ (.int .i64 c6.k)).setCell ⟨w.heap.size, 1, none⟩ (.int .i64 c6.i)).setCell ⟨w.heap.size, 2, none⟩ (.int .i64 c6.s)).setCell ⟨w.heap.size, 3, none⟩ (.string c6.t)).setCell ⟨w.heap.size, 4, none⟩ (.slice c6.la c6.ll c6.lc)).setCell ⟨w.heap.size, 5, none⟩ (.slice c6.fa c6.fl c6.fc)).setCell ⟨w.heap.size, 8, none⟩ (.slice va il vc1)).setCell ⟨w.heap.size, 9, none⟩ (.slice vb wl vc2)) := ⟨_, rfl⟩
      have hO8 : ∀ b, b ≠ w.heap.size → W8.heap[b]? = w7.heap[b]? := fun b hb => by
        rw [hW8]
        exact (Below.heap_setCell _ _ _ _ hb).trans ((Below.heap_setCell _ _ _ _ hb).trans ((Below.heap_setCell _ _ _ _ hb).trans ((Below.heap_setCell _ _ _ _ hb).trans ((Below.heap_setCell _ _ _ _ hb).trans ((Below.heap_setCell _ _ _ _ hb).trans ((Below.heap_setCell _ _ _ _ hb).trans (Below.heap_setCell _ _ _ _ hb)))))))
      have hS8 : W8.heap.size = w7.heap.size := by rw [hW8]; simp [World.setCell]
      have hB8 : Below w.heap.size w W8 := by
        rw [hW8]
        exact ((((((((HBW.out.trans (hb7.mono HBW.out.size)).setCell (p := ⟨w.heap.size, 0, none⟩) (Nat.le_refl _) _).setCell (p := ⟨w.heap.size, 1, none⟩) (Nat.le_refl _) _).setCell (p := ⟨w.heap.size, 2, none⟩) (Nat.le_refl _) _).setCell (p := ⟨w.heap.size, 3, none⟩) (Nat.le_refl _) _).setCell (p := ⟨w.heap.size, 4, none⟩) (Nat.le_refl _) _).setCell (p := ⟨w.heap.size, 5, none⟩) (Nat.le_refl _) _).setCell (p := ⟨w.heap.size, 8, none⟩) (Nat.le_refl _) _).setCell (p := ⟨w.heap.size, 9, none⟩) (Nat.le_refl _) _
      have h1 := putTen_heap (B := w.heap.size + 1) (w := W8) (v0 := .int .i64 c6.k) (v1 := .int .i64 c6.i) (v2 := .int .i64 c6.s) (v3 := .string c6.t) (v4 := .slice c6.la c6.ll c6.lc) (v5 := .slice c6.fa c6.fl c6.fc) (v6 := .int .i64 cn) (v7 := .int .i64 ct) (v8 := .slice va il vc1) (v9 := .slice vb wl vc2) ((hO8 _ (by omega)).trans GR7.out)
      have hO9 : ∀ b, b ≠ w.heap.size → b ≠ w.heap.size + 1 → (putTen W8 (w.heap.size + 1) (.int .i64 c6.k) (.int .i64 c6.i) (.int .i64 c6.s) (.string c6.t) (.slice c6.la c6.ll c6.lc) (.slice c6.fa c6.fl c6.fc) (.int .i64 cn) (.int .i64 ct) (.slice va il vc1) (.slice vb wl vc2)).heap[b]? = w7.heap[b]? := fun b h2 h3 => (putTen_other _ _ _ _ _ _ _ _ _ _ _ _ _ h3).trans (hO8 b h2)
      have hS9 : (putTen W8 (w.heap.size + 1) (.int .i64 c6.k) (.int .i64 c6.i) (.int .i64 c6.s) (.string c6.t) (.slice c6.la c6.ll c6.lc) (.slice c6.fa c6.fl c6.fc) (.int .i64 cn) (.int .i64 ct) (.slice va il vc1) (.slice vb wl vc2)).heap.size = w7.heap.size := (putTen_size _ _ _ _ _ _ _ _ _ _ _ _).trans hS8
      have hB9 := hB8.trans (putTen_below (.int .i64 c6.k) (.int .i64 c6.i) (.int .i64 c6.s) (.string c6.t) (.slice c6.la c6.ll c6.lc) (.slice c6.fa c6.fl c6.fc) (.int .i64 cn) (.int .i64 ct) (.slice va il vc1) (.slice vb wl vc2) W8 (w.heap.size + 1) w.heap.size (by omega))
      obtain ⟨_, c1', e1', hr1⟩ := Built.row' HBU.out HLI.out (by dsimp only; omega)
      obtain ⟨rfl, rfl⟩ : va = _ ∧ vc1 = c1' := by (injection e1' with q1 _ q2; exact ⟨q1, q2⟩)
      obtain ⟨_, c2', e2', hr2⟩ := Built.row' HBU2.out HLV.out (by dsimp only; omega)
      obtain ⟨rfl, rfl⟩ : vb = _ ∧ vc2 = c2' := by (injection e2' with q1 _ q2; exact ⟨q1, q2⟩)
      have I1 := hid (hr1.same (S' := fun b => w.heap.size ≤ b ∧ b < (putTen W8 (w.heap.size + 1) (.int .i64 c6.k) (.int .i64 c6.i) (.int .i64 c6.s) (.string c6.t) (.slice c6.la c6.ll c6.lc) (.slice c6.fa c6.fl c6.fc) (.int .i64 cn) (.int .i64 ct) (.slice va il vc1) (.slice vb wl vc2)).heap.size) (w' := putTen W8 (w.heap.size + 1) (.int .i64 c6.k) (.int .i64 c6.i) (.int .i64 c6.s) (.string c6.t) (.slice c6.la c6.ll c6.lc) (.slice c6.fa c6.fl c6.fc) (.int .i64 cn) (.int .i64 ct) (.slice va il vc1) (.slice vb wl vc2)) fun b q => ⟨by rw [hS9]; omega, (hO9 b (by omega) (by omega)).trans ((hb7.block b (by omega)).trans (HBP2.out.block b (by omega)))⟩)
      have I2 := hid (hr2.same (S' := fun b => w.heap.size ≤ b ∧ b < (putTen W8 (w.heap.size + 1) (.int .i64 c6.k) (.int .i64 c6.i) (.int .i64 c6.s) (.string c6.t) (.slice c6.la c6.ll c6.lc) (.slice c6.fa c6.fl c6.fc) (.int .i64 cn) (.int .i64 ct) (.slice va il vc1) (.slice vb wl vc2)).heap.size) (w' := putTen W8 (w.heap.size + 1) (.int .i64 c6.k) (.int .i64 c6.i) (.int .i64 c6.s) (.string c6.t) (.slice c6.la c6.ll c6.lc) (.slice c6.fa c6.fl c6.fc) (.int .i64 cn) (.int .i64 ct) (.slice va il vc1) (.slice vb wl vc2)) fun b q => ⟨by rw [hS9]; omega, (hO9 b (by omega) (by omega)).trans (hb7.block b (by omega))⟩)
      have I3 := hid (HI7.out.same (S' := fun b => w.heap.size ≤ b ∧ b < (putTen W8 (w.heap.size + 1) (.int .i64 c6.k) (.int .i64 c6.i) (.int .i64 c6.s) (.string c6.t) (.slice c6.la c6.ll c6.lc) (.slice c6.fa c6.fl c6.fc) (.int .i64 cn) (.int .i64 ct) (.slice va il vc1) (.slice vb wl vc2)).heap.size) (w' := putTen W8 (w.heap.size + 1) (.int .i64 c6.k) (.int .i64 c6.i) (.int .i64 c6.s) (.string c6.t) (.slice c6.la c6.ll c6.lc) (.slice c6.fa c6.fl c6.fc) (.int .i64 cn) (.int .i64 ct) (.slice va il vc1) (.slice vb wl vc2)) fun b q => ⟨by rw [hS9]; omega, hO9 b (by omega) (by omega)⟩)
      clear hO8 hS8 hB8 hO9 hS9 hr1 hr2
      dsimp only [putTen] at h1 hB9 I1 I2 I3
      rw [hW8] at h1 hB9 I1 I2 I3
      exact bodyPost_ret (v := SlC.v ⟨c6, cn, ct, va, il, vc1, vb, wl, vc2⟩) (by simp [results, Tryz.results84, go_sem, cellOf h1]) rfl ⟨(⟨c6, cn, ct, va, il, vc1, vb, wl, vc2⟩ : SlC), rfl, hB9, ⟨I3.out, HNT.out.1, HNT.out.2.1, HNT.out.2.2.1, HNT.out.2.2.2, I1.out, I2.out⟩⟩
end Go.Proofs.YthjlgpmajeafpaaGreatDoor
