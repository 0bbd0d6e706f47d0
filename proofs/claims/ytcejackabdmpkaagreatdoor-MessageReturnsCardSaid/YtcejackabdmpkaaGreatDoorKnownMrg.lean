/-
  manifoldlaw29.known returns true: the examples of the chapter. Condition: Tabs.
-/
import Derived.Test.YtcejackabdmpkaaGreatDoorG4Mrg
import Derived.Test.YtcejackabdmpkaaGreatDoorG5Mrg
import Derived.Test.YtcejackabdmpkaaGreatDoorPartsMMrg
namespace Go.Proofs.YtcejackabdmpkaaGreatDoor
open Go Go.RowKit Go.Shelf
set_option linter.unusedVariables false
set_option linter.unusedSimpArgs false

def oneV : Val := .mk 2 1 0 ⟨#[]⟩ [] [] []
def knownV : Val := .mk 9 0 0 ⟨#[]⟩ [] [⟨#[97]⟩] [oneV]
def knownT : ByteArray := ⟨#[123, 97, 58, 32, 49, 125]⟩
theorem known_check : chkVal knownV = 0 := by kernel_rfl
theorem known_newE : newE 7 knownV = 0 := by kernel_rfl
theorem known_msgE : msgE ⟨⟨7, [1]⟩, 1048576, [7], knownV⟩ = 0 := by kernel_rfl
theorem known_encT : encT ⟨⟨7, [1]⟩, 1048576, [7], knownV⟩ knownT = ⟨#[55, 47, 49, 32, 49, 48, 52, 56, 53, 55, 54, 32, 55, 32, 123, 97, 58, 32, 49, 125]⟩ := by kernel_rfl
theorem known_text (c : VC) (w : World) (hd : IsVal (· < w.heap.size) w c knownV) : Calls Tryz.prog 110 #[c.v] w fun e w' => e = .returned (.string knownT) ∧ Below w.heap.size w w' := by
  obtain ⟨k, i, s, t, la, ll, lc, fa, fl, fc⟩ := c
  have hd' := hd
  obtain ⟨⟨hk, hi, hs, ht, hok, hll, hfl, _⟩, _, _⟩ := hd'
  dsimp only at hk hi hs ht hll hfl
  subst hk; subst hi; subst hs; subst ht
  have hfl1 : fl = 1 := hfl
  subst hfl1
  have h := textRec_call 0 0 ⟨#[]⟩ la ll lc fa 1 fc [] [⟨#[97]⟩] [oneV] w hd [⟨#[97, 58, 32, 49]⟩] (fun _ => ⟨#[49]⟩) (by decide) rfl (fun j h hn => by
      have hj : j = 0 := by simpa using h
      subst hj
      exact (by kernel_rfl : (⟨#[97, 58, 32, 49]⟩ : ByteArray) = ⟨#[97]⟩ ++ ⟨#[58, 32]⟩ ++ ⟨#[49]⟩)) 4 (fun x hx => by rw [List.mem_singleton] at hx; subst hx; decide) (by decide) (fun j h x w' hb hx => by
      have hj : j = 0 := by simpa using h
      subst hj
      obtain ⟨k, i, s, t, la, ll, lc, fa, fl, fc⟩ := x
      obtain ⟨⟨hk, hi, _⟩, _, _⟩ := hx
      dsimp only at hk hi ⊢
      subst hk; subst hi
      have h1 := textInt_call 1 (by decide) s t la ll lc fa fl fc w'
      have e1 : (⟨(Lib.decDigits 1).toArray⟩ : ByteArray) = ⟨#[49]⟩ := by kernel_rfl
      rw [e1] at h1
      exact h1)
  have e2 : recT [⟨#[97, 58, 32, 49]⟩] = knownT := by kernel_rfl
  rw [e2] at h
  exact h
theorem known_lit (c : VC) (w : World) (hd : IsVal (· < w.heap.size) w c knownV) (hT : Tabs w) : Calls Tryz.prog 73 #[c.v] w fun e w' => e = .returned (.tuple #[.string knownT, .int .i64 0]) ∧ Below w.heap.size w w' :=
  litText_call c knownV w hd hT knownT (by decide) known_check fun w' h => known_text c w' (hd.same fun b q => ⟨Nat.lt_of_lt_of_le q h.size, h.block b q⟩)

abbrev kF : Obj := .cells #[.string ⟨#[97]⟩, .int .i64 2, .int .i64 1, .int .i64 0, .string ⟨#[]⟩, .slice none 0 0, .slice none 0 0] 30
abbrev kC (B : Nat) : VC := ⟨9, 0, 0, ⟨#[]⟩, none, 0, 0, some ⟨B, 0, none⟩, 1, 1⟩
theorem okZ : VC.ok ⟨2, 1, 0, ⟨#[]⟩, none, 0, 0, none, 0, 0⟩ := ⟨⟨by decide, by decide⟩, ⟨by decide, by decide⟩, ⟨by decide, by decide⟩, by decide, by decide, by decide, by decide, by decide⟩
theorem okK (B : Nat) : VC.ok (kC B) := ⟨(show I64 9 from ⟨by decide, by decide⟩), (show I64 0 from ⟨by decide, by decide⟩), (show I64 0 from ⟨by decide, by decide⟩), (show (⟨#[]⟩ : ByteArray).size ≤ 140737488351232 by decide), (show 0 * 88 ≤ 140737488351232 by decide), (show 1 * 104 ≤ 140737488351232 by decide), (show 0 ≤ 0 by decide), (show 1 ≤ 1 by decide)⟩
theorem known_isVal (S : Nat → Prop) (w : World) (B : Nat) (hB : S B) (h : w.heap[B]? = some kF) : IsVal S w (kC B) knownV := by
  refine ⟨⟨rfl, rfl, rfl, rfl, okK B, rfl, rfl, rfl⟩, .inl rfl, .inr ⟨B, 0, rfl, hB, ?_⟩⟩
  refine ⟨⟨⟨cellOf h 0, by decide⟩, ⟨2, 1, 0, ⟨#[]⟩, none, 0, 0, none, 0, 0⟩, ⟨cellOf h 1, cellOf h 2, cellOf h 3, cellOf h 4, cellOf h 5, cellOf h 6⟩, ?_⟩, trivial⟩
  exact ⟨⟨rfl, rfl, rfl, rfl, okZ, rfl, rfl, rfl⟩, .inl rfl, .inl rfl⟩

abbrev kM (m : Int) : Msg := ⟨⟨7, [1]⟩, m, [7], knownV⟩
theorem known_parts {S : Nat → Prop} {w : World} {a : Option Addr} {c : Nat} (h : IsMsgs S w a 3 c (partsL (kM 10) 10 [knownV, knownV, knownV])) :
    ∃ b o pb po pc, a = some ⟨b, o, none⟩ ∧ w.cell? ⟨b, o + 2, none⟩ = some (.int .i64 4) ∧ w.cell? ⟨b, o + 20 + 2, none⟩ = some (.int .i64 3) ∧ w.cell? ⟨b, o + 10 + 1, none⟩ = some (.slice (some ⟨pb, po, none⟩) 2 pc) ∧ w.cell? ⟨pb, po + 1, none⟩ = some (.int .i64 1) := by
  rcases h.at' with h0 | ⟨b, o, ha, hS, hx⟩
  · have hl : (partsL (kM 10) 10 [knownV, knownV, knownV]).length = 3 := by kernel_rfl
    rw [h0] at hl
    cases hl
  · obtain ⟨x0, h0, i0⟩ := hx 0 (by decide)
    obtain ⟨x1, h1, i1⟩ := hx 1 (by decide)
    obtain ⟨x2, h2, i2⟩ := hx 2 (by decide)
    have m0 : x0.m = 4 := i0.m.trans (by kernel_rfl)
    have m2 : x2.m = 3 := i2.m.trans (by kernel_rfl)
    have ep : (partsL (kM 10) 10 [knownV, knownV, knownV])[1].st.ps = [1, 0 + 1] := by kernel_rfl
    have en : x1.st.n = 2 := i1.st.ps.len.trans (by kernel_rfl)
    obtain ⟨pb, po, hpa, _, hpc⟩ := i1.st.ps.slot (by rw [en]; decide)
    have p1 := hpc 1 (by decide)
    refine ⟨b, o, pb, po, x1.st.c, ha, ?_, ?_, ?_, p1⟩
    · have := h0.m; rw [m0] at this; simpa using this
    · have := h2.m; rw [m2] at this; exact this
    · have := h1.p; rw [en, hpa] at this; exact this

set_option maxRecDepth 100000 in
set_option maxHeartbeats 4000000 in
theorem known_call (w : World) (hT : Tabs w) : Calls Tryz.prog 9 #[] w fun e w' => e = .returned (.bool true) ∧ Below w.heap.size w w' := by
  obtain ⟨W1, hW1⟩ : ∃ W1, W1 = (w.alloc kF).alloc (vObj (kC w.heap.size)) := ⟨_, rfl⟩
  have hb1 : Below w.heap.size w W1 := by rw [hW1]; exact ((Below.refl _ w).alloc (Nat.le_refl _) _).alloc (by simp) _
  have g0 : W1.heap[w.heap.size]? = some kF := by rw [hW1]; exact heapAlloc _ (heap_alloc_new w _)
  have g1 : W1.heap[w.heap.size + 1]? = some (vObj (kC w.heap.size)) := by rw [hW1]; exact heapNewAt _ _ _ (by simp)
  have hlt0 := ltOf g1
  have hv : IsVal (· < W1.heap.size) W1 (kC w.heap.size) knownV := known_isVal _ _ _ (by omega) g0
  have HNEW : Hid (Calls Tryz.prog 38 #[.int .i64 7, (kC w.heap.size).v] W1 (NewPost W1 7 knownV)) := hid (new_call 7 _ knownV W1 ⟨by decide, by decide⟩ hv (hT.below hb1))
  -- what is known behind New, in the message's box
  have HB : Hid (∀ (w2 : World) (c : MC), Below W1.heap.size W1 w2 → IsMsg (fun b => W1.heap.size ≤ b ∧ b < w2.heap.size) w2 c (kM 1048576) → ∀ w3, Below (w2.alloc (mObj c)).heap.size (w2.alloc (mObj c)) w3 →
      Below w.heap.size w w3 ∧ IsMsg (fun b => W1.heap.size ≤ b ∧ b < w2.heap.size) w3 c (kM 1048576) ∧ w3.heap[w2.heap.size]? = some (mObj c) ∧ w3.heap[w.heap.size]? = some kF ∧ w3.heap[w.heap.size + 1]? = some (vObj (kC w.heap.size)) ∧ Tabs w3) := hid fun w2 c h hi w3 h3 => by
    have ha : Below w2.heap.size w2 (w2.alloc (mObj c)) := (Below.refl _ w2).alloc (Nat.le_refl _) _
    have h23 : Below w2.heap.size w2 w3 := ha.trans (h3.mono ha.size)
    have h13 : Below W1.heap.size W1 w3 := h.trans (h23.mono h.size)
    have h03 : Below w.heap.size w w3 := hb1.trans (h13.mono hb1.size)
    exact ⟨h03, hi.same fun b q => ⟨q, h23.block b q.2⟩, heapExt h3 (heap_alloc_new w2 _), heapExt h13 g0, heapExt h13 g1, hT.below h03⟩
  have HENC : Hid (∀ (w2 : World) (c : MC), Below W1.heap.size W1 w2 → IsMsg (fun b => W1.heap.size ≤ b ∧ b < w2.heap.size) w2 c (kM 1048576) → Calls Tryz.prog 39 #[c.v] (w2.alloc (mObj c)) fun e w' => e = .returned (.tuple #[.string ⟨#[55, 47, 49, 32, 49, 48, 52, 56, 53, 55, 54, 32, 55, 32, 123, 97, 58, 32, 49, 125]⟩, .int .i64 0]) ∧ Below (w2.alloc (mObj c)).heap.size (w2.alloc (mObj c)) w') := hid fun w2 c h hi => by
    obtain ⟨q1, q2, q3, q4, q5, q6⟩ := HB.out w2 c h hi _ (Below.refl _ _)
    have hm : IsMsg (· < (w2.alloc (mObj c)).heap.size) (w2.alloc (mObj c)) c (kM 1048576) := q2.same fun b q => ⟨by simp; omega, rfl⟩
    rw [← known_encT]
    exact encode_call c _ _ hm q6 knownT known_msgE (by decide) fun w' hb' => known_lit _ w' (hm.b.same fun b q => ⟨Nat.lt_of_lt_of_le q hb'.size, hb'.block b q⟩) (q6.below hb')
  have HPARTS : Hid (∀ (w5 : World) (c : MC) (N : Nat), w5.heap[w.heap.size]? = some kF → w.heap.size + 2 ≤ N → N < w5.heap.size → IsMsg (fun b => w.heap.size + 2 ≤ b ∧ b < N) w5 c (kM 1048576) →
      Calls Tryz.prog 19 #[MC.v { c with m := 10 }, .slice (some ⟨w5.heap.size, 0, none⟩) 3 3] (w5.alloc (.cells #[.int .i64 9, .int .i64 0, .int .i64 0, .string ⟨#[]⟩, .slice none 0 0, .slice (some ⟨w.heap.size, 0, none⟩) 1 1, .int .i64 9, .int .i64 0, .int .i64 0, .string ⟨#[]⟩, .slice none 0 0, .slice (some ⟨w.heap.size, 0, none⟩) 1 1, .int .i64 9, .int .i64 0, .int .i64 0, .string ⟨#[]⟩, .slice none 0 0, .slice (some ⟨w.heap.size, 0, none⟩) 1 1] 25)) fun e w' =>
        (∃ b o pb po pc cc, e = .returned (.slice (some ⟨b, o, none⟩) 3 cc) ∧ w'.cell? ⟨b, o + 2, none⟩ = some (.int .i64 4) ∧ w'.cell? ⟨b, o + 20 + 2, none⟩ = some (.int .i64 3) ∧ w'.cell? ⟨b, o + 10 + 1, none⟩ = some (.slice (some ⟨pb, po, none⟩) 2 pc) ∧ w'.cell? ⟨pb, po + 1, none⟩ = some (.int .i64 1)) ∧ Below w5.heap.size w5 w') := hid fun w5 c N hF hN1 hN2 hi => by
    obtain ⟨w6, hw6⟩ : ∃ w6, w6 = (w5.alloc (.cells #[.int .i64 9, .int .i64 0, .int .i64 0, .string ⟨#[]⟩, .slice none 0 0, .slice (some ⟨w.heap.size, 0, none⟩) 1 1, .int .i64 9, .int .i64 0, .int .i64 0, .string ⟨#[]⟩, .slice none 0 0, .slice (some ⟨w.heap.size, 0, none⟩) 1 1, .int .i64 9, .int .i64 0, .int .i64 0, .string ⟨#[]⟩, .slice none 0 0, .slice (some ⟨w.heap.size, 0, none⟩) 1 1] 25)) := ⟨_, rfl⟩
    have hb6 : Below w5.heap.size w5 w6 := by rw [hw6]; exact (Below.refl _ w5).alloc (Nat.le_refl _) _
    have gl := heap_alloc_new w5 (.cells #[.int .i64 9, .int .i64 0, .int .i64 0, .string ⟨#[]⟩, .slice none 0 0, .slice (some ⟨w.heap.size, 0, none⟩) 1 1, .int .i64 9, .int .i64 0, .int .i64 0, .string ⟨#[]⟩, .slice none 0 0, .slice (some ⟨w.heap.size, 0, none⟩) 1 1, .int .i64 9, .int .i64 0, .int .i64 0, .string ⟨#[]⟩, .slice none 0 0, .slice (some ⟨w.heap.size, 0, none⟩) 1 1] 25)
    rw [← hw6] at gl ⊢
    have hlt := ltOf gl
    have hF6 : w6.heap[w.heap.size]? = some kF := heapExt hb6 hF
    have hv6 : IsVal (· < w6.heap.size) w6 (kC w.heap.size) knownV := known_isVal _ _ _ (ltOf hF6) hF6
    have hm6 : IsMsg (· < w6.heap.size) w6 { c with m := 10 } (kM 10) :=
      ⟨hi.st.same fun b q => ⟨by omega, hb6.block b (by omega)⟩, rfl, (show I64 10 from ⟨by decide, by decide⟩), hi.es.same fun b q => ⟨by omega, hb6.block b (by omega)⟩, hi.b.same fun b q => ⟨by omega, hb6.block b (by omega)⟩⟩
    have hvs : IsVals (· < w6.heap.size) w6 w5.heap.size 0 [knownV, knownV, knownV] :=
      ⟨⟨kC w.heap.size, ⟨cellOf gl 0, cellOf gl 1, cellOf gl 2, cellOf gl 3, cellOf gl 4, cellOf gl 5⟩, hv6⟩, ⟨kC w.heap.size, ⟨cellOf gl 6, cellOf gl 7, cellOf gl 8, cellOf gl 9, cellOf gl 10, cellOf gl 11⟩, hv6⟩, ⟨kC w.heap.size, ⟨cellOf gl 12, cellOf gl 13, cellOf gl 14, cellOf gl 15, cellOf gl 16, cellOf gl 17⟩, hv6⟩, trivial⟩
    have hst2 : c.st.n = 1 := hi.st.ps.len
    refine (partsM_call { c with m := 10 } (kM 10) (some ⟨w5.heap.size, 0, none⟩) 3 3 [knownV, knownV, knownV] w6 10 hm6 rfl (by decide) (.inr ⟨_, _, rfl, hlt, hvs⟩) rfl (by decide) (by decide) (by show c.st.n ≤ 1000000; omega)).mono fun e w' ⟨a, c', he, hb, hms⟩ => ?_
    obtain ⟨b, o, pb, po, pc, ha, r1, r2, r3, r4⟩ := known_parts hms
    exact ⟨⟨b, o, pb, po, pc, c', by rw [he, ha], r1, r2, r3, r4⟩, hb6.trans (hb.mono hb6.size)⟩
  have HSZ : Hid (W1.heap.size = w.heap.size + 2) := hid (by rw [hW1]; simp)
  rw [hW1] at HNEW
  have HW1 := hid hW1
  clear hv g0 g1 hT hb1 hW1 hlt0
  dsimp only [kC, VC.v] at HNEW
  go_enter Tryz.func9, Tryz.ntmps9
  go_upto_region 5 with (first
    | (go_at_call 38; refine HNEW.out.mono ?_; rintro e w2 ⟨hb2, _, h2⟩; rw [← HW1.out] at hb2 h2; obtain ⟨⟨⟨ce, sa, sn, sc⟩, m, a, n, cap, ⟨k, i', s, tt, la, ll, lc, fa, fl, fc⟩⟩, rfl, hi2⟩ := h2 known_newE; have HI2 := hid hi2; have HB2 := hid hb2; clear h2 hi2 hb2)
    | (go_at_call 39; refine (HENC.out w2 _ HB2.out HI2.out).mono ?_; rintro e w3 ⟨rfl, hb3⟩; obtain ⟨q1, q2, q3, q4, q5, q6⟩ := HB.out w2 _ HB2.out HI2.out w3 hb3; have z2 := cellOf q3 2; have y2 := freeOf q3 2; dsimp only at z2; have Q := hid (And.intro q1 (And.intro q2 (And.intro q3 (And.intro q4 q5)))); clear q1 q2 q3 q4 q5 q6 hb3))
  obtain ⟨q1, q2, q3, q4, q5⟩ := Q.out
  have hs2 := HB2.out.size
  have hsz := HSZ.out
  have hlt3 := ltOf q3
  obtain ⟨w5, hw5⟩ : ∃ w5, w5 = w3.setCell ⟨w2.heap.size, 2, none⟩ (.int .i64 10) := ⟨_, rfl⟩
  rw [← hw5]
  have hs5 : w5.heap.size = w3.heap.size := by rw [hw5]; simp [World.setCell]
  have r3 : w5.heap[w2.heap.size]? = some (.cells #[.int .i64 ce, .slice sa sn sc, .int .i64 10, .slice a n cap, .int .i64 k, .int .i64 i', .int .i64 s, .string tt, .slice la ll lc, .slice fa fl fc] 41 (0, 0)) := by rw [hw5]; exact heapSet _ q3
  have r4 : w5.heap[w.heap.size]? = some kF := by rw [hw5]; exact heapSetOther _ _ q4 (by dsimp only; omega)
  have r5 : w5.heap[w.heap.size + 1]? = some (vObj (kC w.heap.size)) := by rw [hw5]; exact heapSetOther _ _ q5 (by dsimp only; omega)
  have rm := q2.same (S' := fun b => w.heap.size + 2 ≤ b ∧ b < w2.heap.size) (w' := w5) fun b q => ⟨by omega, by rw [hw5]; exact Below.heap_setCell _ _ _ _ (by dsimp only; omega)⟩
  have hbw5 : Below w.heap.size w w5 := by rw [hw5]; exact q1.setCell (by dsimp only; omega) _
  have HP := hid (HPARTS.out w5 _ w2.heap.size r4 (by omega) (by omega) rm)
  have HBW5 := hid hbw5
  have e0 := cellOf r3 0
  have e1 := cellOf r3 1
  have e2 := cellOf r3 2
  have e3 := cellOf r3 3
  have e4 := cellOf r3 4
  have e5 := cellOf r3 5
  have e6 := cellOf r3 6
  have e7 := cellOf r3 7
  have e8 := cellOf r3 8
  have e9 := cellOf r3 9
  have f0 := cellOf r5 0
  have f1 := cellOf r5 1
  have f2 := cellOf r5 2
  have f3 := cellOf r5 3
  have f4 := cellOf r5 4
  have f5 := cellOf r5 5
  dsimp only at e0 e1 e2 e3 e4 e5 e6 e7 e8 e9 f0 f1 f2 f3 f4 f5
  clear q1 q2 q3 q4 q5 Q hs2 hsz hlt3 hw5 hs5 r3 r4 r5 rm hbw5 z2 y2 HB HENC HPARTS HNEW HI2 HB2
  dsimp only [MC.v] at HP
  go_wp2_with (go_at_call 19; refine HP.out.mono ?_; rintro e w7 ⟨⟨b, o, pb, po, pc, cc, rfl, x0, x2, x1, p1⟩, hb7⟩)
  go_ret
  exact ⟨rfl, HBW5.out.trans (hb7.mono HBW5.out.size)⟩
end Go.Proofs.YtcejackabdmpkaaGreatDoor
