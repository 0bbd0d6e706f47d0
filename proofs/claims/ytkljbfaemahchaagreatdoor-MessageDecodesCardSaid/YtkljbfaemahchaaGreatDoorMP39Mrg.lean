/-
  message.With returns a copy in memory of its own, with a new body. Condition: what is copied can be read as data.
-/
import Derived.Test.YtkljbfaemahchaaGreatDoorMP37Mrg
import Derived.Test.YtkljbfaemahchaaGreatDoorMP4Mrg
import Derived.Deep.AppendLies
import Derived.Test.YtkljbfaemahchaaGreatDoorMP3Mrg
import Derived.Laws.EntriesVeiled
namespace Go.Proofs.YtkljbfaemahchaaGreatDoor
set_option linter.unusedVariables false
set_option linter.unusedSimpArgs false
section
open Go Go.RowKit Go.Shelf
abbrev setSix (w : World) (B : Nat) (c : VC) : World:=(((((w.setCell ⟨B,4,none⟩ (.int .i64 c.k)).setCell ⟨B,5,none⟩ (.int .i64 c.i)).setCell ⟨B,6,none⟩ (.int .i64 c.s)).setCell ⟨B,7,none⟩ (.string c.t)).setCell ⟨B,8,none⟩ (.slice c.la c.ll c.lc)).setCell ⟨B,9,none⟩ (.slice c.fa c.fl c.fc)
theorem setSix_other {c : VC} (w : World) (B b : Nat) (hb : b ≠ B) : (setSix w B c).heap[b]? = w.heap[b]?:=by
 unfold setSix
 rw [Below.heap_setCell _ _ _ _ hb,Below.heap_setCell _ _ _ _ hb,Below.heap_setCell _ _ _ _ hb,Below.heap_setCell _ _ _ _ hb,Below.heap_setCell _ _ _ _ hb,Below.heap_setCell _ _ _ _ hb]
theorem setSix_size {c : VC} (w : World) (B : Nat) : (setSix w B c).heap.size = w.heap.size:=by simp [setSix,World.setCell]
theorem setSix_below {c : VC} (w : World) (B N : Nat) (hN : N ≤ B) : Below N w (setSix w B c) :=
 ((((((Below.refl _ _).setCell (p:=⟨B,4,none⟩) (by dsimp only; omega) _).setCell (p:=⟨B,5,none⟩) (by dsimp only; omega) _).setCell (p:=⟨B,6,none⟩) (by dsimp only; omega) _).setCell (p:=⟨B,7,none⟩) (by dsimp only; omega) _).setCell (p:=⟨B,8,none⟩) (by dsimp only; omega) _).setCell (p:=⟨B,9,none⟩) (by dsimp only; omega) _
abbrev setTwo (w : World) (B : Nat) (c : SC) : World:=(w.setCell ⟨B,0,none⟩ (.int .i64 c.e)).setCell ⟨B,1,none⟩ (.slice c.a c.n c.c)
theorem setTwo_other {c : SC} (w : World) (B b : Nat) (hb : b ≠ B) : (setTwo w B c).heap[b]? = w.heap[b]?:=by
 unfold setTwo
 rw [Below.heap_setCell _ _ _ _ hb,Below.heap_setCell _ _ _ _ hb]
theorem setTwo_below {c : SC} (w : World) (B N : Nat) (hN : N ≤ B) : Below N w (setTwo w B c) :=
 ((Below.refl _ _).setCell (p:=⟨B,0,none⟩) (by dsimp only; omega) _).setCell (p:=⟨B,1,none⟩) (by dsimp only; omega) _
set_option maxRecDepth 100000 in
set_option maxHeartbeats 8000000 in
theorem with_call (c : MC) (d : Msg) (cv : VC) (dv : Val) (w : World) (hd : IsMsg (· < w.heap.size) w c d) (hdv : IsVal (· < w.heap.size) w cv dv) : Calls Tryz.prog 150 #[c.v,cv.v] w (MsgPost w { d with b:=dv }):=by
 have HWB : Hid (Below w.heap.size w (((w.alloc (.cells #[.int .i64 c.st.e,.slice c.st.a c.st.n c.st.c,.int .i64 c.m,.slice c.a c.n c.c,.int .i64 c.b.k,.int .i64 c.b.i,.int .i64 c.b.s,.string c.b.t,.slice c.b.la c.b.ll c.b.lc,.slice c.b.fa c.b.fl c.b.fc] 66)).alloc (.cells #[.int .i64 cv.k,.int .i64 cv.i,.int .i64 cv.s,.string cv.t,.slice cv.la cv.ll cv.lc,.slice cv.fa cv.fl cv.fc] 43)).alloc (.cells #[.int .i64 0,.slice none 0 0,.int .i64 0,.slice none 0 0,.int .i64 0,.int .i64 0,.int .i64 0,.string ByteArray.empty,.slice none 0 0,.slice none 0 0] 66))):=hid ((((Below.refl _ w).alloc (Nat.le_refl _) _).alloc (by simp) _).alloc (by simp; omega) _)
 obtain ⟨wb,hwb⟩ : ∃ wb,wb = (((w.alloc (.cells #[.int .i64 c.st.e,.slice c.st.a c.st.n c.st.c,.int .i64 c.m,.slice c.a c.n c.c,.int .i64 c.b.k,.int .i64 c.b.i,.int .i64 c.b.s,.string c.b.t,.slice c.b.la c.b.ll c.b.lc,.slice c.b.fa c.b.fl c.b.fc] 66)).alloc (.cells #[.int .i64 cv.k,.int .i64 cv.i,.int .i64 cv.s,.string cv.t,.slice cv.la cv.ll cv.lc,.slice cv.fa cv.fl cv.fc] 43)).alloc (.cells #[.int .i64 0,.slice none 0 0,.int .i64 0,.slice none 0 0,.int .i64 0,.int .i64 0,.int .i64 0,.string ByteArray.empty,.slice none 0 0,.slice none 0 0] 66)):=⟨_,rfl⟩
 have hbwb : Below w.heap.size w wb:=by rw [hwb]; exact HWB.out
 have hsw : wb.heap.size = w.heap.size + 3:=by rw [hwb]; simp
 have o0 : wb.heap[w.heap.size]? = some (.cells #[.int .i64 c.st.e,.slice c.st.a c.st.n c.st.c,.int .i64 c.m,.slice c.a c.n c.c,.int .i64 c.b.k,.int .i64 c.b.i,.int .i64 c.b.s,.string c.b.t,.slice c.b.la c.b.ll c.b.lc,.slice c.b.fa c.b.fl c.b.fc] 66 (0,0)):=by rw [hwb]; exact heapAlloc _ (heapAlloc _ (heap_alloc_new w _))
 have o1 : wb.heap[w.heap.size + 1]? = some (.cells #[.int .i64 cv.k,.int .i64 cv.i,.int .i64 cv.s,.string cv.t,.slice cv.la cv.ll cv.lc,.slice cv.fa cv.fl cv.fc] 43 (0,0)):=by rw [hwb]; exact heapAlloc _ (heapNewAt _ _ _ (by simp))
 have o2 : wb.heap[w.heap.size + 2]? = some (.cells #[.int .i64 0,.slice none 0 0,.int .i64 0,.slice none 0 0,.int .i64 0,.int .i64 0,.int .i64 0,.string ByteArray.empty,.slice none 0 0,.slice none 0 0] 66 (0,0)):=by rw [hwb]; exact heapNewAt _ _ _ (by simp)
 -- the first call
 have hv1 : Calls Tryz.prog 230 #[.agg #[.int .i64 c.st.e,.slice c.st.a c.st.n c.st.c,.int .i64 c.m,.slice c.a c.n c.c,.int .i64 c.b.k,.int .i64 c.b.i,.int .i64 c.b.s,.string c.b.t,.slice c.b.la c.b.ll c.b.lc,.slice c.b.fa c.b.fl c.b.fc]] wb fun e w1 => ∃ c1 : MC,e = .returned c1.v ∧ Below wb.heap.size wb w1 ∧ IsMsg (fun b => wb.heap.size ≤ b ∧ b < w1.heap.size) w1 c1 d :=
  msgClone_call c d wb (hd.same fun b q => ⟨by omega,hbwb.block b q⟩)
 -- the world behind it,with the copy in the box
 have hm1 : ∀ (w1 : World) (c1 : MC),Below wb.heap.size wb w1 → IsMsg (fun b => wb.heap.size ≤ b ∧ b < w1.heap.size) w1 c1 d → (setTen w1 w.heap.size c1).heap[w.heap.size]? = some (.cells #[.int .i64 c1.st.e,.slice c1.st.a c1.st.n c1.st.c,.int .i64 c1.m,.slice c1.a c1.n c1.c,.int .i64 c1.b.k,.int .i64 c1.b.i,.int .i64 c1.b.s,.string c1.b.t,.slice c1.b.la c1.b.ll c1.b.lc,.slice c1.b.fa c1.b.fl c1.b.fc] 66 (0,0)) ∧ (setTen w1 w.heap.size c1).heap[w.heap.size + 1]? = some (.cells #[.int .i64 cv.k,.int .i64 cv.i,.int .i64 cv.s,.string cv.t,.slice cv.la cv.ll cv.lc,.slice cv.fa cv.fl cv.fc] 43 (0,0)) ∧ (setTen w1 w.heap.size c1).heap[w.heap.size + 2]? = some (.cells #[.int .i64 0,.slice none 0 0,.int .i64 0,.slice none 0 0,.int .i64 0,.int .i64 0,.int .i64 0,.string ByteArray.empty,.slice none 0 0,.slice none 0 0] 66 (0,0)) ∧
  Below w.heap.size w (setTen w1 w.heap.size c1) ∧ IsMsg (fun b => wb.heap.size ≤ b ∧ b < w1.heap.size) (setTen w1 w.heap.size c1) c1 d ∧ (setTen w1 w.heap.size c1).heap.size = w1.heap.size ∧
  Calls Tryz.prog 126 #[.agg #[.int .i64 cv.k,.int .i64 cv.i,.int .i64 cv.s,.string cv.t,.slice cv.la cv.ll cv.lc,.slice cv.fa cv.fl cv.fc]] (setTen w1 w.heap.size c1) fun e w2 => ∃ c2,e = .returned (c2 : VC).v ∧ Below w1.heap.size (setTen w1 w.heap.size c1) w2 ∧ IsVal (fun b => w1.heap.size ≤ b ∧ b < w2.heap.size) w2 c2 dv:=fun w1 c1 hb hi => by
  have hs:=hb.size
  have hbw2 : Below w.heap.size w (setTen w1 w.heap.size c1):=(hbwb.trans (hb.mono (by omega))).trans (setTen_below w1 _ _ (Nat.le_refl _))
  obtain ⟨w2,hw2⟩ : ∃ w2,w2 = setTen w1 w.heap.size c1:=⟨_,rfl⟩
  have hsz : w2.heap.size = w1.heap.size:=by rw [hw2]; exact setTen_size w1 _
  have ho : ∀ b,b ≠ w.heap.size → w2.heap[b]? = w1.heap[b]?:=fun b hb => by rw [hw2]; exact setTen_other (c:=c1) w1 w.heap.size b hb
  have hh:=setTen_heap (c:=c1) (heapExt hb o0)
  rw [← hw2] at hbw2 hh ⊢
  refine ⟨hh,(ho _ (by omega)).trans (heapExt hb o1),(ho _ (by omega)).trans (heapExt hb o2),hbw2,hi.same (fun b q => ⟨q,ho b (by omega)⟩),hsz,?_⟩
  refine (clone_call (hdv.same fun b q => ⟨by omega,hbw2.block b q⟩)).mono fun e w3 h => ?_
  obtain ⟨c2,he,hb3,hi3⟩:=h
  simp only [hsz] at hb3 hi3
  exact ⟨c2,he,hb3,hi3⟩
 have HM1:=hid hm1
 have HHWB:=hid hwb
 have HO:=hid (show wb.heap[w.heap.size]? = _ ∧ wb.heap[w.heap.size + 1]? = _ ∧ wb.heap[w.heap.size + 2]? = _ from ⟨o0,o1,o2⟩)
 have HBWB:=hid hbwb
 have HSW:=hid hsw
 rw [hwb] at hv1
 have HV1:=hid hv1
 clear hm1 hwb o0 o1 o2 hbwb hsw hv1 hd hdv
 go_enter Tryz.func150,Tryz.ntmps150
 go_wp2_with (first
  | (go_at_call 230; refine HV1.out.mono ?_; rintro e w1 ⟨c1,rfl,hb1,hi1⟩; rw [← HHWB.out] at hb1 hi1; obtain ⟨p0,p1,p2,p3,p4,p5,p6⟩:=HM1.out w1 c1 hb1 hi1; have g0:=heapExt hb1 HO.out.1
     have u0:=cellOf g0 0; have v0:=freeOf g0 0; have u1:=cellOf g0 1; have v1:=freeOf g0 1; have u2:=cellOf g0 2; have v2:=freeOf g0 2; have u3:=cellOf g0 3; have v3:=freeOf g0 3; have u4:=cellOf g0 4; have v4:=freeOf g0 4; have u5:=cellOf g0 5; have v5:=freeOf g0 5; have u6:=cellOf g0 6; have v6:=freeOf g0 6; have u7:=cellOf g0 7; have v7:=freeOf g0 7; have u8:=cellOf g0 8; have v8:=freeOf g0 8; have u9:=cellOf g0 9; have v9:=freeOf g0 9; (try dsimp only at u0 u1 u2 u3 u4 u5 u6 u7 u8 u9)
     have gx:=heapExt hb1 HO.out.2.1
     have x0:=cellOf gx 0; have x1:=cellOf gx 1; have x2:=cellOf gx 2; have x3:=cellOf gx 3; have x4:=cellOf gx 4; have x5:=cellOf gx 5; have P0:=hid p0; have P1:=hid p1; have P2:=hid p2; have P3:=hid p3; have P4:=hid p4; have P5:=hid p5; have P6:=hid p6; clear p0 p1 p2 p3 p4 p5 p6 g0 gx hi1)
  | (go_at_call 126; refine P6.out.mono ?_; rintro e w2 ⟨c2,rfl,hb2,hi2⟩; clear u0 v0 u1 v1 u2 v2 u3 v3 u4 v4 u5 v5 u6 v6 u7 v7 u8 v8 u9 v9 x0 x1 x2 x3 x4 x5
     have hb2' : Below (setTen w1 w.heap.size c1).heap.size (setTen w1 w.heap.size c1) w2:=by (rw [P5.out]; exact hb2)
     have g0:=heapExt hb2' P0.out; have g2:=heapExt hb2' P2.out
     have u0:=cellOf g0 0; have v0:=freeOf g0 0; have y0:=freeOf g2 0; have z0:=cellOf g2 0; have u1:=cellOf g0 1; have v1:=freeOf g0 1; have y1:=freeOf g2 1; have z1:=cellOf g2 1; have u2:=cellOf g0 2; have v2:=freeOf g0 2; have y2:=freeOf g2 2; have z2:=cellOf g2 2; have u3:=cellOf g0 3; have v3:=freeOf g0 3; have y3:=freeOf g2 3; have z3:=cellOf g2 3; have u4:=cellOf g0 4; have v4:=freeOf g0 4; have y4:=freeOf g2 4; have z4:=cellOf g2 4; have u5:=cellOf g0 5; have v5:=freeOf g0 5; have y5:=freeOf g2 5; have z5:=cellOf g2 5; have u6:=cellOf g0 6; have v6:=freeOf g0 6; have y6:=freeOf g2 6; have z6:=cellOf g2 6; have u7:=cellOf g0 7; have v7:=freeOf g0 7; have y7:=freeOf g2 7; have z7:=cellOf g2 7; have u8:=cellOf g0 8; have v8:=freeOf g0 8; have y8:=freeOf g2 8; have z8:=cellOf g2 8; have u9:=cellOf g0 9; have v9:=freeOf g0 9; have y9:=freeOf g2 9; have z9:=cellOf g2 9; (try dsimp only at u0 u1 u2 u3 u4 u5 u6 u7 u8 u9 z0 z1 z2 z3 z4 z5 z6 z7 z8 z9)
     have G2:=hid g2; have HI2:=hid hi2; clear g0 g2 hi2))
 have hsz1:=hb1.size
 have hsz2:=hb2.size
 rw [P5.out] at hsz2
 have hsw:=HSW.out
 have h1:=setTen_heap (c:=⟨c1.st,c1.m,c1.a,c1.n,c1.c,c2⟩) (B:=w.heap.size + 1 + 1) (w:=setSix w2 w.heap.size c2) ((setSix_other w2 w.heap.size (w.heap.size + 1 + 1) (by omega)).trans G2.out)
 have h2 : Below w.heap.size w (setTen (setSix w2 w.heap.size c2) (w.heap.size + 1 + 1) ⟨c1.st,c1.m,c1.a,c1.n,c1.c,c2⟩):=((P3.out.trans (hb2.mono (by omega))).trans (setSix_below w2 w.heap.size w.heap.size (Nat.le_refl _))).trans (setTen_below _ (w.heap.size + 1 + 1) w.heap.size (by omega))
 have h3 : ∀ b,wb.heap.size ≤ b → (setTen (setSix w2 w.heap.size c2) (w.heap.size + 1 + 1) ⟨c1.st,c1.m,c1.a,c1.n,c1.c,c2⟩).heap[b]? = w2.heap[b]?:=fun b hb => (setTen_other _ _ _ (by omega)).trans (setSix_other _ _ _ (by omega))
 have h4 : (setTen (setSix w2 w.heap.size c2) (w.heap.size + 1 + 1) ⟨c1.st,c1.m,c1.a,c1.n,c1.c,c2⟩).heap.size = w2.heap.size:=(setTen_size _ _).trans (setSix_size _ _)
 have HI1a:=hid (P4.out.same (S':=fun b => w.heap.size ≤ b ∧ b < (setTen (setSix w2 w.heap.size c2) (w.heap.size + 1 + 1) ⟨c1.st,c1.m,c1.a,c1.n,c1.c,c2⟩).heap.size) (w':=setTen (setSix w2 w.heap.size c2) (w.heap.size + 1 + 1) ⟨c1.st,c1.m,c1.a,c1.n,c1.c,c2⟩) fun b hb => ⟨by rw [h4]; omega,(h3 b hb.1).trans (hb2.block b hb.2)⟩)
 have HI2a:=hid (HI2.out.same (S':=fun b => w.heap.size ≤ b ∧ b < (setTen (setSix w2 w.heap.size c2) (w.heap.size + 1 + 1) ⟨c1.st,c1.m,c1.a,c1.n,c1.c,c2⟩).heap.size) (w':=setTen (setSix w2 w.heap.size c2) (w.heap.size + 1 + 1) ⟨c1.st,c1.m,c1.a,c1.n,c1.c,c2⟩) fun b hb => ⟨by rw [h4]; omega,h3 b (by omega)⟩)
 dsimp only [setTen,setSix] at h1 h2 HI1a HI2a
 exact bodyPost_ret (v:=MC.v ⟨c1.st,c1.m,c1.a,c1.n,c1.c,c2⟩) (by simp [results,Tryz.results150,go_sem,cellOf h1]) rfl ⟨_,rfl,h2,⟨HI1a.out.st,HI1a.out.m,HI1a.out.rm,HI1a.out.es,HI2a.out⟩⟩
end
section
open Go Go.RowKit Go.Shelf
def madeE (e p : Int) : Int:=if e < 1 ∨ 1048576 < e ∨ p < 0 ∨ 128 ≤ p then 2 else 0
set_option maxRecDepth 100000 in
set_option maxHeartbeats 2000000 in
theorem made_call (e p : Int) (a : Option Addr) (n c : Nat) (w : World) : Calls Tryz.prog 228 #[.int .i64 e,.int .i64 p,.slice a n c] w fun x w' =>
 (madeE e p = 2 → x = .returned (.tuple #[.agg #[.int .i64 0,.slice none 0 0],.int .i64 2])) ∧ (madeE e p = 0 → x = .returned (.tuple #[.agg #[.int .i64 e,.slice a n c],.int .i64 0])) ∧ Below w.heap.size w w':=by
 go_enter Tryz.func228,Tryz.ntmps228
 by_cases h : madeE e p = 2
 ·have M:=hid h
  by_cases h1 : e < 1
  ·clear h
   go_wp2
   exact bodyPost_ret (v:=.tuple #[.agg #[.int .i64 0,.slice none 0 0],.int .i64 2]) (by simp [results,Tryz.results228,go_sem,cellOf (heap_alloc_new w _)]) rfl ⟨fun _ => rfl,fun h => absurd (M.out.symm.trans h) (by decide),(Below.refl _ w).alloc (Nat.le_refl _) _⟩
  by_cases h2 : 1048576 < e
  ·clear h
   go_wp2
   exact bodyPost_ret (v:=.tuple #[.agg #[.int .i64 0,.slice none 0 0],.int .i64 2]) (by simp [results,Tryz.results228,go_sem,cellOf (heap_alloc_new w _)]) rfl ⟨fun _ => rfl,fun h => absurd (M.out.symm.trans h) (by decide),(Below.refl _ w).alloc (Nat.le_refl _) _⟩
  by_cases h3 : p < 0
  ·clear h
   go_wp2
   exact bodyPost_ret (v:=.tuple #[.agg #[.int .i64 0,.slice none 0 0],.int .i64 2]) (by simp [results,Tryz.results228,go_sem,cellOf (heap_alloc_new w _)]) rfl ⟨fun _ => rfl,fun h => absurd (M.out.symm.trans h) (by decide),(Below.refl _ w).alloc (Nat.le_refl _) _⟩
  have h4 : 128 ≤ p:=by
   unfold madeE at h
   split at h
   ·omega
   ·cases h
  clear h
  go_wp2
  exact bodyPost_ret (v:=.tuple #[.agg #[.int .i64 0,.slice none 0 0],.int .i64 2]) (by simp [results,Tryz.results228,go_sem,cellOf (heap_alloc_new w _)]) rfl ⟨fun _ => rfl,fun h => absurd (M.out.symm.trans h) (by decide),(Below.refl _ w).alloc (Nat.le_refl _) _⟩
 ·have M:=hid h
  have h1 : ¬ e < 1 ∧ ¬ 1048576 < e ∧ ¬ p < 0 ∧ ¬ 128 ≤ p:=by
   unfold madeE at h
   split at h
   ·exact absurd rfl h
   ·omega
  obtain ⟨h1,h2,h3,h4⟩:=h1
  clear h
  go_wp2
  exact bodyPost_ret (v:=.tuple #[.agg #[.int .i64 e,.slice a n c],.int .i64 0]) (by simp [results,Tryz.results228,go_sem,cellOf (heap_alloc_new w _)]) rfl ⟨fun h => absurd h M.out,fun _ => rfl,(Below.refl _ w).alloc (Nat.le_refl _) _⟩
def ArrPost (w : World) (e : Int) (x : Ending) (w' : World) : Prop:=Below w.heap.size w w' ∧ (madeE e 0 = 2 → x = .returned (.tuple #[.agg #[.int .i64 0,.slice none 0 0],.int .i64 2])) ∧
 (madeE e 0 = 0 → ∃ sa sc,x = .returned (.tuple #[.agg #[.int .i64 e,.slice sa 1 sc],.int .i64 0]) ∧ IsInts (fun b => w.heap.size ≤ b ∧ b < w'.heap.size) w' sa 1 sc [1])
theorem made_two (e p : Int) : madeE e p = 2 ∨ madeE e p = 0:=by unfold madeE; split <;> simp
set_option maxRecDepth 100000 in
set_option maxHeartbeats 2000000 in
theorem arrival_call (e : Int) (w : World) : Calls Tryz.prog 147 #[.int .i64 e] w (ArrPost w e):=by
 obtain ⟨w1,hw1⟩ : ∃ w1,w1 = (w.alloc (.cells #[.int .i64 0,.slice none 0 0] 64)).alloc (.cells #[.int .i64 1] 3):=⟨_,rfl⟩
 have o0 : w1.heap[w.heap.size]? = some (.cells #[.int .i64 0,.slice none 0 0] 64 (0,0)):=by rw [hw1]; exact heapAlloc _ (heap_alloc_new w _)
 have o1 : w1.heap[w.heap.size + 1]? = some (.cells #[.int .i64 1] 3 (0,0)):=by rw [hw1]; exact heapNewAt _ _ _ (by simp)
 have hb : Below w.heap.size w w1:=by rw [hw1]; exact ((Below.refl _ w).alloc (Nat.le_refl _) _).alloc (by simp) _
 have hm:=made_call e 0 (some ⟨w.heap.size + 1,0,none⟩) 1 1 w1
 have HB:=hid hb
 have O:=hid (And.intro o0 o1)
 have HW1:=hid hw1
 rw [hw1] at hm
 have HM:=hid hm
 clear hb o0 o1 hw1 hm
 go_enter Tryz.func147,Tryz.ntmps147
 rcases made_two e 0 with h2 | h2
 ·have M:=hid h2
  clear h2
  go_wp2_with (go_at_call 228; refine HM.out.mono ?_; rintro x w2 ⟨g1,_,hb2⟩; rw [g1 M.out]; rw [← HW1.out] at hb2; have k0:=heapExt hb2 O.out.1; have z0:=cellOf k0 0; have z1:=cellOf k0 1; have y0:=freeOf k0 0; have y1:=freeOf k0 1; (try dsimp only at z0 z1); have K0:=hid k0; clear k0 g1)
  have h1:=heapSet (o:=1) (Value.slice none 0 0) (heapSet (o:=0) (Value.int .i64 0) K0.out)
  exact bodyPost_ret (v:=.tuple #[.agg #[.int .i64 0,.slice none 0 0],.int .i64 2]) (by simp [results,Tryz.results147,go_sem,cellOf h1]) rfl ⟨((HB.out.trans (hb2.mono HB.out.size)).setCell (p:=⟨w.heap.size,0,none⟩) (by dsimp only; omega) _).setCell (p:=⟨w.heap.size,1,none⟩) (by dsimp only; omega) _,fun _ => rfl,fun h => absurd (M.out.symm.trans h) (by decide)⟩
 ·have M:=hid h2
  clear h2
  go_wp2_with (go_at_call 228; refine HM.out.mono ?_; rintro x w2 ⟨_,g1,hb2⟩; rw [g1 M.out]; rw [← HW1.out] at hb2; have k0:=heapExt hb2 O.out.1; have k1:=heapExt hb2 O.out.2; have z0:=cellOf k0 0; have z1:=cellOf k0 1; have y0:=freeOf k0 0; have y1:=freeOf k0 1; (try dsimp only at z0 z1); have K0:=hid k0; have K1:=hid k1; clear k0 k1 g1)
  have h1:=heapSet (o:=1) (Value.slice (some ⟨w.heap.size + 1,0,none⟩) 1 1) (heapSet (o:=0) (Value.int .i64 e) K0.out)
  have hk:=ltOf K1.out
  refine bodyPost_ret (v:=.tuple #[.agg #[.int .i64 e,.slice (some ⟨w.heap.size + 1,0,none⟩) 1 1],.int .i64 0]) (by simp [results,Tryz.results147,go_sem,cellOf h1]) rfl ⟨((HB.out.trans (hb2.mono HB.out.size)).setCell (p:=⟨w.heap.size,0,none⟩) (by dsimp only; omega) _).setCell (p:=⟨w.heap.size,1,none⟩) (by dsimp only; omega) _,fun h => absurd (M.out.symm.trans h) (by decide),fun _ => ⟨_,_,rfl,rfl,Nat.le_refl _,by decide,fun x hx => by (rw [List.mem_singleton] at hx; subst hx; exact ⟨by decide,by decide⟩),.inr ⟨w.heap.size + 1,0,rfl,⟨by omega,by simpa [World.setCell] using hk⟩,fun j hj => ?_⟩⟩⟩
  have hj0 : j = 0:=by simpa using hj
  subst hj0
  exact cellOf (heapSetOther _ _ (heapSetOther _ _ K1.out (by dsimp only; omega)) (by dsimp only; omega)) 0
def newE (e : Int) (d : Val) : Int:=if madeE e 0 = 2 then 2 else bodyE d
abbrev zeroMsg : Value:=.agg #[.int .i64 0,.slice none 0 0,.int .i64 0,.slice none 0 0,.int .i64 0,.int .i64 0,.int .i64 0,.string ⟨#[]⟩,.slice none 0 0,.slice none 0 0]
def NewPost (w : World) (e : Int) (d : Val) (x : Ending) (w' : World) : Prop:=Below w.heap.size w w' ∧ (newE e d ≠ 0 → x = .returned (.tuple #[zeroMsg,.int .i64 (newE e d)])) ∧
 (newE e d = 0 → ∃ c' : MC,x = .returned (.tuple #[c'.v,.int .i64 0]) ∧ IsMsg (fun b => w.heap.size ≤ b ∧ b < w'.heap.size) w' c' ⟨⟨e,[1]⟩,1048576,[e],d⟩)
set_option maxRecDepth 100000 in
set_option maxHeartbeats 8000000 in
theorem new_call (e0 : Int) (c : VC) (d : Val) (w : World) (he0 : I64 e0) (hd : IsVal (· < w.heap.size) w c d) (hT : Tabs w) : Calls Tryz.prog 86 #[.int .i64 e0,c.v] w (NewPost w e0 d):=by
 have HWB : Hid (Below w.heap.size w ((w.alloc (.cells #[.int .i64 c.k,.int .i64 c.i,.int .i64 c.s,.string c.t,.slice c.la c.ll c.lc,.slice c.fa c.fl c.fc] 43)).alloc (.cells #[.int .i64 0,.slice none 0 0,.int .i64 0,.slice none 0 0,.int .i64 0,.int .i64 0,.int .i64 0,.string ByteArray.empty,.slice none 0 0,.slice none 0 0] 66))):=hid (((Below.refl _ w).alloc (Nat.le_refl _) _).alloc (by simp) _)
 obtain ⟨wb,hwb⟩ : ∃ wb,wb = ((w.alloc (.cells #[.int .i64 c.k,.int .i64 c.i,.int .i64 c.s,.string c.t,.slice c.la c.ll c.lc,.slice c.fa c.fl c.fc] 43)).alloc (.cells #[.int .i64 0,.slice none 0 0,.int .i64 0,.slice none 0 0,.int .i64 0,.int .i64 0,.int .i64 0,.string ByteArray.empty,.slice none 0 0,.slice none 0 0] 66)):=⟨_,rfl⟩
 have hbwb : Below w.heap.size w wb:=by rw [hwb]; exact HWB.out
 have hsw : wb.heap.size = w.heap.size + 2:=by rw [hwb]; simp
 have o0 : wb.heap[w.heap.size]? = some (.cells #[.int .i64 c.k,.int .i64 c.i,.int .i64 c.s,.string c.t,.slice c.la c.ll c.lc,.slice c.fa c.fl c.fc] 43 (0,0)):=by rw [hwb]; exact heapAlloc _ (heap_alloc_new w _)
 have o1 : wb.heap[w.heap.size + 1]? = some (.cells #[.int .i64 0,.slice none 0 0,.int .i64 0,.slice none 0 0,.int .i64 0,.int .i64 0,.int .i64 0,.string ByteArray.empty,.slice none 0 0,.slice none 0 0] 66 (0,0)):=by rw [hwb]; exact heapNewAt _ _ _ (by simp)
 have later : ∀ w',Below wb.heap.size wb w' → IsVal (· < w'.heap.size) w' c d ∧ Tabs w' ∧ Below w.heap.size w w':=fun w' h => by
  have hb:=hbwb.trans (h.mono hbwb.size)
  exact ⟨hd.same fun b q => ⟨Nat.lt_of_lt_of_le q hb.size,hb.block b q⟩,hT.below hb,hb⟩
 have HBD:=hid (fun w' h => body_call c d w' (later w' h).1 (later w' h).2.1)
 have HCL : Hid (∀ w',Below wb.heap.size wb w' → Calls Tryz.prog 126 #[.agg #[.int .i64 c.k,.int .i64 c.i,.int .i64 c.s,.string c.t,.slice c.la c.ll c.lc,.slice c.fa c.fl c.fc]] w' fun e w2 => ∃ c' : VC,e = .returned c'.v ∧ Below w'.heap.size w' w2 ∧ IsVal (fun b => w'.heap.size ≤ b ∧ b < w2.heap.size) w2 c' d):=hid fun w' h =>
  (clone_call (later w' h).1).mono fun e w2 ⟨c',he,hb,hi⟩ => ⟨c',he,hb,hi⟩
 have O:=hid (And.intro o0 o1)
 have HWBE:=hid hwb
 have HSW:=hid hsw
 have HBWB:=hid hbwb
 have HI0:=hid he0
 have harr:=arrival_call e0 ((w.alloc (.cells #[.int .i64 c.k,.int .i64 c.i,.int .i64 c.s,.string c.t,.slice c.la c.ll c.lc,.slice c.fa c.fl c.fc] 43)).alloc (.cells #[.int .i64 0,.slice none 0 0,.int .i64 0,.slice none 0 0,.int .i64 0,.int .i64 0,.int .i64 0,.string ByteArray.empty,.slice none 0 0,.slice none 0 0] 66))
 have HA:=hid harr
 clear later hwb hsw o0 o1 hbwb hd hT he0 harr
 go_enter Tryz.func86,Tryz.ntmps86
 rcases made_two e0 0 with h2 | h2
 ·have HE:=hid (show newE e0 d = 2 by rw [newE,if_pos h2])
  have M:=hid h2
  clear h2
  go_wp2_with (go_at_call 147; refine HA.out.mono ?_; rintro x w2 ⟨hb2,g1,_⟩; rw [g1 M.out]; rw [← HWBE.out] at hb2; have k0:=heapAlloc (.cells #[.int .i64 0,.slice none 0 0] 64) (heapExt hb2 O.out.2); have z0:=cellOf k0 0; have y0:=freeOf k0 0; have z1:=cellOf k0 1; have y1:=freeOf k0 1; have z2:=cellOf k0 2; have y2:=freeOf k0 2; have z3:=cellOf k0 3; have y3:=freeOf k0 3; have z4:=cellOf k0 4; have y4:=freeOf k0 4; have z5:=cellOf k0 5; have y5:=freeOf k0 5; have z6:=cellOf k0 6; have y6:=freeOf k0 6; have z7:=cellOf k0 7; have y7:=freeOf k0 7; have z8:=cellOf k0 8; have y8:=freeOf k0 8; have z9:=cellOf k0 9; have y9:=freeOf k0 9; (try dsimp only at z0 z1 z2 z3 z4 z5 z6 z7 z8 z9); have K0:=hid k0; clear k0 g1)
  have h1:=setTen_heap (c:=⟨⟨0,none,0,0⟩,0,none,0,0,⟨0,0,0,⟨#[]⟩,none,0,0,none,0,0⟩⟩) K0.out
  have hbb:=hb2.size
  have hsw:=HSW.out
  have h2:=((HBWB.out.trans (hb2.mono HBWB.out.size)).alloc (by omega) (.cells #[.int .i64 0,.slice none 0 0] 64)).trans (setTen_below (c:=⟨⟨0,none,0,0⟩,0,none,0,0,⟨0,0,0,⟨#[]⟩,none,0,0,none,0,0⟩⟩) _ (w.heap.size + 1) w.heap.size (by omega))
  dsimp only [setTen] at h1 h2
  exact bodyPost_ret (v:=.tuple #[zeroMsg,.int .i64 2]) (by simp [results,Tryz.results86,go_sem,cellOf h1]) rfl ⟨h2,fun _ => by rw [HE.out],fun h => absurd (HE.out.symm.trans h) (by decide)⟩
 ·have M:=hid h2
  have HE:=hid (show newE e0 d = bodyE d by rw [newE,if_neg (by rw [h2]; decide)])
  clear h2
  obtain ⟨u,hu⟩ : ∃ u,u = bodyE d:=⟨_,rfl⟩
  have HU:=hid hu
  have hbd : ∀ w',Below wb.heap.size wb w' → Calls Tryz.prog 148 #[.agg #[.int .i64 c.k,.int .i64 c.i,.int .i64 c.s,.string c.t,.slice c.la c.ll c.lc,.slice c.fa c.fl c.fc]] w' fun e w2 => e = .returned (.int .i64 u) ∧ Below w'.heap.size w' w2:=fun w' h => by rw [hu]; exact HBD.out w' h
  have HBD':=hid hbd
  clear hbd HBD hu
  by_cases q : u = 0
  ·subst q
   have HE0:=hid (HE.out.trans HU.out.symm)
   go_upto_region 7 with (first
    | (go_at_call 147; refine HA.out.mono ?_; rintro x w2 ⟨hb2,_,g1⟩; obtain ⟨sa,sc,hx,hsi⟩:=g1 M.out; rw [hx]; rw [← HWBE.out] at hb2 hsi; have k1:=heapAlloc (.cells #[.int .i64 e0,.slice sa 1 sc] 64) (heapExt hb2 O.out.1); have x0:=cellOf k1 0; have x1:=cellOf k1 1; have x2:=cellOf k1 2; have x3:=cellOf k1 3; have x4:=cellOf k1 4; have x5:=cellOf k1 5; clear hx k1)
    | (go_at_call 148; refine (HBD'.out _ (hb2.alloc hb2.size _)).mono ?_; rintro x w3 ⟨rfl,hb3⟩; have hb3':=(hb2.alloc hb2.size (.cells #[.int .i64 e0,.slice sa 1 sc] 64)).trans (hb3.mono (Nat.le_trans hb2.size (by simp))); clear x0 x1 x2 x3 x4 x5))
   have HBW : Hid (Below w.heap.size w w3):=hid (HBWB.out.trans (hb3'.mono HBWB.out.size))
   have O2:=hid (heapExt hb3' O.out.2)
   have hst : w3.heap[w2.heap.size]? = some (.cells #[.int .i64 e0,.slice sa 1 sc] 64 (0,0)):=heapExt hb3 (heap_alloc_new w2 _)
   have hvb:=heapExt hb3' O.out.1
   have hs2:=hb2.size
   have hs3:=hb3.size
   simp only [World.size_alloc] at hs3
   have hsw:=HSW.out
   have HV : Hid (∀ w',Below w3.heap.size w3 w' → Calls Tryz.prog 126 #[.agg #[.int .i64 c.k,.int .i64 c.i,.int .i64 c.s,.string c.t,.slice c.la c.ll c.lc,.slice c.fa c.fl c.fc]] w' fun e w2 => ∃ c' : VC,e = .returned c'.v ∧ Below w'.heap.size w' w2 ∧ IsVal (fun b => w3.heap.size ≤ b ∧ b < w2.heap.size) w2 c' d):=hid fun w' h =>
    (HCL.out w' (hb3'.trans (h.mono hb3'.size))).mono fun e w2 ⟨c',he,hb,hi⟩ => ⟨c',he,hb,hi.same fun b q => ⟨⟨Nat.le_trans h.size q.1,q.2⟩,rfl⟩⟩
   have HC : Hid (∀ w',Below w3.heap.size w3 w' → w'.cell? ⟨w2.heap.size,0,none⟩ = some (.int .i64 e0) ∧ w'.cell? ⟨w2.heap.size,1,none⟩ = some (.slice sa 1 sc) ∧ w'.cell? ⟨w.heap.size,0,none⟩ = some (.int .i64 c.k) ∧ w'.cell? ⟨w.heap.size,1,none⟩ = some (.int .i64 c.i) ∧ w'.cell? ⟨w.heap.size,2,none⟩ = some (.int .i64 c.s) ∧ w'.cell? ⟨w.heap.size,3,none⟩ = some (.string c.t) ∧ w'.cell? ⟨w.heap.size,4,none⟩ = some (.slice c.la c.ll c.lc) ∧ w'.cell? ⟨w.heap.size,5,none⟩ = some (.slice c.fa c.fl c.fc)):=hid fun w' h => by
    have g1:=heapExt h hst
    have g2:=heapExt h hvb
    exact ⟨cellOf g1 0,cellOf g1 1,cellOf g2 0,cellOf g2 1,cellOf g2 2,cellOf g2 3,cellOf g2 4,cellOf g2 5⟩
   have NR : Hid (∀ (w' : World) (cb : VC) (gb : Nat),Below w3.heap.size w3 w' → w3.heap.size ≤ gb → w'.heap[gb]? = some (.cells #[.int .i64 e0] 3 (0,0)) → IsVal (fun b => w3.heap.size ≤ b ∧ b < w'.heap.size) w' cb d →
    IsMsg (fun b => w.heap.size ≤ b ∧ b < w'.heap.size ∧ b ≠ w.heap.size + 1) w' ⟨⟨e0,sa,1,sc⟩,1048576,some ⟨gb,0,none⟩,1,1,cb⟩ ⟨⟨e0,[1]⟩,1048576,[e0],d⟩):=hid fun w' cb gb h hg hgo hi => by
    have hs:=h.size
    refine ⟨⟨rfl,HI0.out,hsi.same fun b ⟨q1,q2⟩ => ⟨by omega,(h.block b (by omega)).trans ((hb3.block b (by simp; omega)).trans (Below.heap_alloc _ _ _ q2))⟩⟩,rfl,(show I64 1048576 from ⟨by decide,by decide⟩),⟨rfl,Nat.le_refl _,(show 1 * 8 ≤ 140737488351232 by decide),fun x hx => ?_,.inr ⟨gb,0,rfl,?_,fun j hj => ?_⟩⟩,hi.same fun b ⟨q1,q2⟩ => ⟨by omega,rfl⟩⟩
    ·rw [List.mem_singleton] at hx; subst hx; exact HI0.out
    ·have:=ltOf hgo; omega
    ·have hj0 : j = 0:=by simpa using hj
     subst hj0
     exact cellOf hgo 0
   clear hst hvb hsi hb3 hb3' hb2 hsw hs2 hs3
   refine wp_region_split 6 (fun w' => Below w3.heap.size w3 w') (by kernel_rfl) (by kernel_rfl) (by kernel_rfl) (by decide) ((Below.refl _ _).drew) (fun hS => ?_)
   simp only [List.take_succ_cons,List.take_zero,List.drop_succ_cons,List.drop_zero]
   refine tkQ 0 (v:=?_) ?_ hS ?_; rotate_left; · intro w' hw'; have hcells:=HC.out w' hw'; go_simp; (try with_reducible rfl)
   simp only [Act.put,pt4,pt5,pt6]
   refine tkQ 1 (v:=?_) ?_ hS ?_; rotate_left; · intro w' hw'; have hcells:=HC.out w' hw'; go_simp; (try with_reducible rfl)
   simp only [Act.put,pt4,pt5,pt6]
   refine tkQ 3 (v:=?_) ?_ hS ?_; rotate_left; · intro w' hw'; have hcells:=HC.out w' hw'; go_simp; (try with_reducible rfl)
   simp only [Act.put,pt4,pt5,pt6]
   refine wpAnyH_ready (rs:=[2,4]) (by kernel_rfl) (by simp) ?_
   refine AllReadyH.cons (o:=_) rfl (fun K hK => ?_) ?_
   ·go_simp
    obtain ⟨gb,hgb⟩ : ∃ gb,gb = w3.heap.size:=⟨_,rfl⟩
    have HGB:=hid hgb
    clear hgb
    have HGO : Hid ((w3.drew.alloc (.cells #[.int .i64 e0] 3)).heap[gb]? = some (.cells #[.int .i64 e0] 3 (0,0))):=hid (by rw [HGB.out]; exact heap_alloc_new w3.drew _)
    refine hK.out _ _ (hS.trans (((Below.refl _ _).alloc (Nat.le_refl _) _).mono hS.size)) (fun hS => ?_)
    clear hK K
    (try simp only [Act.put,pt4,pt5,pt6])
    refine wpAnyH_ready (rs:=[4]) (by kernel_rfl) (by simp) ?_
    refine arQ fun K hK => ?_
    go_simp; go_at_call 126; refine (HV.out _ hS).mono ?_
    rintro e w5 ⟨cb,rfl,hb5,hi5⟩
    have hres:=hid (NR.out w5 cb gb (hS.trans (hb5.mono hS.size)) (by rw [HGB.out]; exact Nat.le_refl _) (heapExt hb5 HGO.out) hi5)
    clear hi5
    refine hK.out _ _ (hS.trans (hb5.mono hS.size)) (fun hS => ?_)
    clear hK K
    (try simp only [Act.put,pt4,pt5,pt6])
    refine tkQ 5 (v:=?_) ?_ hS ?_; rotate_left; · intro w' hw'; have hcells:=HC.out w' hw'; go_simp; (try with_reducible rfl)
    simp only [Act.put,pt4,pt5,pt6]
    refine wpAnyH_done (by kernel_rfl) ?_ _
    (try dsimp only)
    rw [← HGB.out]
    have hB:=heapExt hS O2.out
    have hBL:=hid hS
    clear hS HC HV
    have z0:=cellOf hB 0
    have z1:=cellOf hB 1
    have z2:=cellOf hB 2
    have z3:=cellOf hB 3
    have z4:=cellOf hB 4
    have z5:=cellOf hB 5
    have z6:=cellOf hB 6
    have z7:=cellOf hB 7
    have z8:=cellOf hB 8
    have z9:=cellOf hB 9
    have y0:=freeOf hB 0
    have y1:=freeOf hB 1
    have y2:=freeOf hB 2
    have y3:=freeOf hB 3
    have y4:=freeOf hB 4
    have y5:=freeOf hB 5
    have y6:=freeOf hB 6
    have y7:=freeOf hB 7
    have y8:=freeOf hB 8
    have y9:=freeOf hB 9
    (try dsimp only at z0 z1 z2 z3 z4 z5 z6 z7 z8 z9)
    have HB:=hid hB
    clear hB
    have HRI:=hres
    go_wp2
    have h1:=setTen_heap (c:=⟨⟨e0,sa,1,sc⟩,1048576,some ⟨gb,0,none⟩,1,1,cb⟩) HB.out
    have h4:=fun w' => setTen_size (c:=⟨⟨e0,sa,1,sc⟩,1048576,some ⟨gb,0,none⟩,1,1,cb⟩) w' (w.heap.size + 1)
    have h3:=fun w' b hb => setTen_other (c:=⟨⟨e0,sa,1,sc⟩,1048576,some ⟨gb,0,none⟩,1,1,cb⟩) w' (w.heap.size + 1) b hb
    have h2:=fun w' => setTen_below (c:=⟨⟨e0,sa,1,sc⟩,1048576,some ⟨gb,0,none⟩,1,1,cb⟩) w' (w.heap.size + 1) w.heap.size (by omega)
    dsimp only [setTen] at h1 h2 h3 h4
    refine bodyPost_ret (v:=.tuple #[MC.v ⟨⟨e0,sa,1,sc⟩,1048576,some ⟨gb,0,none⟩,1,1,cb⟩,.int .i64 0]) (by simp [results,Tryz.results86,go_sem,cellOf h1]) rfl ⟨(HBW.out.trans (hBL.out.mono HBW.out.size)).trans (h2 _),fun h => absurd HE0.out h,fun _ => ⟨_,rfl,?_⟩⟩
    exact HRI.out.same fun b hb => ⟨by rw [h4]; exact ⟨hb.1,hb.2.1⟩,h3 _ b hb.2.2⟩
   refine arQ fun K hK => ?_
   go_simp; go_at_call 126; refine (HV.out _ hS).mono ?_
   rintro e w5 ⟨cb,rfl,hb5,hi5⟩
   refine hK.out _ _ (hS.trans (hb5.mono hS.size)) (fun hS => ?_)
   clear hK K
   (try simp only [Act.put,pt4,pt5,pt6])
   refine wpAnyH_ready (rs:=[2]) (by kernel_rfl) (by simp) ?_
   refine arQ fun K hK => ?_
   go_simp
   obtain ⟨gb,hgb⟩ : ∃ gb,gb = w5.heap.size:=⟨_,rfl⟩
   have HGB:=hid hgb
   clear hgb
   have hres:=hid (NR.out (w5.alloc (.cells #[.int .i64 e0] 3)) cb gb (hS.trans (((Below.refl _ _).alloc (Nat.le_refl _) _).mono hS.size)) (by rw [HGB.out]; exact hS.size) (by rw [HGB.out]; exact heap_alloc_new w5 _) (hi5.same fun b hb => ⟨⟨hb.1,by simp; omega⟩,Below.heap_alloc _ _ _ hb.2⟩))
   refine hK.out _ _ (hS.trans (((Below.refl _ _).alloc (Nat.le_refl _) _).mono hS.size)) (fun hS => ?_)
   clear hK K
   (try simp only [Act.put,pt4,pt5,pt6])
   refine tkQ 5 (v:=?_) ?_ hS ?_; rotate_left; · intro w' hw'; have hcells:=HC.out w' hw'; go_simp; (try with_reducible rfl)
   simp only [Act.put,pt4,pt5,pt6]
   refine wpAnyH_done (by kernel_rfl) ?_ _
   (try dsimp only)
   rw [← HGB.out]
   have hB:=heapExt hS O2.out
   have hBL:=hid hS
   clear hS HC HV
   have z0:=cellOf hB 0
   have z1:=cellOf hB 1
   have z2:=cellOf hB 2
   have z3:=cellOf hB 3
   have z4:=cellOf hB 4
   have z5:=cellOf hB 5
   have z6:=cellOf hB 6
   have z7:=cellOf hB 7
   have z8:=cellOf hB 8
   have z9:=cellOf hB 9
   have y0:=freeOf hB 0
   have y1:=freeOf hB 1
   have y2:=freeOf hB 2
   have y3:=freeOf hB 3
   have y4:=freeOf hB 4
   have y5:=freeOf hB 5
   have y6:=freeOf hB 6
   have y7:=freeOf hB 7
   have y8:=freeOf hB 8
   have y9:=freeOf hB 9
   (try dsimp only at z0 z1 z2 z3 z4 z5 z6 z7 z8 z9)
   have HB:=hid hB
   clear hB
   have HRI:=hres
   go_wp2
   have h1:=setTen_heap (c:=⟨⟨e0,sa,1,sc⟩,1048576,some ⟨gb,0,none⟩,1,1,cb⟩) HB.out
   have h4:=fun w' => setTen_size (c:=⟨⟨e0,sa,1,sc⟩,1048576,some ⟨gb,0,none⟩,1,1,cb⟩) w' (w.heap.size + 1)
   have h3:=fun w' b hb => setTen_other (c:=⟨⟨e0,sa,1,sc⟩,1048576,some ⟨gb,0,none⟩,1,1,cb⟩) w' (w.heap.size + 1) b hb
   have h2:=fun w' => setTen_below (c:=⟨⟨e0,sa,1,sc⟩,1048576,some ⟨gb,0,none⟩,1,1,cb⟩) w' (w.heap.size + 1) w.heap.size (by omega)
   dsimp only [setTen] at h1 h2 h3 h4
   refine bodyPost_ret (v:=.tuple #[MC.v ⟨⟨e0,sa,1,sc⟩,1048576,some ⟨gb,0,none⟩,1,1,cb⟩,.int .i64 0]) (by simp [results,Tryz.results86,go_sem,cellOf h1]) rfl ⟨(HBW.out.trans (hBL.out.mono HBW.out.size)).trans (h2 _),fun h => absurd HE0.out h,fun _ => ⟨_,rfl,?_⟩⟩
   exact HRI.out.same fun b hb => ⟨by rw [h4]; exact ⟨hb.1,hb.2.1⟩,h3 _ b hb.2.2⟩
  ·have Q:=hid q
   go_wp2_with (first
    | (go_at_call 147; refine HA.out.mono ?_; rintro x w2 ⟨hb2,_,g1⟩; obtain ⟨sa,sc,hx,hsi⟩:=g1 M.out; rw [hx]; rw [← HWBE.out] at hb2 hsi; have k1:=heapAlloc (.cells #[.int .i64 e0,.slice sa 1 sc] 64) (heapExt hb2 O.out.1); have x0:=cellOf k1 0; have x1:=cellOf k1 1; have x2:=cellOf k1 2; have x3:=cellOf k1 3; have x4:=cellOf k1 4; have x5:=cellOf k1 5; clear hx k1)
    | (go_at_call 148; refine (HBD'.out _ (hb2.alloc hb2.size _)).mono ?_; rintro x w3 ⟨rfl,hb3⟩; have hb3':=(hb2.alloc hb2.size (.cells #[.int .i64 e0,.slice sa 1 sc] 64)).trans (hb3.mono (Nat.le_trans hb2.size (by simp))); have k0:=heapExt hb3' O.out.2; have z0:=cellOf k0 0; have y0:=freeOf k0 0; have z1:=cellOf k0 1; have y1:=freeOf k0 1; have z2:=cellOf k0 2; have y2:=freeOf k0 2; have z3:=cellOf k0 3; have y3:=freeOf k0 3; have z4:=cellOf k0 4; have y4:=freeOf k0 4; have z5:=cellOf k0 5; have y5:=freeOf k0 5; have z6:=cellOf k0 6; have y6:=freeOf k0 6; have z7:=cellOf k0 7; have y7:=freeOf k0 7; have z8:=cellOf k0 8; have y8:=freeOf k0 8; have z9:=cellOf k0 9; have y9:=freeOf k0 9; (try dsimp only at z0 z1 z2 z3 z4 z5 z6 z7 z8 z9); have K0:=hid k0; clear k0 x0 x1 x2 x3 x4 x5))
   have h1:=setTen_heap (c:=⟨⟨0,none,0,0⟩,0,none,0,0,⟨0,0,0,⟨#[]⟩,none,0,0,none,0,0⟩⟩) K0.out
   have hbb:=hb3'.size
   have hsw:=HSW.out
   have h2:=(HBWB.out.trans (hb3'.mono HBWB.out.size)).trans (setTen_below (c:=⟨⟨0,none,0,0⟩,0,none,0,0,⟨0,0,0,⟨#[]⟩,none,0,0,none,0,0⟩⟩) _ (w.heap.size + 1) w.heap.size (by omega))
   dsimp only [setTen] at h1 h2
   exact bodyPost_ret (v:=.tuple #[zeroMsg,.int .i64 u]) (by simp [results,Tryz.results86,go_sem,cellOf h1]) rfl ⟨h2,fun _ => by rw [HE.out,HU.out],fun h => absurd (HU.out.trans (HE.out.symm.trans h)) Q.out⟩
end
section
open Go Go.RowKit Go.Shelf
theorem infoInt : (Tryz.prog.info? 3).map (fun i => (i.zero,i.size,i.bytes)) = some (some (.int .i64 0),1,8):=by kernel_rfl
theorem own_ge {w : World} {base : Nat} {e : TypeId} {size : Nat} {v : Value} {n : Nat} {xs : List Value} (h : w.ownsRow base e size v n xs) (k : Nat) (hk : v.ownBlock = some k) : base ≤ k:=by
 rcases h.2 with ⟨rfl,_⟩ | ⟨g,cap,cur,rfl,hb,_⟩
 ·cases hk
 ·cases hk; exact hb
theorem own_low {w : World} {base B : Nat} {e : TypeId} {size : Nat} {v : Value} {n : Nat} {xs : List Value} (h : w.ownsRow base e size v n xs) (hB : B ≤ base) : w.ownsRow B e size v n xs :=
 ⟨h.1,h.2.imp id fun ⟨g,cap,cur,h1,hb,h2⟩ => ⟨g,cap,cur,h1,Nat.le_trans hB hb,h2⟩⟩
theorem clRow_call (a : Option Addr) (n c : Nat) (xs : List Int) (w : World) (hx : IsInts (· < w.heap.size) w a n c xs) (B : Nat) (hB : B ≤ w.heap.size) :
 Calls Tryz.prog 231 #[.slice a n c] w fun e w' => ∃ v,e = .returned v ∧ w'.ownsRow B 3 1 v n (xs.map (Value.int .i64)) ∧ Below w.heap.size w w':=by
 have hl:=hx.len
 have hbig:=hx.big
 cases hn : n with
 | zero =>
   subst hn
   have h0 : xs = []:=List.eq_nil_of_length_eq_zero hl.symm
   subst h0
   cases a with
   | none => exact (Tryz.slices_Clone_int_nil 0 c w).mono fun e w' ⟨he,hw⟩ => ⟨_,he,World.ownsRow_nil _ _ _ _,by rw [hw]; exact Below.refl _ _⟩
   | some a => exact (Tryz.slices_Clone_int_zero a c w).mono fun e w' ⟨v,he,ho,_,hb⟩ => ⟨v,he,own_low ho hB,hb⟩
 | succ m =>
   rw [← hn]
   obtain ⟨b,o,rfl,hb,hc⟩:=hx.slot (show 0 < n by omega)
   refine (Tryz.slices_Clone_int b o n c xs w (by omega) (by omega) (fun j hj => by rw [hc j hj]; simp [List.getD_eq_getElem?_getD,hj])).mono fun e w' ⟨v,he,ho,_,hb'⟩ => ?_
   rw [List.take_of_length_le (by omega)] at ho
   exact ⟨v,he,own_low ho hB,hb'⟩
set_option maxRecDepth 100000 in
set_option maxHeartbeats 4000000 in
theorem under_call (c : SC) (d : St) (i : Int) (w : World) (hi64 : I64 i) (hn : c.n ≤ 1000000) (hd : IsSt (· < w.heap.size) w c d) : Calls Tryz.prog 151 #[c.v,.int .i64 i] w (StPost w ⟨d.e,d.ps ++ [i]⟩):=by
 obtain ⟨ti,hi,hz0,hz1,hz2⟩:=info_parts infoInt
 have hcap1 : c.n + 1 ≤ maxLen:=by unfold maxLen; omega
 have hcap2 : (c.n + 1) * 8 ≤ 140737488355328:=by omega
 have HWB : Hid (Below w.heap.size w ((w.alloc (.cells #[.int .i64 c.e,.slice c.a c.n c.c] 64)).alloc (.cells #[.int .i64 0,.slice none 0 0] 64))):=hid (((Below.refl _ w).alloc (Nat.le_refl _) _).alloc (by simp) _)
 have HV : Hid (∀ w',Below ((w.alloc (.cells #[.int .i64 c.e,.slice c.a c.n c.c] 64)).alloc (.cells #[.int .i64 0,.slice none 0 0] 64)).heap.size ((w.alloc (.cells #[.int .i64 c.e,.slice c.a c.n c.c] 64)).alloc (.cells #[.int .i64 0,.slice none 0 0] 64)) w' → Calls Tryz.prog 231 #[.slice c.a c.n c.c] w' fun e w2 => ∃ v,e = .returned v ∧ w2.ownsRow ((w.alloc (.cells #[.int .i64 c.e,.slice c.a c.n c.c] 64)).alloc (.cells #[.int .i64 0,.slice none 0 0] 64)).heap.size 3 1 v c.n (d.ps.map (Value.int .i64)) ∧ Below w'.heap.size w' w2):=hid fun w' h => by
  have hb:=HWB.out.trans (h.mono HWB.out.size)
  exact clRow_call _ _ _ _ w' (hd.ps.same fun b q => ⟨Nat.lt_of_lt_of_le q hb.size,hb.block b q⟩) _ h.size
 have HC : Hid (∀ w',Below ((w.alloc (.cells #[.int .i64 c.e,.slice c.a c.n c.c] 64)).alloc (.cells #[.int .i64 0,.slice none 0 0] 64)).heap.size ((w.alloc (.cells #[.int .i64 c.e,.slice c.a c.n c.c] 64)).alloc (.cells #[.int .i64 0,.slice none 0 0] 64)) w' → w'.cell? ⟨w.heap.size,0,none⟩ = some (.int .i64 c.e) ∧ w'.cell? ⟨w.heap.size,1,none⟩ = some (.slice c.a c.n c.c)):=hid fun w' h => by
  have h1 : w'.heap[w.heap.size]? = some (.cells #[.int .i64 c.e,.slice c.a c.n c.c] 64 (0,0)):=heapExt h (heapAlloc _ (heap_alloc_new w _))
  exact ⟨cellOf h1 0,cellOf h1 1⟩
 have HE:=hid hd.e
 have HRE:=hid hd.re
 have HRNG : Hid (∀ x ∈ d.ps ++ [i],I64 x):=hid fun x hx => by
  rw [List.mem_append,List.mem_singleton] at hx
  rcases hx with hx | rfl
  ·exact hd.ps.rng x hx
  ·exact hi64
 clear hd hi64
 go_enter Tryz.func151,Tryz.ntmps151
 go_upto_region 1 with (fail)
 refine wp_region_split 9 (fun w' => Below ((w.alloc (.cells #[.int .i64 c.e,.slice c.a c.n c.c] 64)).alloc (.cells #[.int .i64 0,.slice none 0 0] 64)).heap.size ((w.alloc (.cells #[.int .i64 c.e,.slice c.a c.n c.c] 64)).alloc (.cells #[.int .i64 0,.slice none 0 0] 64)) w') (by kernel_rfl) (by kernel_rfl) (by kernel_rfl) (by decide) ((Below.refl _ _).drew) (fun hS => ?_)
 simp only [List.take_succ_cons,List.take_zero,List.drop_succ_cons,List.drop_zero]
 refine tkQ 0 (v:=?_) ?_ hS ?_; rotate_left; · intro w' hw'; have hcells:=HC.out w' hw'; go_simp; (try with_reducible rfl)
 simp only [Act.put,pt4,pt5,pt6]
 refine tkQ 1 (v:=?_) ?_ hS ?_; rotate_left; · intro w' hw'; have hcells:=HC.out w' hw'; go_simp; (try with_reducible rfl)
 simp only [Act.put,pt4,pt5,pt6]
 refine tkQ 2 (v:=?_) ?_ hS ?_; rotate_left; · intro w' hw'; have hcells:=HC.out w' hw'; go_simp; (try with_reducible rfl)
 simp only [Act.put,pt4,pt5,pt6]
 refine tkQ 3 (v:=?_) ?_ hS ?_; rotate_left; · intro w' hw'; have hcells:=HC.out w' hw'; go_simp; (try with_reducible rfl)
 simp only [Act.put,pt4,pt5,pt6]
 refine tkQ 5 (v:=?_) ?_ hS ?_; rotate_left; · intro w' hw'; have hcells:=HC.out w' hw'; go_simp; (try with_reducible rfl)
 simp only [Act.put,pt4,pt5,pt6]
 refine wpAnyH_ready (rs:=[4,6]) (by kernel_rfl) (by simp) ?_
 refine AllReadyH.cons (o:=_) rfl (fun K hK => ?_) ?_
 ·go_simp; go_at_call 231; refine (HV.out _ hS).mono ?_
  rintro e w1 ⟨v,rfl,ho,hb1⟩
  have HO:=hid ho
  clear ho
  refine hK.out _ _ (hS.trans (hb1.mono hS.size)) (fun hS => ?_)
  clear hK K
  (try simp only [Act.put,pt4,pt5,pt6])
  refine wpAnyH_ready (rs:=[6]) (by kernel_rfl) (by simp) ?_
  refine arQ fun K hK => ?_
  go_simp
  refine hK.out _ _ (hS.trans (((Below.refl _ _).alloc (Nat.le_refl _) _).mono hS.size)) (fun hS => ?_)
  clear hK K
  (try simp only [Act.put,pt4,pt5,pt6])
  refine wpAnyH_ready (rs:=[7]) (by kernel_rfl) (by simp) ?_
  refine arQ fun K hK => ?_
  refine step_append_lies _ (by rfl) _ _ _ (by rfl) ((w.alloc (.cells #[.int .i64 c.e,.slice c.a c.n c.c] 64)).alloc (.cells #[.int .i64 0,.slice none 0 0] 64)).heap.size 3 ti _ 1 8 Tryz.underlying62 hi hz0 hz1 hz2 rfl (by omega) v c.n (d.ps.map (Value.int .i64)) (by rfl) (HO.out.alloc _) ⟨w1.heap.size,0,none⟩ 1 1 [.int .i64 i] (by rfl) (by rfl) (World.news_of_block (heap_alloc_new w1 _)) (by simp [Value.oneCell']) (by omega) hcap1 hcap2 hS.size _ rfl ?_
  intro gg cap w2 hown2 hgrow hat hlt2
  have hS2 : Below ((w.alloc (.cells #[.int .i64 c.e,.slice c.a c.n c.c] 64)).alloc (.cells #[.int .i64 0,.slice none 0 0] 64)).heap.size ((w.alloc (.cells #[.int .i64 c.e,.slice c.a c.n c.c] 64)).alloc (.cells #[.int .i64 0,.slice none 0 0] 64)) w2:=hS.grown hgrow hS.size (fun k e => own_ge HO.out k e)
  have HOW:=hid hown2
  clear hown2 hgrow hat hlt2
  refine hK.out _ _ (hS2) (fun hS => ?_)
  clear hK K
  (try simp only [Act.put,pt4,pt5,pt6])
  refine tkQ 8 (v:=?_) ?_ hS ?_; rotate_left; · intro w' hw'; have hcells:=HC.out w' hw'; go_simp; (try with_reducible rfl)
  simp only [Act.put,pt4,pt5,pt6]
  refine wpAnyH_done (by kernel_rfl) ?_ _
  (try dsimp only)
  have hB:=heapExt hS (heapNewAt (w.alloc (.cells #[.int .i64 c.e,.slice c.a c.n c.c] 64)) (.cells #[.int .i64 0,.slice none 0 0] 64) (w.heap.size + 1) (by simp))
  have z0:=cellOf hB 0
  have z1:=cellOf hB 1
  have y0:=freeOf hB 0
  have y1:=freeOf hB 1
  (try dsimp only at z0 z1)
  have HB:=hid hB
  have HS:=hid hS
  clear hB hS hS2 hb1 HV HC HO hi hz0 hz1 hz2 hcap1 hcap2
  go_wp2
  have h1:=heapSet (o:=1) (Value.slice (some ⟨gg,0,none⟩) (c.n + 1) cap) (heapSet (o:=0) (Value.int .i64 c.e) HB.out)
  obtain ⟨a',c',hac,hii⟩:=ints_of_row (xs:=d.ps ++ [i]) (by rw [List.map_append]; exact HOW.out) (by omega) HRNG.out
  obtain ⟨rfl,rfl⟩ : some ⟨gg,0,none⟩ = a' ∧ cap = c':=by (injection hac with e1 _ e2; exact ⟨e1,e2⟩)
  refine bodyPost_ret (v:=.agg #[.int .i64 c.e,.slice (some ⟨gg,0,none⟩) (c.n + 1) cap]) (by simp [results,Tryz.results151,go_sem,cellOf h1]) rfl ⟨(⟨c.e,some ⟨gg,0,none⟩,c.n + 1,cap⟩ : SC),rfl,?_,⟨HE.out,HRE.out,?_⟩⟩
  ·exact ((HWB.out.trans (HS.out.mono HWB.out.size)).setCell (p:=⟨w.heap.size + 1,0,none⟩) (by dsimp only; omega) _).setCell (p:=⟨w.heap.size + 1,1,none⟩) (by dsimp only; omega) _
  ·refine hii.same fun b hb => ⟨⟨?_,by simpa [World.setCell] using hb.2⟩,(Below.heap_setCell _ _ _ _ ?_).trans (Below.heap_setCell _ _ _ _ ?_)⟩ <;> (have:=hb.1; simp at this ⊢; omega)
 refine arQ fun K hK => ?_
 go_simp
 refine hK.out _ _ (hS.trans (((Below.refl _ _).alloc (Nat.le_refl _) _).mono hS.size)) (fun hS => ?_)
 clear hK K
 (try simp only [Act.put,pt4,pt5,pt6])
 refine wpAnyH_ready (rs:=[4]) (by kernel_rfl) (by simp) ?_
 refine arQ fun K hK => ?_
 go_simp; go_at_call 231; refine (HV.out _ hS).mono ?_
 rintro e w1 ⟨v,rfl,ho,hb1⟩
 have HO:=hid ho
 clear ho
 refine hK.out _ _ (hS.trans (hb1.mono hS.size)) (fun hS => ?_)
 clear hK K
 (try simp only [Act.put,pt4,pt5,pt6])
 refine wpAnyH_ready (rs:=[7]) (by kernel_rfl) (by simp) ?_
 refine arQ fun K hK => ?_
 refine step_append_lies _ (by rfl) _ _ _ (by rfl) ((w.alloc (.cells #[.int .i64 c.e,.slice c.a c.n c.c] 64)).alloc (.cells #[.int .i64 0,.slice none 0 0] 64)).heap.size 3 ti _ 1 8 Tryz.underlying62 hi hz0 hz1 hz2 rfl (by omega) v c.n (d.ps.map (Value.int .i64)) (by rfl) HO.out ⟨(w.heap.size + 1 + 1),0,none⟩ 1 1 [.int .i64 i] (by rfl) (by rfl) (World.news_of_block (heapExt hb1 (heapNewAt ((w.alloc (.cells #[.int .i64 c.e,.slice c.a c.n c.c] 64)).alloc (.cells #[.int .i64 0,.slice none 0 0] 64)).drew _ _ (by simp)))) (by simp [Value.oneCell']) (by omega) hcap1 hcap2 hS.size _ rfl ?_
 intro gg cap w2 hown2 hgrow hat hlt2
 have hS2 : Below ((w.alloc (.cells #[.int .i64 c.e,.slice c.a c.n c.c] 64)).alloc (.cells #[.int .i64 0,.slice none 0 0] 64)).heap.size ((w.alloc (.cells #[.int .i64 c.e,.slice c.a c.n c.c] 64)).alloc (.cells #[.int .i64 0,.slice none 0 0] 64)) w2:=hS.grown hgrow hS.size (fun k e => own_ge HO.out k e)
 have HOW:=hid hown2
 clear hown2 hgrow hat hlt2
 refine hK.out _ _ (hS2) (fun hS => ?_)
 clear hK K
 (try simp only [Act.put,pt4,pt5,pt6])
 refine tkQ 8 (v:=?_) ?_ hS ?_; rotate_left; · intro w' hw'; have hcells:=HC.out w' hw'; go_simp; (try with_reducible rfl)
 simp only [Act.put,pt4,pt5,pt6]
 refine wpAnyH_done (by kernel_rfl) ?_ _
 (try dsimp only)
 have hB:=heapExt hS (heapNewAt (w.alloc (.cells #[.int .i64 c.e,.slice c.a c.n c.c] 64)) (.cells #[.int .i64 0,.slice none 0 0] 64) (w.heap.size + 1) (by simp))
 have z0:=cellOf hB 0
 have z1:=cellOf hB 1
 have y0:=freeOf hB 0
 have y1:=freeOf hB 1
 (try dsimp only at z0 z1)
 have HB:=hid hB
 have HS:=hid hS
 clear hB hS hS2 hb1 HV HC HO hi hz0 hz1 hz2 hcap1 hcap2
 go_wp2
 have h1:=heapSet (o:=1) (Value.slice (some ⟨gg,0,none⟩) (c.n + 1) cap) (heapSet (o:=0) (Value.int .i64 c.e) HB.out)
 obtain ⟨a',c',hac,hii⟩:=ints_of_row (xs:=d.ps ++ [i]) (by rw [List.map_append]; exact HOW.out) (by omega) HRNG.out
 obtain ⟨rfl,rfl⟩ : some ⟨gg,0,none⟩ = a' ∧ cap = c':=by (injection hac with e1 _ e2; exact ⟨e1,e2⟩)
 refine bodyPost_ret (v:=.agg #[.int .i64 c.e,.slice (some ⟨gg,0,none⟩) (c.n + 1) cap]) (by simp [results,Tryz.results151,go_sem,cellOf h1]) rfl ⟨(⟨c.e,some ⟨gg,0,none⟩,c.n + 1,cap⟩ : SC),rfl,?_,⟨HE.out,HRE.out,?_⟩⟩
 ·exact ((HWB.out.trans (HS.out.mono HWB.out.size)).setCell (p:=⟨w.heap.size + 1,0,none⟩) (by dsimp only; omega) _).setCell (p:=⟨w.heap.size + 1,1,none⟩) (by dsimp only; omega) _
 ·refine hii.same fun b hb => ⟨⟨?_,by simpa [World.setCell] using hb.2⟩,(Below.heap_setCell _ _ _ _ ?_).trans (Below.heap_setCell _ _ _ _ ?_)⟩ <;> (have:=hb.1; simp at this ⊢; omega)
end
section
open Go Go.RowKit Go.Shelf
attribute [local go_sem] Oper.semAt_some
def shareN (M n i : Nat) : Nat:=M / n + if i < M % n then 1 else 0
def shareL (M n : Nat) : List (Nat × Nat):=(List.range n).map fun i => (i,shareN M n i)
theorem shareL_take (M n k : Nat) (h : k < n) : (shareL M n).take (k + 1) = (shareL M n).take k ++ [(k,shareN M n k)]:=by
 unfold shareL
 rw [← List.map_take,← List.map_take,List.take_range,List.take_range,Nat.min_eq_left (by omega),Nat.min_eq_left (by omega),List.range_succ,List.map_append]
 rfl
theorem shareL_len (M n : Nat) : (shareL M n).length = n:=by simp [shareL]
theorem shareN_le (M n i : Nat) (hM : M ≤ 1099511627776) : shareN M n i ≤ 1099511627777:=by
 unfold shareN
 have:=Nat.div_le_self M n
 split <;> omega
abbrev Sh (n : Nat):={ x : Nat × Nat // x.1 < n ∧ x.2 ≤ 1099511627777 }
def shEncs {n : Nat} (x : Sh n) : Array Value:=#[.int .i64 x.1.1,.int .i64 x.1.2]
def Kb (B1 B2 : Nat) (W W' : World) : Prop:=∀ (b : Nat) (o : Obj),b = B1 ∨ b = B2 → W.heap[b]? = some o → o.isCells = true → W'.heap[b]? = some o
theorem kb_b {B1 B2 : Nat} {w : World} (W : World) (l : Nat) (o o' : Obj) (hl : w.heap.size ≤ l) (h : W.heap[l]? = some o) (hc : o.isCells = false) (hw : o.isWalk = false) : Kb B1 B2 W (W.putObj l o'):=fun b o2 _ h2 hc2 => by
 refine (World.putObj_heap_other (fun e => ?_)).trans h2
 subst e
 rw [h] at h2; cases h2; rw [hc] at hc2; cases hc2
theorem shares_call (mass n : Int) (w : World) : Calls Tryz.prog 149 #[.int .i64 mass,.int .i64 n] w fun e w' => e = .returned (.func (.func 229) #[] #[.pointer (some ⟨w.heap.size + 1,0,none⟩),.pointer (some ⟨w.heap.size,0,none⟩)]) ∧
 (w.alloc (.cells #[.int .i64 mass] 3)).alloc (.cells #[.int .i64 n] 3) = w':=by
 go_enter Tryz.func149,Tryz.ntmps149
 go_wp2
 go_ret
 exact ⟨rfl,rfl⟩
set_option maxRecDepth 100000 in
set_option maxHeartbeats 4000000 in
theorem shares_stops (m B1 B2 M n : Nat) (w : World) (hM : M ≤ 1099511627776) (hn : n ≤ 1000000)
 (h1 : w.heap[B1]? = some (.cells #[.int .i64 n] 3 (0,0))) (h2 : w.heap[B2]? = some (.cells #[.int .i64 M] 3 (0,0))) :
 SeqStopsK Fence.wide m Tryz.prog 229 #[.pointer (some ⟨B1,0,none⟩),.pointer (some ⟨B2,0,none⟩)] (shEncs (n:=n)) (Kb B1 B2) (fun ys => ys.map Subtype.val = shareL M n) (fun ys => ys.map Subtype.val <+: shareL M n) n w:=by
 intro l J Jx W hW hJ hJx hY h0
 have b1:=heapExt hW h1
 have b2:=heapExt hW h2
 clear h1 h2
 have c1:=cellOf b1 0
 (try dsimp only at c1)
 refine callsIn_of_wp Tryz.func229 rfl trivial ?_ rfl
 simp only [Tryz.ntmps229,List.size_toArray,List.length_cons,List.length_nil,Nat.reduceAdd,Nat.reduceSub,Array.replicate_succ,Array.replicate_zero,List.push_toArray,List.append_toArray,List.nil_append,List.cons_append]
 gi_wp2
 gi_loopw [7] (fun i wr => ∃ (k : Nat) (ys : List (Sh n)),k ≤ n ∧ i = .int .i64 k ∧ ys.map Subtype.val = (shareL M n).take k ∧ J ys wr ∧ wr.heap[B1]? = some (.cells #[.int .i64 n] 3 (0,0)) ∧ wr.heap[B2]? = some (.cells #[.int .i64 M] 3 (0,0)))
  (fun i _ => n - (intOf i).toNat)
 case atStart => exact ⟨0,[],Nat.zero_le _,rfl,rfl,h0,b1,b2⟩
 case round =>
  obtain ⟨k,ys,hk,rfl,hys,hj,g1,g2⟩:=hrel
  have HYS:=hid hys
  clear hys
  clear c1
  have c1:=cellOf g1 0
  have c2:=cellOf g2 0
  (try dsimp only at c1 c2)
  have G:=hid (And.intro g1 g2)
  clear g1 g2 b1 b2
  by_cases hlt : k < n
  ·have hlt' : (k : Int) < (n : Int):=by omega
   have hlen : ys.length = k:=by
    have:=congrArg List.length HYS.out
    rw [List.length_map,List.length_take,shareL_len] at this
    omega
   have hx:=hY ys ⟨(k,shareN M n k),hlt,shareN_le M n k hM⟩ wr hj (by omega)
   have HST : Hid (((ys ++ [(⟨(k,shareN M n k),hlt,shareN_le M n k hM⟩ : Sh n)])).map Subtype.val = (shareL M n).take (k + 1)):=hid (by rw [List.map_append,HYS.out,shareL_take M n k hlt]; rfl)
   clear hlen
   obtain ⟨zs,hzs⟩ : ∃ zs,zs = ys ++ [(⟨(k,shareN M n k),hlt,shareN_le M n k hM⟩ : Sh n)]:=⟨_,rfl⟩
   rw [← hzs] at hx HST
   clear hzs
   simp only [shEncs] at hx
   have HX:=hid hx
   clear hx
   have hnz : ¬ (n : Int) = 0:=by omega
   obtain ⟨sq,hsq⟩ : ∃ sq,sq = M / n:=⟨_,rfl⟩
   have hq : wrap64 ((M : Int) / (n : Int)) = (sq : Int):=by
    rw [hsq,Int.natCast_ediv]
    have : ((M / n : Nat) : Int) ≤ M:=by exact_mod_cast Nat.div_le_self M n
    rw [Int.natCast_ediv] at this
    have h0 : (0 : Int) ≤ ((M / n : Nat) : Int):=Int.natCast_nonneg _
    rw [Int.natCast_ediv] at h0
    obtain ⟨z,hz⟩ : ∃ z : Int,z = (M : Int) / (n : Int):=⟨_,rfl⟩
    rw [← hz] at h0 this ⊢
    exact IntWalk.wrap64_in z (by have h5 : z ≤ (M : Int):=this; have h6 : (M : Int) ≤ 1099511627776:=Int.ofNat_le.2 hM; clear hY hj this; omega)
   have hsqb : (sq : Int) ≤ 1099511627776:=by have:=Nat.div_le_self M n; omega
   have HQ:=hid hq
   clear hq
   have HSQ:=hid hsq
   clear hsq
   obtain ⟨sh,hsh⟩ : ∃ sh,sh = shareN M n k:=⟨_,rfl⟩
   rw [← hsh] at HX
   have HSH:=hid hsh
   clear hsh
   gi_upto_region 4 with (fail)
   rw [HQ.out]
   by_cases r : k < M % n
   ·have hr : (k : Int) < (M : Int) % (n : Int):=by exact_mod_cast r
    have hs1:=hid (show sh = sq + 1 by rw [HSH.out,HSQ.out,shareN,if_pos r])
    clear r
    gi_upto_region 6 with (fail)
    rw [show (sq : Int) + 1 = (sh : Int) by rw [hs1.out]; push_cast; rfl]
    have hx:=HX.out
    obtain ⟨fn,tmps,assign,body,hy,hR⟩:=hx
    (try dsimp only at hy)
    have HR:=hid hR
    clear hR
    gi_wp2_with ((try refine ⟨fun h => (by cases h),?_⟩); refine HR.out.mono ?_; clear HR; rintro e W2 (⟨rfl,h4⟩ | ⟨rfl,h4⟩))
    ·go_roundw
     case rel => exact ⟨k + 1,zs,by omega,by go_num,HST.out,h4.1,h4.2 _ _ (.inl rfl) G.out.1 rfl,h4.2 _ _ (.inr rfl) G.out.2 rfl⟩
     case measure => simp [intOf]; omega
    ·exact bodyPost_ret (results_none rfl _ _ _) rfl ⟨⟨_,rfl⟩,.inr ⟨zs,by rw [HST.out]; exact List.take_prefix _ _,h4⟩⟩
   ·have hr : ¬ (k : Int) < (M : Int) % (n : Int):=by intro h; exact r (by exact_mod_cast h)
    have hs1:=hid (show sh = sq by rw [HSH.out,HSQ.out,shareN,if_neg r]; rfl)
    clear r
    gi_upto_region 6 with (fail)
    rw [show (sq : Int) = (sh : Int) by rw [hs1.out]]
    have hx:=HX.out
    obtain ⟨fn,tmps,assign,body,hy,hR⟩:=hx
    (try dsimp only at hy)
    have HR:=hid hR
    clear hR
    gi_wp2_with ((try refine ⟨fun h => (by cases h),?_⟩); refine HR.out.mono ?_; clear HR; rintro e W2 (⟨rfl,h4⟩ | ⟨rfl,h4⟩))
    ·go_roundw
     case rel => exact ⟨k + 1,zs,by omega,by go_num,HST.out,h4.1,h4.2 _ _ (.inl rfl) G.out.1 rfl,h4.2 _ _ (.inr rfl) G.out.2 rfl⟩
     case measure => simp [intOf]; omega
    ·exact bodyPost_ret (results_none rfl _ _ _) rfl ⟨⟨_,rfl⟩,.inr ⟨zs,by rw [HST.out]; exact List.take_prefix _ _,h4⟩⟩
  ·obtain rfl : k = n:=by omega
   gi_wp2
   go_end0
   exact ⟨⟨_,rfl⟩,.inl ⟨ys,by rw [HYS.out,List.take_of_length_le (by rw [shareL_len]; exact Nat.le_refl _)],hj⟩⟩
end
end Go.Proofs.YtkljbfaemahchaaGreatDoor
