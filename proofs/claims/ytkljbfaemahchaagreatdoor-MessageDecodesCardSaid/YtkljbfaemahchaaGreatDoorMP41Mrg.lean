/-
  MessageDecodes returns true for every text. Conditions: Tabs, ZTab, the variables that the library reads.
-/
import Derived.Test.YtkljbfaemahchaaGreatDoorMP38Mrg
import Derived.Test.YtkljbfaemahchaaGreatDoorMP40Mrg
import Derived.Test.YtkljbfaemahchaaGreatDoorMP9Mrg
import Derived.Lib.MinMax
namespace Go.Proofs.YtkljbfaemahchaaGreatDoor
set_option linter.unusedVariables false
set_option linter.unusedSimpArgs false
open Go Go.RowKit Go.Shelf
def zMcD : MC:=⟨⟨0,none,0,0⟩,0,none,0,0,⟨0,0,0,⟨#[]⟩,none,0,0,none,0,0⟩⟩
def zMsD : Msg:=⟨⟨0,[]⟩,0,[],nulV⟩
theorem zInts (S : Nat → Prop) (w : World) : IsInts S w none 0 0 []:=⟨rfl,Nat.le_refl _,by decide,fun x h => by (cases h),.inl rfl⟩
theorem zMsD_is (S : Nat → Prop) (w : World) : IsMsg S w zMcD zMsD :=
 ⟨⟨rfl,⟨by decide,by decide⟩,zInts S w⟩,rfl,⟨by decide,by decide⟩,zInts S w,⟨⟨rfl,rfl,rfl,rfl,⟨⟨by decide,by decide⟩,⟨by decide,by decide⟩,⟨by decide,by decide⟩,by decide,by decide,by decide,by decide,by decide⟩,rfl,rfl,rfl⟩,.inl rfl,.inl rfl⟩⟩
theorem mDecode_u (s : ByteArray) (w : World) (hs : s.size ≤ 100000) (h4 : ∀ a b c e,pieces 4 s = [a,b,c,e] → e.size ≤ 65536) (hT : Tabs w) (hZ : ZTab w) (hNV : NumVars w) :
 Calls Tryz.prog 36 #[.string s] w fun x w' => ∃ (c : MC) (d : Msg) (E : Int),x = .returned (.tuple #[c.v,.int .i64 E]) ∧ IsMsg (fun b => w.heap.size ≤ b ∧ b < w'.heap.size) w' c d ∧
  ((E = 0 ∧ decM s = some d) ∨ (E = 3 ∧ decM s = none ∧ d = zMsD)) ∧ Below w.heap.size w w' :=
 (mDecode_call s w hs h4 hT hZ hNV).mono fun x w' h => by
   rcases h.1 with ⟨c,d,h1,h2,h3⟩ | ⟨h1,h2⟩
   ·exact ⟨c,d,0,h2,h3,.inl ⟨rfl,h1⟩,h.2⟩
   ·exact ⟨zMcD,zMsD,3,h2,zMsD_is _ _,.inr ⟨rfl,h1,rfl⟩,h.2⟩
section
attribute [-go_sem] loadCellsFrom storeCells
attribute [local go_sem] lcf0 lcf1 lcf2 lcf3 lcf4 lcf5 stc0 stc1 stc2
set_option maxRecDepth 100000 in
set_option maxHeartbeats 16000000 in
theorem decodes_call (s : ByteArray) (w : World) (hT : Tabs w) (hZ : ZTab w) (hNV : NumVars w) :
 Calls Tryz.prog 8 #[.string s] w fun e w' => e = .returned (.bool true) ∧ Below w.heap.size w w':=by
 obtain ⟨m,hm⟩ : ∃ m : Nat,m = min s.size 600:=⟨_,rfl⟩
 have emin : min (s.size : Int) 600 = (m : Int):=by omega
 have hms : m ≤ s.size:=by omega
 have hms' : (m : Int) ≤ (s.size : Int):=by omega
 have hm0 : (0 : Int) ≤ (m : Int):=by omega
 obtain ⟨t,htt⟩ : ∃ t,s.extract 0 m = t:=⟨_,rfl⟩
 have ht : t.size ≤ 600:=by rw [← htt,ByteArray.size_extract]; omega
 have HD:=hid (mDecode_u t w (by omega) (fun a b c e h => by have:=pieces_size 4 t e (by rw [h]; simp); omega) hT hZ hNV)
 have HV:=hid (And.intro hT (And.intro hZ hNV))
 clear hm hms hT hZ hNV ht
 have hst:=fun (w0 : World) (c : MC) => stNew w0 66 #[.int .i64 0,.slice none 0 0,.int .i64 0,.slice none 0 0,.int .i64 0,.int .i64 0,.int .i64 0,.string ⟨#[]⟩,.slice none 0 0,.slice none 0 0] [.int .i64 c.st.e,.slice c.st.a c.st.n c.st.c,.int .i64 c.m,.slice c.a c.n c.c,.int .i64 c.b.k,.int .i64 c.b.i,.int .i64 c.b.s,.string c.b.t,.slice c.b.la c.b.ll c.b.lc,.slice c.b.fa c.b.fl c.b.fc] infoMs rfl (by simp [Value.oneCell'])
 go_enter Tryz.func8,Tryz.ntmps8
 go_upto_region 3 with (go_at_call 36; go_loud (refine HD.out.mono ?_); rintro e w1 ⟨c,d,E,rfl,hi,hE,hb1⟩; have HI:=hid hi; have HE:=hid hE; have HB1:=hid hb1; clear hi hE hb1)
 clear hst emin hms' hm0 htt
 obtain ⟨T,hT⟩ : ∃ T,T = w1.heap.size:=⟨_,rfl⟩
 obtain ⟨w2,hw2⟩ : ∃ w2,w2 = w1.alloc (.cells #[.int .i64 c.st.e,.slice c.st.a c.st.n c.st.c,.int .i64 c.m,.slice c.a c.n c.c,.int .i64 c.b.k,.int .i64 c.b.i,.int .i64 c.b.s,.string c.b.t,.slice c.b.la c.b.ll c.b.lc,.slice c.b.fa c.b.fl c.b.fc] 66):=⟨_,rfl⟩
 rw [← hw2,← hT]
 have hz2 : w2.heap[T]? = some (.cells #[.int .i64 c.st.e,.slice c.st.a c.st.n c.st.c,.int .i64 c.m,.slice c.a c.n c.c,.int .i64 c.b.k,.int .i64 c.b.i,.int .i64 c.b.s,.string c.b.t,.slice c.b.la c.b.ll c.b.lc,.slice c.b.fa c.b.fl c.b.fc] 66):=by rw [hw2,hT]; exact heap_alloc_new w1 _
 have hb2 : Below w.heap.size w w2:=by rw [hw2]; exact HB1.out.alloc HB1.out.size _
 have hi2 : IsMsg (· < w2.heap.size) w2 c d:=by
  rw [hw2]
  exact HI.out.same fun b hb => ⟨by rw [World.size_alloc]; omega,heap_alloc_old w1 _ _ hb.2⟩
 have HK:=hid (known_call w2 (HV.out.1.below hb2))
 have later : ∀ w3,Below w2.heap.size w2 w3 → w3.heap[T]? = some (.cells #[.int .i64 c.st.e,.slice c.st.a c.st.n c.st.c,.int .i64 c.m,.slice c.a c.n c.c,.int .i64 c.b.k,.int .i64 c.b.i,.int .i64 c.b.s,.string c.b.t,.slice c.b.la c.b.ll c.b.lc,.slice c.b.fa c.b.fl c.b.fc] 66) ∧ Below w.heap.size w w3 ∧ IsMsg (· < w3.heap.size) w3 c d:=fun w3 h =>
  ⟨heapExt h hz2,hb2.trans (h.mono hb2.size),hi2.same fun b hb => ⟨Nat.lt_of_lt_of_le hb h.size,h.block b hb⟩⟩
 have HL:=hid later
 clear hT hw2 hz2 hb2 hi2 later
 go_upto_region 5 with (go_at_call 37; refine HK.out.mono ?_; rintro e w3 ⟨rfl,hb3⟩; have HB3:=hid hb3; clear hb3)
 obtain ⟨m3,b3,i3⟩:=HL.out w3 HB3.out
 have hl10:=ldAll (P:=Tryz.prog) (vs:=[.int .i64 c.st.e,.slice c.st.a c.st.n c.st.c,.int .i64 c.m,.slice c.a c.n c.c,.int .i64 c.b.k,.int .i64 c.b.i,.int .i64 c.b.s,.string c.b.t,.slice c.b.la c.b.ll c.b.lc,.slice c.b.fa c.b.fl c.b.fc]) m3
 have hl10' : (loadCellsFrom ⟨T,0,none⟩ 0 10 #[]).run Tryz.prog w3 = .ok #[.int .i64 c.st.e,.slice c.st.a c.st.n c.st.c,.int .i64 c.m,.slice c.a c.n c.c,.int .i64 c.b.k,.int .i64 c.b.i,.int .i64 c.b.s,.string c.b.t,.slice c.b.la c.b.ll c.b.lc,.slice c.b.fa c.b.fl c.b.fc] w3:=hl10
 have hen:=mEncG_call c d w3 i3 (HV.out.1.below b3) (HV.out.2.1.below b3)
 have hsm:=same_call c zMcD d zMsD w3 i3 (zMsD_is _ _)
 dsimp only [zMcD] at hsm
 have HEN:=hid hen
 have HSM:=hid hsm
 have HB:=hid b3
 clear hl10 m3 i3 hen hsm b3
 rcases HE.out with ⟨rfl,hd⟩ | ⟨rfl,hd,hz⟩
 ·have hx:=decM_enc hd
  have he:=HEN.out
  rw [hx] at he
  have HEN2:=hid he
  clear hx he hd HEN HSM HE
  go_wp2_with (go_at_call 39; refine HEN2.out.mono ?_; rintro e w4 ⟨rfl,hb4⟩)
  go_ret
  exact ⟨rfl,HB.out.trans (hb4.mono HB.out.size)⟩
 ·have he:=HSM.out
  rw [hz] at he
  have e1 : msgEqB zMsD zMsD = true:=msgEqB_refl _
  rw [e1] at he
  have HSM2:=hid he
  clear e1 he hd hz HEN HSM HE
  go_wp2_with (go_at_call 38; refine HSM2.out.mono ?_; rintro e w4 ⟨rfl,hb4⟩)
  go_ret
  exact ⟨rfl,HB.out.trans (hb4.mono HB.out.size)⟩
end
end Go.Proofs.YtkljbfaemahchaaGreatDoor
