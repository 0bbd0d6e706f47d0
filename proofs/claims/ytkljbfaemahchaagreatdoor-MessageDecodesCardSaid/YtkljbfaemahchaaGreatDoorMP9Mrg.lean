/-
  Equality: manifoldlaw29.sameStamp, manifoldlaw29.same, value.Equal, stamp.Compare's and message.Equal's parts. Condition: all can be read as data.
-/
import Derived.Test.YtkljbfaemahchaaGreatDoorMP8Mrg
import Derived.Test.YtkljbfaemahchaaGreatDoorMP4Mrg
namespace Go.Proofs.YtkljbfaemahchaaGreatDoor
set_option linter.unusedVariables false
set_option linter.unusedSimpArgs false
section
open Go Go.RowKit Go.Shelf
abbrev sObj (c : SC) : Obj:=.cells #[.int .i64 c.e,.slice c.a c.n c.c] 64
def stEqB (d d2 : St) : Bool:=decide (d.e = d2.e ∧ d.ps = d2.ps)
theorem list_eq_of {xs ys : List Int} (hl : xs.length = ys.length) (h : ∀ j (h1 : j < xs.length) (h2 : j < ys.length),xs[j] = ys[j]) : xs = ys:=List.ext_getElem hl h
set_option maxRecDepth 100000 in
set_option maxHeartbeats 4000000 in
theorem sameStamp_call (c c2 : SC) (d d2 : St) (w : World) (hd : IsSt (· < w.heap.size) w c d) (hd2 : IsSt (· < w.heap.size) w c2 d2) :
 Calls Tryz.prog 88 #[c.v,c2.v] w fun e w' => e = .returned (.bool (stEqB d d2)) ∧ Below w.heap.size w w':=by
 obtain ⟨e1,a,n,cap⟩:=c
 obtain ⟨e2,a2,n2,cap2⟩:=c2
 obtain ⟨de,ps⟩:=d
 obtain ⟨de2,ps2⟩:=d2
 obtain ⟨h1,_,hps⟩:=hd
 obtain ⟨h2,_,hps2⟩:=hd2
 dsimp only at h1 h2 hps hps2 ⊢
 subst h1 h2
 have hbig:=hps.big
 have hbig2:=hps2.big
 have HWB : Hid (Below w.heap.size w ((w.alloc (.cells #[.int .i64 e1,.slice a n cap] 64)).alloc (.cells #[.int .i64 e2,.slice a2 n2 cap2] 64))):=hid (((Below.refl _ w).alloc (Nat.le_refl _) _).alloc (by simp) _)
 obtain ⟨wb,hwb⟩ : ∃ wb,wb = ((w.alloc (.cells #[.int .i64 e1,.slice a n cap] 64)).alloc (.cells #[.int .i64 e2,.slice a2 n2 cap2] 64)):=⟨_,rfl⟩
 have hc : ∀ w',Below wb.heap.size wb w' → (w'.cell? ⟨w.heap.size,0,none⟩ = some (.int .i64 e1) ∧ w'.cell? ⟨w.heap.size,1,none⟩ = some (.slice a n cap) ∧ w'.cell? ⟨w.heap.size + 1,0,none⟩ = some (.int .i64 e2) ∧ w'.cell? ⟨w.heap.size + 1,1,none⟩ = some (.slice a2 n2 cap2)) ∧ IsInts (fun b => b < w.heap.size) w' a n cap ps ∧ IsInts (fun b => b < w.heap.size) w' a2 n2 cap2 ps2 ∧ Below w.heap.size w w':=fun w' h => by
  rw [hwb] at h
  have hb:=HWB.out.trans (h.mono HWB.out.size)
  have g1 : w'.heap[w.heap.size]? = some (sObj ⟨e1,a,n,cap⟩):=heapExt h (heapAlloc _ (heap_alloc_new w _))
  have g2 : w'.heap[w.heap.size + 1]? = some (sObj ⟨e2,a2,n2,cap2⟩):=heapExt h (heapNewAt _ _ _ (by simp))
  exact ⟨⟨cellOf g1 0,cellOf g1 1,cellOf g2 0,cellOf g2 1⟩,hps.same fun b q => ⟨q,hb.block b q⟩,hps2.same fun b q => ⟨q,hb.block b q⟩,hb⟩
 have h0:=(hc _ (Below.refl _ _)).1
 have HC:=hid hc
 have HL:=hid hps.len
 have HL2:=hid hps2.len
 rw [hwb] at h0
 obtain ⟨k0,k1,k2,k3⟩:=h0
 clear hc hps hps2
 go_enter Tryz.func88,Tryz.ntmps88
 by_cases q1 : e1 = e2
 ·subst q1
  by_cases q2 : n = n2
  ·subst q2
   go_wp2
   rw [← hwb]
   have HWBE:=hid hwb
   clear hwb k0 k1 k2 k3
   go_loopw [5] (fun i wr => ∃ k : Nat,k ≤ n ∧ i = .int .i64 k ∧ (∀ j (h1 : j < ps.length) (h2 : j < ps2.length),j < k → ps[j] = ps2[j]) ∧ Below wb.heap.size wb wr) (fun i _ => n - (intOf i).toNat)
   case atStart => exact ⟨0,Nat.zero_le _,rfl,fun j _ _ h => absurd h (Nat.not_lt_zero j),Below.refl _ _⟩
   case round =>
    obtain ⟨k,hk,rfl,hall,hbr⟩:=hrel
    have HA:=hid hall
    clear hall
    obtain ⟨⟨k0,k1,k2,k3⟩,hx,hy,hbw⟩:=HC.out wr hbr
    have HX:=hid hx
    have HY:=hid hy
    clear hx hy
    have hn63 : (n : Int) ≤ 9223372036854775807:=by omega
    by_cases hlt : k < n
    ·obtain ⟨b,o,rfl,_,hcx⟩:=HX.out.slot (show 0 < n by omega)
     obtain ⟨b',o',rfl,_,hcy⟩:=HY.out.slot (show 0 < n by omega)
     have hkl : k < ps.length:=by have:=HL.out; omega
     have hkl2 : k < ps2.length:=by have:=HL2.out; omega
     have hx0:=hcx k hkl
     have hy0:=hcy k hkl2
     clear hcx hcy
     have hlt' : (k : Int) < (n : Int):=by omega
     have hk0 : (0 : Int) ≤ (k : Int):=by omega
     obtain ⟨x,hxx⟩ : ∃ x,x = ps[k]:=⟨_,rfl⟩
     obtain ⟨y,hyy⟩ : ∃ y,y = ps2[k]:=⟨_,rfl⟩
     rw [← hxx] at hx0
     rw [← hyy] at hy0
     have HXX:=hid hxx
     have HYY:=hid hyy
     clear hxx hyy
     by_cases hxy : x = y
     ·subst hxy
      go_upto_region 6 with (fail)
      go_quiet (fail)
      go_wp2
      go_roundw
      case rel => exact ⟨k + 1,by omega,by go_num,fun j h1 h2 h => by
       by_cases hjk : j < k
       ·exact HA.out j h1 h2 hjk
       ·obtain rfl : j = k:=by omega
        rw [← HXX.out,← HYY.out],by first | exact hbr | exact below_drewN hbr _⟩
      case measure => simp [intOf]; omega
     ·have r:=hid (show stEqB ⟨e1,ps⟩ ⟨e1,ps2⟩ = false by
       rw [stEqB,decide_eq_false_iff_not]
       rintro ⟨_,h⟩
       dsimp only at h
       exact hxy (by rw [HXX.out,HYY.out]; simp only [h]))
      go_upto_region 6 with (fail)
      go_quiet (fail)
      go_wp2
      go_ret
      exact ⟨by rw [r.out]; rfl,by first | exact hbw | exact below_drewN hbw _⟩
    ·obtain rfl : k = n:=by omega
     have r:=hid (show stEqB ⟨e1,ps⟩ ⟨e1,ps2⟩ = true by
      rw [stEqB,decide_eq_true_iff]
      exact ⟨rfl,show ps = ps2 from list_eq_of (HL.out.symm.trans HL2.out) fun j h1 h2 => HA.out j h1 h2 (by have:=HL.out; omega)⟩)
     go_wp2
     go_ret
     exact ⟨by rw [r.out]; rfl,hbw⟩
  ·have r:=hid (show stEqB ⟨e1,ps⟩ ⟨e1,ps2⟩ = false by
    rw [stEqB,decide_eq_false_iff_not]
    rintro ⟨_,h⟩
    dsimp only at h
    exact q2 (by rw [HL.out,HL2.out,h]))
   have q2' : ¬ (n : Int) = (n2 : Int):=by omega
   go_wp2
   go_ret
   exact ⟨by rw [r.out]; rfl,HWB.out⟩
 ·have r:=hid (show stEqB ⟨e1,ps⟩ ⟨e2,ps2⟩ = false by
   rw [stEqB,decide_eq_false_iff_not]
   exact fun h => q1 h.1)
  go_wp2
  go_ret
  exact ⟨by rw [r.out]; rfl,HWB.out⟩
set_option maxRecDepth 100000 in
theorem valEqual_call (c c2 : VC) (d d2 : Val) (w : World) (hd : IsVal (· < w.heap.size) w c d) (hd2 : IsVal (· < w.heap.size) w c2 d2) :
 Calls Tryz.prog 32 #[c.v,c2.v] w fun e w' => e = .returned (.bool (cmpV d d2 == 0)) ∧ Below w.heap.size w w':=by
 obtain ⟨wb,hwb⟩ : ∃ wb,wb = ((w.alloc (vObj c)).alloc (vObj c2)):=⟨_,rfl⟩
 have hb : Below w.heap.size w wb:=by rw [hwb]; exact ((Below.refl _ w).alloc (Nat.le_refl _) _).alloc (by simp) _
 have hs:=hb.size
 have hc:=compare_call c c2 d d2 wb (hd.same fun b q => ⟨by omega,hb.block b q⟩) (hd2.same fun b q => ⟨by omega,hb.block b q⟩)
 have HB:=hid hb
 rw [hwb] at hc
 have HWB:=hid hwb
 have HC:=hid hc
 clear hwb hb hc hs hd hd2
 go_enter Tryz.func32,Tryz.ntmps32
 go_wp2_with (go_at_call 82; refine HC.out.mono ?_; rintro e w1 ⟨rfl,hb1⟩)
 go_ret
 rw [← HWB.out] at hb1
 exact ⟨rfl,HB.out.trans (hb1.mono HB.out.size)⟩
end
section
open Go Go.RowKit Go.Shelf
def msgEqB (d d2 : Msg) : Bool:=stEqB d.st d2.st && (decide (d.m = d2.m) && (decide (d.es = d2.es) && (cmpV d.b d2.b == 0)))
structure TwoAt (w w1 : World) (c c2 : MC) (d d2 : Msg) : Prop where
 t1 : Ten w1 w.heap.size c
 t2 : Ten w1 (w.heap.size + 1) c2
 bel : Below w.heap.size w w1
 st : Calls Tryz.prog 88 #[.agg #[.int .i64 c.st.e,.slice c.st.a c.st.n c.st.c],.agg #[.int .i64 c2.st.e,.slice c2.st.a c2.st.n c2.st.c]] w1 fun e w' => e = .returned (.bool (stEqB d.st d2.st)) ∧ Below w1.heap.size w1 w'
 val : Calls Tryz.prog 32 #[.agg #[.int .i64 c.b.k,.int .i64 c.b.i,.int .i64 c.b.s,.string c.b.t,.slice c.b.la c.b.ll c.b.lc,.slice c.b.fa c.b.fl c.b.fc],.agg #[.int .i64 c2.b.k,.int .i64 c2.b.i,.int .i64 c2.b.s,.string c2.b.t,.slice c2.b.la c2.b.ll c2.b.lc,.slice c2.b.fa c2.b.fl c2.b.fc]] w1
  fun e w' => e = .returned (.bool (cmpV d.b d2.b == 0)) ∧ Below w1.heap.size w1 w'
 es : IsInts (· < w1.heap.size) w1 c.a c.n c.c d.es
 es2 : IsInts (· < w1.heap.size) w1 c2.a c2.n c2.c d2.es
theorem twoAt (c c2 : MC) (d d2 : Msg) (w : World) (hd : IsMsg (· < w.heap.size) w c d) (hd2 : IsMsg (· < w.heap.size) w c2 d2) (w1 : World) (hb : Below ((w.alloc (mObj c)).alloc (mObj c2)).heap.size ((w.alloc (mObj c)).alloc (mObj c2)) w1) : TwoAt w w1 c c2 d d2:=by
 have hb0 : Below w.heap.size w ((w.alloc (mObj c)).alloc (mObj c2)):=((Below.refl _ w).alloc (Nat.le_refl _) _).alloc (by simp) _
 have hbw : Below w.heap.size w w1:=hb0.trans (hb.mono hb0.size)
 have hd1 : IsMsg (· < w1.heap.size) w1 c d:=hd.same fun b h => ⟨Nat.lt_of_lt_of_le h hbw.size,hbw.block b h⟩
 have hd3 : IsMsg (· < w1.heap.size) w1 c2 d2:=hd2.same fun b h => ⟨Nat.lt_of_lt_of_le h hbw.size,hbw.block b h⟩
 exact ⟨tenOf (heapExt hb (heapAlloc _ (heap_alloc_new w _))),tenOf (heapExt hb (heapNewAt _ _ _ (by simp))),hbw,sameStamp_call _ _ _ _ w1 hd1.st hd3.st,valEqual_call _ _ _ _ w1 hd1.b hd3.b,hd1.es,hd3.es⟩
set_option maxRecDepth 100000 in
set_option maxHeartbeats 8000000 in
theorem same_call (c c2 : MC) (d d2 : Msg) (w : World) (hd : IsMsg (· < w.heap.size) w c d) (hd2 : IsMsg (· < w.heap.size) w c2 d2) :
 Calls Tryz.prog 38 #[c.v,c2.v] w fun e w' => e = .returned (.bool (msgEqB d d2)) ∧ Below w.heap.size w w':=by
 have hm:=twoAt c c2 d d2 w hd hd2
 have hbig:=hd.es.big
 have hbig2:=hd2.es.big
 have HL:=hid hd.es.len
 have HL2:=hid hd2.es.len
 have hq:=hid (show msgEqB d d2 = (stEqB d.st d2.st && (decide (c.m = c2.m) && (decide (d.es = d2.es) && (cmpV d.b d2.b == 0)))) by rw [msgEqB,hd.m,hd2.m])
 clear hd hd2
 obtain ⟨⟨ce,sa,sn,sc⟩,m,a,n,cap,⟨k,i',s,t,la,ll,lc,fa,fl,fc⟩⟩:=c
 obtain ⟨⟨ce2,sa2,sn2,sc2⟩,m2,a2,n2,cap2,⟨k2,i2,s2,t2,la2,ll2,lc2,fa2,fl2,fc2⟩⟩:=c2
 dsimp only at hm hbig hbig2 HL HL2 hq
 obtain ⟨u,hu⟩ : ∃ u,u = stEqB d.st d2.st:=⟨_,rfl⟩
 obtain ⟨v,hv⟩ : ∃ v,v = (cmpV d.b d2.b == 0):=⟨_,rfl⟩
 rw [← hu,← hv] at hq
 obtain ⟨wb,hwb⟩ : ∃ wb,wb = ((w.alloc (mObj ⟨⟨ce,sa,sn,sc⟩,m,a,n,cap,⟨k,i',s,t,la,ll,lc,fa,fl,fc⟩⟩)).alloc (mObj ⟨⟨ce2,sa2,sn2,sc2⟩,m2,a2,n2,cap2,⟨k2,i2,s2,t2,la2,ll2,lc2,fa2,fl2,fc2⟩⟩)):=⟨_,rfl⟩
 rw [← hwb] at hm
 have hst : ∀ w1,Below wb.heap.size wb w1 → Calls Tryz.prog 88 #[.agg #[.int .i64 ce,.slice sa sn sc],.agg #[.int .i64 ce2,.slice sa2 sn2 sc2]] w1 fun e w' => e = .returned (.bool u) ∧ Below w1.heap.size w1 w':=fun w1 h => by rw [hu]; exact (hm w1 h).st
 have hvl : ∀ w1,Below wb.heap.size wb w1 → Calls Tryz.prog 32 #[.agg #[.int .i64 k,.int .i64 i',.int .i64 s,.string t,.slice la ll lc,.slice fa fl fc],.agg #[.int .i64 k2,.int .i64 i2,.int .i64 s2,.string t2,.slice la2 ll2 lc2,.slice fa2 fl2 fc2]] w1
  fun e w' => e = .returned (.bool v) ∧ Below w1.heap.size w1 w':=fun w1 h => by rw [hv]; exact (hm w1 h).val
 have HM:=hid hm
 have HST:=hid (hst _ (Below.refl _ _))
 have HVL:=hid hvl
 have h0:=hm _ (Below.refl _ _)
 have h0a:=h0.t1
 have h0b:=h0.t2
 clear hm hst hvl hu hv h0
 dsimp only [Ten] at h0a h0b
 rw [hwb] at h0a h0b HST
 obtain ⟨e0,e1,e2,e3,e4,e5,e6,e7,e8,e9⟩:=h0a
 obtain ⟨f0,f1,f2,f3,f4,f5,f6,f7,f8,f9⟩:=h0b
 dsimp only [MC.v]
 go_enter Tryz.func38,Tryz.ntmps38
 cases u with
 | false =>
   go_wp2_with (go_at_call 88; refine HST.out.mono ?_; rintro e w1 ⟨rfl,hb1⟩; rw [← hwb] at hb1; have hbw:=(HM.out w1 hb1).bel)
   go_ret
   exact ⟨by rw [hq.out]; rfl,hbw⟩
 | true =>
 by_cases q1 : m = m2
 ·subst q1
  by_cases q2 : n = n2
  ·subst q2
   cases v with
   | false =>
     have r:=hid (show msgEqB d d2 = false by rw [hq.out]; simp)
     go_wp2_with (first
      | (go_at_call 88; refine HST.out.mono ?_; rintro e w1 ⟨rfl,hb1⟩; rw [← hwb] at hb1; have hm1:=HM.out w1 hb1; have hbw:=hm1.bel; have t1:=hm1.t1; have t2:=hm1.t2; clear hm1; dsimp only [Ten] at t1 t2; obtain ⟨j0,j1,j2,j3,j4,j5,j6,j7,j8,j9⟩:=t1; obtain ⟨l0,l1,l2,l3,l4,l5,l6,l7,l8,l9⟩:=t2)
      | (go_at_call 32; refine (HVL.out _ hb1).mono ?_; rintro e w2 ⟨rfl,hb2⟩))
     go_ret
     exact ⟨by rw [r.out]; rfl,hbw.trans (hb2.mono hbw.size)⟩
   | true =>
     have r:=hid (show msgEqB d d2 = decide (d.es = d2.es) by rw [hq.out]; simp)
     go_wp2_with (first
      | (go_at_call 88; refine HST.out.mono ?_; rintro e w1 ⟨rfl,hb1⟩; rw [← hwb] at hb1; have hm1:=HM.out w1 hb1; have hbw:=hm1.bel; have t1:=hm1.t1; have t2:=hm1.t2; clear hm1; dsimp only [Ten] at t1 t2; obtain ⟨j0,j1,j2,j3,j4,j5,j6,j7,j8,j9⟩:=t1; obtain ⟨l0,l1,l2,l3,l4,l5,l6,l7,l8,l9⟩:=t2)
      | (go_at_call 32; refine (HVL.out _ hb1).mono ?_; rintro e w2 ⟨rfl,hb2⟩))
     have hb12:=hb1.trans (hb2.mono hb1.size)
     clear j0 j1 j2 j3 j4 j5 j6 j7 j8 j9 l0 l1 l2 l3 l4 l5 l6 l7 l8 l9 e0 e1 e2 e3 e4 e5 e6 e7 e8 e9 f0 f1 f2 f3 f4 f5 f6 f7 f8 f9 hb1 hb2 hbw
     go_loopw [5] (fun i wr => ∃ q : Nat,q ≤ n ∧ i = .int .i64 q ∧ (∀ j (h1 : j < d.es.length) (h2 : j < d2.es.length),j < q → d.es[j] = d2.es[j]) ∧ Below wb.heap.size wb wr) (fun i _ => n - (intOf i).toNat)
     case atStart => exact ⟨0,Nat.zero_le _,rfl,fun j _ _ h => absurd h (Nat.not_lt_zero j),hb12⟩
     case round =>
      obtain ⟨q,hq',rfl,hall,hbr⟩:=hrel
      have HA:=hid hall
      clear hall hb12
      have hm1:=HM.out wr hbr
      have hbw:=hm1.bel
      have t1:=hm1.t1
      have t2:=hm1.t2
      have HX:=hid hm1.es
      have HY:=hid hm1.es2
      clear hm1
      dsimp only [Ten] at t1 t2
      obtain ⟨j0,j1,j2,j3,_⟩:=t1
      obtain ⟨l0,l1,l2,l3,_⟩:=t2
      have hn63 : (n : Int) ≤ 9223372036854775807:=by omega
      by_cases hlt : q < n
      ·obtain ⟨b,o,rfl,_,hcx⟩:=HX.out.slot (show 0 < n by omega)
       obtain ⟨b',o',rfl,_,hcy⟩:=HY.out.slot (show 0 < n by omega)
       have hkl : q < d.es.length:=by have:=HL.out; omega
       have hkl2 : q < d2.es.length:=by have:=HL2.out; omega
       have hx0:=hcx q hkl
       have hy0:=hcy q hkl2
       clear hcx hcy
       have hlt' : (q : Int) < (n : Int):=by omega
       have hk0 : (0 : Int) ≤ (q : Int):=by omega
       obtain ⟨x,hxx⟩ : ∃ x,x = d.es[q]:=⟨_,rfl⟩
       obtain ⟨y,hyy⟩ : ∃ y,y = d2.es[q]:=⟨_,rfl⟩
       rw [← hxx] at hx0
       rw [← hyy] at hy0
       have HXX:=hid hxx
       have HYY:=hid hyy
       clear hxx hyy
       by_cases hxy : x = y
       ·subst hxy
        go_upto_region 6 with (fail)
        go_quiet (fail)
        go_wp2
        go_roundw
        case rel => exact ⟨q + 1,by omega,by go_num,fun j h1 h2 h => by
         by_cases hjk : j < q
         ·exact HA.out j h1 h2 hjk
         ·obtain rfl : j = q:=by omega
          rw [← HXX.out,← HYY.out],by first | exact hbr | exact below_drewN hbr _⟩
        case measure => simp [intOf]; omega
       ·have r2:=hid (show msgEqB d d2 = false by
         rw [r.out,decide_eq_false_iff_not]
         intro h
         exact hxy (by rw [HXX.out,HYY.out]; simp only [h]))
        go_upto_region 6 with (fail)
        go_quiet (fail)
        go_wp2
        go_ret
        exact ⟨by rw [r2.out]; rfl,by first | exact hbw | exact below_drewN hbw _⟩
      ·obtain rfl : q = n:=by omega
       have r2:=hid (show msgEqB d d2 = true by
        rw [r.out,decide_eq_true_iff]
        exact list_eq_of (HL.out.symm.trans HL2.out) fun j h1 h2 => HA.out j h1 h2 (by have:=HL.out; omega))
       go_wp2
       go_ret
       exact ⟨by rw [r2.out]; rfl,hbw⟩
  ·have r:=hid (show msgEqB d d2 = false by
    have : ¬ d.es = d2.es:=fun h => q2 (by rw [HL.out,HL2.out,h])
    rw [hq.out,decide_eq_false this]; simp)
   have q2' : ¬ (n : Int) = (n2 : Int):=by omega
   go_wp2_with (go_at_call 88; refine HST.out.mono ?_; rintro e w1 ⟨rfl,hb1⟩; rw [← hwb] at hb1; have hm1:=HM.out w1 hb1; have hbw:=hm1.bel; have t1:=hm1.t1; have t2:=hm1.t2; clear hm1; dsimp only [Ten] at t1 t2; obtain ⟨j0,j1,j2,j3,j4,j5,j6,j7,j8,j9⟩:=t1; obtain ⟨l0,l1,l2,l3,l4,l5,l6,l7,l8,l9⟩:=t2)
   go_ret
   exact ⟨by rw [r.out]; rfl,hbw⟩
 ·have r:=hid (show msgEqB d d2 = false by rw [hq.out,decide_eq_false q1]; simp)
  go_wp2_with (go_at_call 88; refine HST.out.mono ?_; rintro e w1 ⟨rfl,hb1⟩; rw [← hwb] at hb1; have hm1:=HM.out w1 hb1; have hbw:=hm1.bel; have t1:=hm1.t1; have t2:=hm1.t2; clear hm1; dsimp only [Ten] at t1 t2; obtain ⟨j0,j1,j2,j3,j4,j5,j6,j7,j8,j9⟩:=t1; obtain ⟨l0,l1,l2,l3,l4,l5,l6,l7,l8,l9⟩:=t2)
  go_ret
  exact ⟨by rw [r.out]; rfl,hbw⟩
end
section
open Go Go.RowKit
theorem cmpInt_refl (x : Int) : Lib.compareInt x x = 0:=by simp [Lib.compareInt]
theorem cmpInt_zero {x y : Int} (h : Lib.compareInt x y = 0) : x = y:=by
 unfold Lib.compareInt at h
 repeat' split at h
 all_goals first | omega | cases h
theorem cmpB_refl : ∀ (xs : List UInt8),Lib.compareBytes xs xs = 0
 | [] => rfl
 | a :: r => by
   rw [Lib.compareBytes,if_neg (by simp),if_neg (by simp)]
   exact cmpB_refl r
mutual
theorem cmpV_refl : ∀ (d : Val),cmpV d d = 0
 | .mk k i s t l ns fs => by
   rw [cmpV,cmpInt_refl,cmpInt_refl,cmpInt_refl,cmpB_refl,cmpVs_refl l,cmpFs_refl fs ns]
   rfl
theorem cmpVs_refl : ∀ (l : List Val),cmpVs l l = 0
 | [] => rfl
 | d :: l => by
   rw [cmpVs,cmpV_refl d,if_neg (by simp)]
   exact cmpVs_refl l
theorem cmpFs_refl : ∀ (l : List Val) (ns : List ByteArray),cmpFs ns l ns l = 0
 | [],ns => by rw [cmpFs]
 | d :: l,ns => by
   rw [cmpFs,cmpB_refl,cmpV_refl d,if_neg (by simp [orL])]
   exact cmpFs_refl l ns.tail
end
theorem stEqB_refl (d : St) : stEqB d d = true:=by simp [stEqB]
theorem msgEqB_refl (d : Msg) : msgEqB d d = true:=by simp [msgEqB,stEqB_refl,cmpV_refl]
end
section
open Go Go.RowKit
theorem orL_cons (x : Int) (r : List Int) : orL (x :: r) = 0 ↔ x = 0 ∧ orL r = 0:=by
 rw [orL]
 by_cases h : x = 0
 ·simp [h]
 ·simp [h]
theorem cmpB_zero : ∀ {xs ys : List UInt8},Lib.compareBytes xs ys = 0 → xs = ys
 | [],[],_ => rfl
 | [],_ :: _,h => by simp [Lib.compareBytes] at h
 | _ :: _,[],h => by simp [Lib.compareBytes] at h
 | a :: r,b :: q,h => by
   rw [Lib.compareBytes] at h
   split at h
   ·simp at h
   ·rename_i h1
    split at h
    ·simp at h
    ·rename_i h2
     have hab : a = b:=UInt8.le_antisymm (UInt8.not_lt.1 h2) (UInt8.not_lt.1 h1)
     rw [hab,cmpB_zero h]
mutual
theorem cmpV_symm : ∀ (d d2 : Val),cmpV d d2 = 0 → cmpV d2 d = 0
 | .mk k i s t l ns fs,.mk k' i' s' t' l' ns' fs',h => by
   rw [cmpV] at h ⊢
   simp only [orL_cons] at h ⊢
   obtain ⟨h1,h2,h3,h4,h5,h6,h7⟩:=h
   refine ⟨?_,?_,?_,?_,cmpVs_symm l l' h5,cmpFs_symm fs ns ns' fs' h6,h7⟩
   ·rw [cmpInt_zero h1,cmpInt_refl]
   ·rw [cmpInt_zero h2,cmpInt_refl]
   ·rw [cmpInt_zero h3,cmpInt_refl]
   ·rw [cmpB_zero h4,cmpB_refl]
theorem cmpVs_symm : ∀ (l l' : List Val),cmpVs l l' = 0 → cmpVs l' l = 0
 | [],[],_ => rfl
 | [],_ :: _,h => by rw [cmpVs] at h; cases h
 | _ :: _,[],h => by rw [cmpVs] at h; cases h
 | d :: l,d' :: l',h => by
   rw [cmpVs] at h ⊢
   by_cases h1 : cmpV d d' = 0
   ·rw [if_neg (by simpa using h1)] at h
    rw [if_neg (by simpa using cmpV_symm d d' h1)]
    exact cmpVs_symm l l' h
   ·rw [if_pos h1] at h
    exact absurd h h1
theorem cmpFs_symm : ∀ (l : List Val) (ns ns' : List ByteArray) (l' : List Val),cmpFs ns l ns' l' = 0 → cmpFs ns' l' ns l = 0
 | [],ns,ns',[],_ => by rw [cmpFs]
 | [],ns,ns',_ :: _,h => by rw [cmpFs] at h; cases h
 | _ :: _,ns,ns',[],h => by rw [cmpFs] at h; cases h
 | d :: l,ns,ns',d' :: l',h => by
   rw [cmpFs] at h ⊢
   by_cases h1 : orL [Lib.compareBytes (ns.headD ByteArray.empty).data.toList (ns'.headD ByteArray.empty).data.toList,cmpV d d'] = 0
   ·rw [if_neg (by simpa using h1)] at h
    simp only [orL_cons] at h1
    obtain ⟨h2,h3,h4⟩:=h1
    have h5 : orL [Lib.compareBytes (ns'.headD ByteArray.empty).data.toList (ns.headD ByteArray.empty).data.toList,cmpV d' d] = 0:=by
     simp only [orL_cons]
     exact ⟨by rw [cmpB_zero h2,cmpB_refl],cmpV_symm d d' h3,h4⟩
    rw [if_neg (fun h => h h5)]
    exact cmpFs_symm l ns.tail ns'.tail l' h
   ·rw [if_pos h1] at h
    exact absurd h h1
end
end
section
open Go Go.RowKit
def lex (x y : Int) : Int:=if x ≠ 0 then x else y
theorem orL_lex (x : Int) (r : List Int) : orL (x :: r) = lex x (orL r):=rfl
theorem lex_neg {x y x' y' : Int} (h : x' = -x) (h' : y' = -y) : lex x' y' = -lex x y:=by
 subst h; subst h'; unfold lex; split <;> split <;> omega
def Tri (x y z : Int) : Prop:=(x ≤ 0 → y ≤ 0 → z ≤ 0) ∧ (z ≤ 0 → 0 ≤ y → x ≤ 0) ∧ (0 ≤ x → z ≤ 0 → y ≤ 0) ∧ (y ≤ 0 → 0 ≤ z → 0 ≤ x) ∧ (0 ≤ z → x ≤ 0 → 0 ≤ y) ∧ (0 ≤ y → 0 ≤ x → 0 ≤ z)
theorem lex_tri {x y z x' y' z' : Int} (h : Tri x y z) (h' : Tri x' y' z') : Tri (lex x x') (lex y y') (lex z z'):=by
 unfold Tri at *
 unfold lex
 by_cases hx : x = 0 <;> by_cases hy : y = 0 <;> by_cases hz : z = 0 <;> simp only [hx,hy,hz,ne_eq,not_true_eq_false,not_false_eq_true,if_true,if_false] <;> first | exact h' | omega
def Sg (x : Int) : Prop:=x = -1 ∨ x = 0 ∨ x = 1
theorem lex_sg {x y : Int} (h : Sg x) (h' : Sg y) : Sg (lex x y):=by unfold lex; split <;> assumption
theorem tri0 : Tri 0 0 0:=by unfold Tri; omega
theorem sg0 : Sg 0:=.inr (.inl rfl)
theorem cmpInt_anti (x y : Int) : Lib.compareInt y x = -Lib.compareInt x y:=by unfold Lib.compareInt; split <;> split <;> (try split) <;> omega
theorem cmpInt_sg (x y : Int) : Sg (Lib.compareInt x y):=by unfold Lib.compareInt Sg; split <;> (try split) <;> omega
theorem cmpInt_tri (x y z : Int) : Tri (Lib.compareInt x y) (Lib.compareInt y z) (Lib.compareInt x z):=by
 unfold Lib.compareInt Tri
 by_cases h1 : x < y <;> by_cases h2 : y < z <;> by_cases h3 : x < z <;> by_cases h4 : x > y <;> by_cases h5 : y > z <;> by_cases h6 : x > z <;> simp [h1,h2,h3,h4,h5,h6] <;> omega
theorem cmpB_lex (a b : UInt8) (r q : List UInt8) : Lib.compareBytes (a :: r) (b :: q) = lex (Lib.compareInt a.toNat b.toNat) (Lib.compareBytes r q):=by
 rw [Lib.compareBytes,lex,Lib.compareInt]
 by_cases h1 : a < b
 ·have : (a.toNat : Int) < b.toNat:=by have:=UInt8.lt_iff_toNat_lt.1 h1; omega
  simp [h1,this]
 ·by_cases h2 : b < a
  ·have h3 : (b.toNat : Int) < a.toNat:=by have:=UInt8.lt_iff_toNat_lt.1 h2; omega
   have h4 : ¬ (a.toNat : Int) < b.toNat:=by omega
   simp [h1,h2,h3,h4]
  ·have h3 : ¬ (b.toNat : Int) < a.toNat:=fun h => h2 (UInt8.lt_iff_toNat_lt.2 (by omega))
   have h4 : ¬ (a.toNat : Int) < b.toNat:=fun h => h1 (UInt8.lt_iff_toNat_lt.2 (by omega))
   simp [h1,h2,h3,h4]
theorem cmpB_anti : ∀ (xs ys : List UInt8),Lib.compareBytes ys xs = -Lib.compareBytes xs ys
 | [],[] => rfl
 | [],_ :: _ => rfl
 | _ :: _,[] => rfl
 | a :: r,b :: q => by rw [cmpB_lex,cmpB_lex]; exact lex_neg (cmpInt_anti _ _) (cmpB_anti r q)
theorem cmpB_sg : ∀ (xs ys : List UInt8),Sg (Lib.compareBytes xs ys)
 | [],[] => .inr (.inl rfl)
 | [],_ :: _ => .inl rfl
 | _ :: _,[] => .inr (.inr rfl)
 | a :: r,b :: q => by rw [cmpB_lex]; exact lex_sg (cmpInt_sg _ _) (cmpB_sg r q)
theorem cmpB_tri : ∀ (xs ys zs : List UInt8),Tri (Lib.compareBytes xs ys) (Lib.compareBytes ys zs) (Lib.compareBytes xs zs)
 | [],[],[] => tri0
 | [],[],_ :: _ => by simp only [Lib.compareBytes,Tri]; omega
 | [],_ :: _,[] => by simp only [Lib.compareBytes,Tri]; omega
 | _ :: _,[],[] => by simp only [Lib.compareBytes,Tri]; omega
 | [],b :: q,c :: t => by
   have h:=cmpB_sg (b :: q) (c :: t)
   rw [show Lib.compareBytes [] (b :: q) = -1 from rfl,show Lib.compareBytes [] (c :: t) = -1 from rfl]
   simp only [Tri,Sg] at *; omega
 | a :: r,[],c :: t => by
   have h:=cmpB_sg (a :: r) (c :: t)
   rw [show Lib.compareBytes [] (c :: t) = -1 from rfl,show Lib.compareBytes (a :: r) [] = 1 from rfl]
   simp only [Tri,Sg] at *; omega
 | a :: r,b :: q,[] => by
   have h:=cmpB_sg (a :: r) (b :: q)
   rw [show Lib.compareBytes (a :: r) [] = 1 from rfl,show Lib.compareBytes (b :: q) [] = 1 from rfl]
   simp only [Tri,Sg] at *; omega
 | a :: r,b :: q,c :: t => by rw [cmpB_lex,cmpB_lex,cmpB_lex]; exact lex_tri (cmpInt_tri _ _ _) (cmpB_tri r q t)
theorem cmpVs_lex (d d' : Val) (l l' : List Val) : cmpVs (d :: l) (d' :: l') = lex (cmpV d d') (cmpVs l l'):=by rw [cmpVs,lex]
theorem cmpFs_lex (ns ns' : List ByteArray) (d d' : Val) (l l' : List Val) : cmpFs ns (d :: l) ns' (d' :: l') = lex (lex (Lib.compareBytes (ns.headD ByteArray.empty).data.toList (ns'.headD ByteArray.empty).data.toList) (lex (cmpV d d') 0)) (cmpFs ns.tail l ns'.tail l'):=by rw [cmpFs,lex]; rfl
mutual
theorem cmpV_anti : ∀ (d d2 : Val),cmpV d2 d = -cmpV d d2
 | .mk k i s t l ns fs,.mk k' i' s' t' l' ns' fs' => by
   rw [cmpV,cmpV]
   simp only [orL_lex]
   exact lex_neg (cmpInt_anti _ _) (lex_neg (cmpInt_anti _ _) (lex_neg (cmpInt_anti _ _) (lex_neg (cmpB_anti _ _) (lex_neg (cmpVs_anti l l') (lex_neg (cmpFs_anti fs ns ns' fs') rfl)))))
theorem cmpVs_anti : ∀ (l l' : List Val),cmpVs l' l = -cmpVs l l'
 | [],[] => by simp [cmpVs]
 | [],_ :: _ => by simp [cmpVs]
 | _ :: _,[] => by simp [cmpVs]
 | d :: l,d' :: l' => by rw [cmpVs_lex,cmpVs_lex]; exact lex_neg (cmpV_anti d d') (cmpVs_anti l l')
theorem cmpFs_anti : ∀ (l : List Val) (ns ns' : List ByteArray) (l' : List Val),cmpFs ns' l' ns l = -cmpFs ns l ns' l'
 | [],ns,ns',[] => by simp [cmpFs]
 | [],ns,ns',_ :: _ => by simp [cmpFs]
 | _ :: _,ns,ns',[] => by simp [cmpFs]
 | d :: l,ns,ns',d' :: l' => by rw [cmpFs_lex,cmpFs_lex]; exact lex_neg (lex_neg (cmpB_anti _ _) (lex_neg (cmpV_anti d d') rfl)) (cmpFs_anti l ns.tail ns'.tail l')
end
mutual
theorem cmpV_sg : ∀ (d d2 : Val),Sg (cmpV d d2)
 | .mk k i s t l ns fs,.mk k' i' s' t' l' ns' fs' => by
   rw [cmpV]
   simp only [orL_lex]
   exact lex_sg (cmpInt_sg _ _) (lex_sg (cmpInt_sg _ _) (lex_sg (cmpInt_sg _ _) (lex_sg (cmpB_sg _ _) (lex_sg (cmpVs_sg l l') (lex_sg (cmpFs_sg fs ns ns' fs') sg0)))))
theorem cmpVs_sg : ∀ (l l' : List Val),Sg (cmpVs l l')
 | [],[] => by rw [cmpVs]; exact sg0
 | [],_ :: _ => by rw [cmpVs]; exact .inl rfl
 | _ :: _,[] => by rw [cmpVs]; exact .inr (.inr rfl)
 | d :: l,d' :: l' => by rw [cmpVs_lex]; exact lex_sg (cmpV_sg d d') (cmpVs_sg l l')
theorem cmpFs_sg : ∀ (l : List Val) (ns ns' : List ByteArray) (l' : List Val),Sg (cmpFs ns l ns' l')
 | [],ns,ns',[] => by rw [cmpFs]; exact sg0
 | [],ns,ns',_ :: _ => by rw [cmpFs]; exact .inl rfl
 | _ :: _,ns,ns',[] => by rw [cmpFs]; exact .inr (.inr rfl)
 | d :: l,ns,ns',d' :: l' => by rw [cmpFs_lex]; exact lex_sg (lex_sg (cmpB_sg _ _) (lex_sg (cmpV_sg d d') sg0)) (cmpFs_sg l ns.tail ns'.tail l')
end
mutual
theorem cmpV_tri : ∀ (a b c : Val),Tri (cmpV a b) (cmpV b c) (cmpV a c)
 | .mk k i s t l ns fs,.mk k' i' s' t' l' ns' fs',.mk k2 i2 s2 t2 l2 ns2 fs2 => by
   rw [cmpV,cmpV,cmpV]
   simp only [orL_lex]
   exact lex_tri (cmpInt_tri _ _ _) (lex_tri (cmpInt_tri _ _ _) (lex_tri (cmpInt_tri _ _ _) (lex_tri (cmpB_tri _ _ _) (lex_tri (cmpVs_tri l l' l2) (lex_tri (cmpFs_tri fs ns ns' fs' ns2 fs2) tri0)))))
theorem cmpVs_tri : ∀ (l l' l2 : List Val),Tri (cmpVs l l') (cmpVs l' l2) (cmpVs l l2)
 | [],[],[] => by simp only [cmpVs]; exact tri0
 | [],[],_ :: _ => by simp only [cmpVs,Tri]; omega
 | [],_ :: _,[] => by simp only [cmpVs,Tri]; omega
 | _ :: _,[],[] => by simp only [cmpVs,Tri]; omega
 | [],b :: q,c :: t => by
   have h:=cmpVs_sg (b :: q) (c :: t)
   rw [show cmpVs [] (b :: q) = -1 by rw [cmpVs],show cmpVs [] (c :: t) = -1 by rw [cmpVs]]
   simp only [Tri,Sg] at *; omega
 | a :: r,[],c :: t => by
   have h:=cmpVs_sg (a :: r) (c :: t)
   rw [show cmpVs [] (c :: t) = -1 by rw [cmpVs],show cmpVs (a :: r) [] = 1 by rw [cmpVs]]
   simp only [Tri,Sg] at *; omega
 | a :: r,b :: q,[] => by
   have h:=cmpVs_sg (a :: r) (b :: q)
   rw [show cmpVs (a :: r) [] = 1 by rw [cmpVs],show cmpVs (b :: q) [] = 1 by rw [cmpVs]]
   simp only [Tri,Sg] at *; omega
 | a :: r,b :: q,c :: t => by rw [cmpVs_lex,cmpVs_lex,cmpVs_lex]; exact lex_tri (cmpV_tri a b c) (cmpVs_tri r q t)
theorem cmpFs_tri : ∀ (l : List Val) (ns ns' : List ByteArray) (l' : List Val) (ns2 : List ByteArray) (l2 : List Val),Tri (cmpFs ns l ns' l') (cmpFs ns' l' ns2 l2) (cmpFs ns l ns2 l2)
 | [],ns,ns',[],ns2,[] => by simp only [cmpFs]; exact tri0
 | [],ns,ns',[],ns2,_ :: _ => by simp only [cmpFs,Tri]; omega
 | [],ns,ns',_ :: _,ns2,[] => by simp only [cmpFs,Tri]; omega
 | _ :: _,ns,ns',[],ns2,[] => by simp only [cmpFs,Tri]; omega
 | [],ns,ns',b :: q,ns2,c :: t => by
   have h:=cmpFs_sg (b :: q) ns' ns2 (c :: t)
   rw [show cmpFs ns [] ns' (b :: q) = -1 by rw [cmpFs],show cmpFs ns [] ns2 (c :: t) = -1 by rw [cmpFs]]
   simp only [Tri,Sg] at *; omega
 | a :: r,ns,ns',[],ns2,c :: t => by
   have h:=cmpFs_sg (a :: r) ns ns2 (c :: t)
   rw [show cmpFs ns' [] ns2 (c :: t) = -1 by rw [cmpFs],show cmpFs ns (a :: r) ns' [] = 1 by rw [cmpFs]]
   simp only [Tri,Sg] at *; omega
 | a :: r,ns,ns',b :: q,ns2,[] => by
   have h:=cmpFs_sg (a :: r) ns ns' (b :: q)
   rw [show cmpFs ns (a :: r) ns2 [] = 1 by rw [cmpFs],show cmpFs ns' (b :: q) ns2 [] = 1 by rw [cmpFs]]
   simp only [Tri,Sg] at *; omega
 | a :: r,ns,ns',b :: q,ns2,c :: t => by rw [cmpFs_lex,cmpFs_lex,cmpFs_lex]; exact lex_tri (lex_tri (cmpB_tri _ _ _) (lex_tri (cmpV_tri a b c) tri0)) (cmpFs_tri r ns.tail ns'.tail q ns2.tail t)
end
end
end Go.Proofs.YtkljbfaemahchaaGreatDoor
