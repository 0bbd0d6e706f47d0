/-
  manifoldlaw29.small says whether a message is small. Condition: the message can be read as data.
-/
import Derived.Test.YteladbdfiannjaaGreatDoorSP13Mrg
import Derived.Test.YteladbdfiannjaaGreatDoorSP3Mrg
namespace Go.Proofs.YteladbdfiannjaaGreatDoor
set_option linter.unusedVariables false
set_option maxRecDepth 100000
set_option maxHeartbeats 64000000
set_option linter.unusedSimpArgs false
section
open Go Go.RowKit Go.Shelf
end
section
open Go Go.RowKit Go.Shelf
def cmpSt (d d2:St):Int:=orL [Lib.compareInt d.e d2.e,cmpI d.ps d2.ps]
theorem cmpSt_zero (d d2:St):(cmpSt d d2==0)=stEqB d d2:=by
 rw[Bool.eq_iff_iff]
 simp only[beq_iff_eq,cmpSt,orL,stEqB,decide_eq_true_eq]
 constructor
 ·intro h
  by_cases h1:Lib.compareInt d.e d2.e=0
  ·rw[if_neg (by simpa using h1)] at h
   by_cases h2:cmpI d.ps d2.ps=0
   ·exact⟨cmpInt_zero h1,cmpI_zero.1 h2⟩
   ·rw[if_pos h2] at h;exact absurd h h2
  ·rw[if_pos h1] at h;exact absurd h h1
 ·rintro⟨h1,h2⟩
  rw[h1,h2,cmpInt_refl,cmpI_zero.2 rfl]
  rfl
theorem stCompare_call (c c2:SC) (d d2:St) (w:World) (hd:IsSt (· < w.heap.size) w c d) (hd2:IsSt (· < w.heap.size) w c2 d2):Calls Tryz.prog 116 #[c.v,c2.v] w fun e w'=>e=.returned (.int .i64 (cmpSt d d2))∧Below w.heap.size w w':=by
 have HWB:Hid (Below w.heap.size w ((w.alloc (.cells #[.int .i64 c.e,.slice c.a c.n c.c] 62)).alloc (.cells #[.int .i64 c2.e,.slice c2.a c2.n c2.c] 62))):=hid (((Below.refl _ w).alloc (Nat.le_refl _) _).alloc (by simp) _)
 have HCI:Hid (∀w',Below ((w.alloc (.cells #[.int .i64 c.e,.slice c.a c.n c.c] 62)).alloc (.cells #[.int .i64 c2.e,.slice c2.a c2.n c2.c] 62)).heap.size ((w.alloc (.cells #[.int .i64 c.e,.slice c.a c.n c.c] 62)).alloc (.cells #[.int .i64 c2.e,.slice c2.a c2.n c2.c] 62)) w'→Calls Tryz.prog 182 #[.slice c.a c.n c.c,.slice c2.a c2.n c2.c,.func (.func 183) #[] #[]] w' fun e w2=>e=.returned (.int .i64 (cmpI d.ps d2.ps))∧Below w'.heap.size w' w2):=hid fun w' h=>by
  have hb:=HWB.out.trans (h.mono HWB.out.size)
  exact(cmpInts_call _ _ _ _ _ _ _ _ _ _ w' (hd.ps.same (S':=fun b=>b<w'.heap.size) fun b q=>⟨Nat.lt_of_lt_of_le q hb.size,hb.block b q⟩) (hd2.ps.same (S':=fun b=>b<w'.heap.size) fun b q=>⟨Nat.lt_of_lt_of_le q hb.size,hb.block b q⟩)).mono fun e w2 ⟨he,hw⟩=>⟨he,by rw[hw];exact Below.refl _ _⟩
 have HC:Hid (∀w',Below ((w.alloc (.cells #[.int .i64 c.e,.slice c.a c.n c.c] 62)).alloc (.cells #[.int .i64 c2.e,.slice c2.a c2.n c2.c] 62)).heap.size ((w.alloc (.cells #[.int .i64 c.e,.slice c.a c.n c.c] 62)).alloc (.cells #[.int .i64 c2.e,.slice c2.a c2.n c2.c] 62)) w'→w'.cell? ⟨w.heap.size,0,none⟩=some (.int .i64 c.e)∧w'.cell? ⟨w.heap.size,1,none⟩=some (.slice c.a c.n c.c)∧w'.cell? ⟨w.heap.size+1,0,none⟩=some (.int .i64 c2.e)∧w'.cell? ⟨w.heap.size+1,1,none⟩=some (.slice c2.a c2.n c2.c)):=hid fun w' h=>by
  have h0:=heapExt h (heapAlloc (.cells #[.int .i64 c2.e,.slice c2.a c2.n c2.c] 62) (heap_alloc_new w (.cells #[.int .i64 c.e,.slice c.a c.n c.c] 62)))
  have h1:=heapExt h (heapNewAt (w.alloc (.cells #[.int .i64 c.e,.slice c.a c.n c.c] 62)) (.cells #[.int .i64 c2.e,.slice c2.a c2.n c2.c] 62) (w.heap.size+1) (by simp))
  exact⟨cellOf h0 0,cellOf h0 1,cellOf h1 0,cellOf h1 1⟩
 have R:Hid (cmpSt d d2=orL [Lib.compareInt c.e c2.e,cmpI d.ps d2.ps]):=hid (by rw[hd.e,hd2.e];rfl)
 clear hd hd2
 go_enter Tryz.func116,Tryz.ntmps116
 go_upto_region 1 with (fail)
 refine wp_region_split 12 (fun w'=>Below ((w.alloc (.cells #[.int .i64 c.e,.slice c.a c.n c.c] 62)).alloc (.cells #[.int .i64 c2.e,.slice c2.a c2.n c2.c] 62)).heap.size ((w.alloc (.cells #[.int .i64 c.e,.slice c.a c.n c.c] 62)).alloc (.cells #[.int .i64 c2.e,.slice c2.a c2.n c2.c] 62)) w') (by kernel_rfl) (by kernel_rfl) (by kernel_rfl) (by decide) ((Below.refl _ _).drew) (fun hS=>?_)
 simp only[List.take_succ_cons,List.take_zero,List.drop_succ_cons,List.drop_zero]
 refine tkQ 0 (v:=?_) ?_ hS ?_;rotate_left;· intro w' hw';have hcells:=HC.out w' hw';go_simp;(try with_reducible rfl)
 simp only[Act.put,pt1,pt2,pt3,pt4,pt5,pt6]
 refine tkQ 1 (v:=?_) ?_ hS ?_;rotate_left;· intro w' hw';have hcells:=HC.out w' hw';go_simp;(try with_reducible rfl)
 simp only[Act.put,pt1,pt2,pt3,pt4,pt5,pt6]
 refine tkQ 2 (v:=?_) ?_ hS ?_;rotate_left;· intro w' hw';have hcells:=HC.out w' hw';go_simp;(try with_reducible rfl)
 simp only[Act.put,pt1,pt2,pt3,pt4,pt5,pt6]
 refine tkQ 3 (v:=?_) ?_ hS ?_;rotate_left;· intro w' hw';have hcells:=HC.out w' hw';go_simp;(try with_reducible rfl)
 simp only[Act.put,pt1,pt2,pt3,pt4,pt5,pt6]
 refine tkQ 5 (v:=?_) ?_ hS ?_;rotate_left;· intro w' hw';have hcells:=HC.out w' hw';go_simp;(try with_reducible rfl)
 simp only[Act.put,pt1,pt2,pt3,pt4,pt5,pt6]
 refine tkQ 6 (v:=?_) ?_ hS ?_;rotate_left;· intro w' hw';have hcells:=HC.out w' hw';go_simp;(try with_reducible rfl)
 simp only[Act.put,pt1,pt2,pt3,pt4,pt5,pt6]
 refine tkQ 7 (v:=?_) ?_ hS ?_;rotate_left;· intro w' hw';have hcells:=HC.out w' hw';go_simp;(try with_reducible rfl)
 simp only[Act.put,pt1,pt2,pt3,pt4,pt5,pt6]
 refine tkQ 8 (v:=?_) ?_ hS ?_;rotate_left;· intro w' hw';have hcells:=HC.out w' hw';go_simp;(try with_reducible rfl)
 simp only[Act.put,pt1,pt2,pt3,pt4,pt5,pt6]
 refine wpAnyH_ready (rs:=[4]) (by kernel_rfl) (by simp) ?_
 refine arQ fun K hK=>?_
 go_simp;go_at_call 169;refine(Tryz.cmp_Compare_int _ _ _).mono ?_
 rintro e w1 ⟨rfl,rfl⟩
 refine hK.out _ _ (hS) (fun hS=>?_)
 clear hK K
 (try simp only[Act.put,pt1,pt2,pt3,pt4,pt5,pt6])
 refine wpAnyH_ready (rs:=[9]) (by kernel_rfl) (by simp) ?_
 refine arQ fun K hK=>?_
 go_simp;go_at_call 182;refine(HCI.out _ hS).mono ?_
 rintro e w2 ⟨rfl,hb1⟩
 refine hK.out _ _ (hS.trans (hb1.mono hS.size)) (fun hS=>?_)
 clear hK K
 (try simp only[Act.put,pt1,pt2,pt3,pt4,pt5,pt6])
 refine wpAnyH_ready (rs:=[10]) (by kernel_rfl) (by simp) ?_
 refine arQ fun K hK=>?_
 go_simp
 refine hK.out _ _ (hS.trans (((Below.refl _ _).alloc (Nat.le_refl _) _).mono hS.size)) (fun hS=>?_)
 clear hK K
 (try simp only[Act.put,pt1,pt2,pt3,pt4,pt5,pt6])
 refine wpAnyH_ready (rs:=[11]) (by kernel_rfl) (by simp) ?_
 refine arQ fun K hK=>?_
 go_simp;go_at_call 168;refine(or_new [Lib.compareInt c.e c2.e,cmpI d.ps d2.ps] w2 _ (by simp)).mono ?_
 rintro e w3 ⟨rfl,rfl⟩
 refine hK.out _ _ (hS) (fun hS=>?_)
 clear hK K
 (try simp only[Act.put,pt1,pt2,pt3,pt4,pt5,pt6])
 refine wpAnyH_done (by kernel_rfl) ?_ _
 (try dsimp only)
 go_wp2
 go_ret
 exact⟨by rw[R.out];rfl,HWB.out.trans (hS.mono HWB.out.size)⟩
theorem stEqual_call (c c2:SC) (d d2:St) (w:World) (hd:IsSt (· < w.heap.size) w c d) (hd2:IsSt (· < w.heap.size) w c2 d2):Calls Tryz.prog 45 #[c.v,c2.v] w fun e w'=>e=.returned (.bool (stEqB d d2))∧Below w.heap.size w w':=by
 have hb:Below w.heap.size w ((w.alloc (.cells #[.int .i64 c.e,.slice c.a c.n c.c] 62)).alloc (.cells #[.int .i64 c2.e,.slice c2.a c2.n c2.c] 62)):=(((Below.refl _ w).alloc (Nat.le_refl _) _).alloc (by simp) _)
 obtain⟨u,hu⟩:∃u,u=cmpSt d d2:=⟨_,rfl⟩
 have hc:=stCompare_call c c2 d d2 ((w.alloc (.cells #[.int .i64 c.e,.slice c.a c.n c.c] 62)).alloc (.cells #[.int .i64 c2.e,.slice c2.a c2.n c2.c] 62)) (hd.same fun b q=>⟨Nat.lt_of_lt_of_le q hb.size,hb.block b q⟩) (hd2.same fun b q=>⟨Nat.lt_of_lt_of_le q hb.size,hb.block b q⟩)
 rw[←hu] at hc
 have HCC:=hid hc
 have HB:=hid hb
 have R:=hid (show stEqB d d2=(u==0) by rw[hu,cmpSt_zero])
 have h0:=(heapAlloc (.cells #[.int .i64 c2.e,.slice c2.a c2.n c2.c] 62) (heap_alloc_new w (.cells #[.int .i64 c.e,.slice c.a c.n c.c] 62)))
 have e0:=cellOf h0 0
 have e1:=cellOf h0 1
 clear hc hb hd hd2 hu h0
 go_enter Tryz.func45,Tryz.ntmps45
 go_wp2_with (go_at_call 116;refine HCC.out.mono ?_;rintro e w2 ⟨rfl,hb2⟩)
 go_ret
 exact⟨retB R.out.symm,HB.out.trans (hb2.mono HB.out.size)⟩
theorem eqInts_call (S S':Nat→Prop) (a a':Option Addr) (n c n' c':Nat) (xs ys:List Int) (w:World) (hx:IsInts S w a n c xs) (hy:IsInts S' w a' n' c' ys):Calls Tryz.prog 114 #[.slice a n c,.slice a' n' c'] w fun e w'=>e=.returned (.bool (decide (xs=ys)))∧Below w.heap.size w w':=by
 have hl:=hx.len
 have hl':=hy.len
 have hbg:=hx.big
 have hbg':=hy.big
 rcases Nat.eq_zero_or_pos n with h0 | h0
 ·subst h0
  have hxe:xs=[]:=List.eq_nil_of_length_eq_zero hl.symm
  refine(Tryz.slices_Equal_int_empty a a' c n' c' w (by omega)).mono fun e w' ⟨he,hw⟩=>⟨?_,by rw[hw];exact Below.refl _ _⟩
  rw[he]
  refine retB ?_
  rw[decide_eq_decide,hxe,hl']
  constructor
  ·intro h;exact(List.eq_nil_of_length_eq_zero h).symm
  ·intro h;rw[←h];rfl
 ·by_cases hnn:n=n'
  ·obtain⟨b,o,rfl,_,hc⟩:=hx.slot h0
   obtain⟨b',o',rfl,_,hc'⟩:=hy.slot (by omega)
   refine(Tryz.slices_Equal_int b o n c b' o' n' c' xs ys w (by omega) (by omega) (by omega) (by omega) (fun j hj=>by rw[hc j hj];simp[List.getD_eq_getElem?_getD,hj]) (fun j hj=>by rw[hc' j hj];simp[List.getD_eq_getElem?_getD,hj])).mono fun e w' ⟨he,q,hw⟩=>⟨?_,?_⟩
   ·rw[he,List.take_of_length_le (by omega),List.take_of_length_le (by omega)]
    refine retB ?_
    rw[Bool.eq_iff_iff];simp
   ·rw[hw];exact⟨rfl,rfl,rfl,Nat.le_refl _,fun _ _=>rfl⟩
  ·refine(Tryz.slices_Equal_int_lens a a' n c n' c' w hnn).mono fun e w' ⟨he,hw⟩=>⟨?_,by rw[hw];exact Below.refl _ _⟩
   rw[he]
   refine retB ?_
   symm
   rw[decide_eq_false_iff_not]
   intro h
   rw[h] at hl
   omega
theorem msgEqual_call (c c2:MC) (d d2:Msg) (w:World) (hd:IsMsg (· < w.heap.size) w c d) (hd2:IsMsg (· < w.heap.size) w c2 d2) :
 Calls Tryz.prog 43 #[c.v,c2.v] w fun e w'=>e=.returned (.bool (msgEqB d d2))∧Below w.heap.size w w':=by
 have hq:=hid (show msgEqB d d2=(stEqB d.st d2.st&&(decide (c.m=c2.m)&&(decide (d.es=d2.es)&&(cmpV d.b d2.b==0)))) by rw[msgEqB,hd.m,hd2.m])
 obtain⟨u,hu⟩:∃u,u=stEqB d.st d2.st:=⟨_,rfl⟩
 obtain⟨v,hv⟩:∃v,v=(cmpV d.b d2.b==0):=⟨_,rfl⟩
 obtain⟨x,hx⟩:∃x,x=decide (d.es=d2.es):=⟨_,rfl⟩
 rw[←hu,←hv,←hx] at hq
 have hm:=fun w1 hb=>twoV c c2 d d2 w hd hd2 w1 hb
 have hst:∀w1,Below ((w.alloc (mObj c)).alloc (mObj c2)).heap.size ((w.alloc (mObj c)).alloc (mObj c2)) w1→Calls Tryz.prog 45 #[c.st.v,c2.st.v] w1 fun e w'=>e=.returned (.bool u)∧Below w1.heap.size w1 w':=fun w1 h=>by
  have hbw:=(hm w1 h).bel
  rw[hu];exact stEqual_call _ _ _ _ w1 (hd.st.same fun b q=>⟨Nat.lt_of_lt_of_le q hbw.size,hbw.block b q⟩) (hd2.st.same fun b q=>⟨Nat.lt_of_lt_of_le q hbw.size,hbw.block b q⟩)
 have hes:∀w1,Below ((w.alloc (mObj c)).alloc (mObj c2)).heap.size ((w.alloc (mObj c)).alloc (mObj c2)) w1→Calls Tryz.prog 114 #[.slice c.a c.n c.c,.slice c2.a c2.n c2.c] w1 fun e w'=>e=.returned (.bool x)∧Below w1.heap.size w1 w':=fun w1 h=>by
  rw[hx];exact eqInts_call _ _ _ _ _ _ _ _ _ _ w1 (hm w1 h).es (hm w1 h).es2
 have hvl:∀w1,Below ((w.alloc (mObj c)).alloc (mObj c2)).heap.size ((w.alloc (mObj c)).alloc (mObj c2)) w1→Calls Tryz.prog 115 #[c.b.v,c2.b.v] w1 fun e w'=>e=.returned (.bool v)∧Below w1.heap.size w1 w':=fun w1 h=>by rw[hv];exact(hm w1 h).val
 have HM:=hid hm
 have HST:=hid (hst _ (Below.refl _ _))
 have HES:=hid hes
 have HVL:=hid hvl
 have h0a:=(hm _ (Below.refl _ _)).t1
 have h0b:=(hm _ (Below.refl _ _)).t2
 clear hm hst hvl hes hu hv hx hd hd2
 obtain⟨⟨ce,sa,sn,sc⟩,m,a,n,cap,⟨k,i',s,t,la,ll,lc,fa,fl,fc⟩⟩:=c
 obtain⟨⟨ce2,sa2,sn2,sc2⟩,m2,a2,n2,cap2,⟨k2,i2,s2,t2,la2,ll2,lc2,fa2,fl2,fc2⟩⟩:=c2
 dsimp only[Ten,mObj,SC.v,VC.v,MC.v] at hq HM HST HES HVL h0a h0b ⊢
 obtain⟨e0,e1,e2,e3,e4,e5,e6,e7,e8,e9⟩:=h0a
 obtain⟨f0,f1,f2,f3,f4,f5,f6,f7,f8,f9⟩:=h0b
 go_enter Tryz.func43,Tryz.ntmps43
 cases u with
 | false =>
   go_wp2_with (go_at_call 45;refine HST.out.mono ?_;rintro e w1 ⟨rfl,hb1⟩;have hbw:=(HM.out w1 hb1).bel)
   go_ret
   exact⟨by rw[hq.out];rfl,hbw⟩
 | true =>
 by_cases q1:m=m2
 ·subst q1
  cases x with
  | false =>
    have r:=hid (show msgEqB d d2=false by rw[hq.out];simp)
    go_wp2_with (first
     | (go_at_call 45;refine HST.out.mono ?_;rintro e w1 ⟨rfl,hb1⟩;have hbw:=(HM.out w1 hb1).bel;have t1:=(HM.out w1 hb1).t1;have t2:=(HM.out w1 hb1).t2;dsimp only[Ten] at t1 t2;clear e0 e1 e2 e3 e4 e5 e6 e7 e8 e9 f0 f1 f2 f3 f4 f5 f6 f7 f8 f9;obtain⟨j0,j1,j2,j3,j4,j5,j6,j7,j8,j9⟩:=t1;obtain⟨l0,l1,l2,l3,l4,l5,l6,l7,l8,l9⟩:=t2)
     | (go_at_call 114;refine(HES.out _ hb1).mono ?_;rintro e w2 ⟨rfl,hb2⟩))
    go_ret
    exact⟨by rw[r.out];rfl,hbw.trans (hb2.mono hbw.size)⟩
  | true =>
    have r:=hid (show msgEqB d d2=v by rw[hq.out];simp)
    go_wp2_with (first
     | (go_at_call 45;refine HST.out.mono ?_;rintro e w1 ⟨rfl,hb1⟩;have hbw:=(HM.out w1 hb1).bel;have t1:=(HM.out w1 hb1).t1;have t2:=(HM.out w1 hb1).t2;dsimp only[Ten] at t1 t2;clear e0 e1 e2 e3 e4 e5 e6 e7 e8 e9 f0 f1 f2 f3 f4 f5 f6 f7 f8 f9;obtain⟨j0,j1,j2,j3,j4,j5,j6,j7,j8,j9⟩:=t1;obtain⟨l0,l1,l2,l3,l4,l5,l6,l7,l8,l9⟩:=t2)
     | (go_at_call 114;refine(HES.out _ hb1).mono ?_;rintro e w2 ⟨rfl,hb2⟩;have hb2':=hb1.trans (hb2.mono hb1.size);have t1:=(HM.out w2 hb2').t1;have t2:=(HM.out w2 hb2').t2;dsimp only[Ten] at t1 t2;clear j0 j1 j2 j3 j4 j5 j6 j7 j8 j9 l0 l1 l2 l3 l4 l5 l6 l7 l8 l9;obtain⟨p0,p1,p2,p3,p4,p5,p6,p7,p8,p9⟩:=t1;obtain⟨r0,r1,r2,r3,r4,r5,r6,r7,r8,r9⟩:=t2)
     | (go_at_call 115;refine(HVL.out _ hb2').mono ?_;rintro e w3 ⟨rfl,hb3⟩))
    go_ret
    exact⟨by rw[r.out];rfl,(hbw.trans (hb2.mono hbw.size)).trans (hb3.mono (Nat.le_trans hbw.size hb2.size))⟩
 ·have r:=hid (show msgEqB d d2=false by rw[hq.out];simp[q1])
  go_wp2_with (go_at_call 45;refine HST.out.mono ?_;rintro e w1 ⟨rfl,hb1⟩;have hbw:=(HM.out w1 hb1).bel;have t1:=(HM.out w1 hb1).t1;have t2:=(HM.out w1 hb1).t2;dsimp only[Ten] at t1 t2;clear e0 e1 e2 e3 e4 e5 e6 e7 e8 e9 f0 f1 f2 f3 f4 f5 f6 f7 f8 f9;obtain⟨j0,j1,j2,j3,j4,j5,j6,j7,j8,j9⟩:=t1;obtain⟨l0,l1,l2,l3,l4,l5,l6,l7,l8,l9⟩:=t2)
  go_ret
  exact⟨by rw[r.out];rfl,hbw⟩
end
section
open Go Go.RowKit Go.Shelf
def numE (n t:Int):Int:=if n < -999999999999999∨999999999999999<n∨t<0∨17592186044416<t then 2 else 0
theorem numbers_call (n t:Int) (w:World):Calls Tryz.prog 103 #[.int .i64 n,.int .i64 t] w fun e w'=>e=.returned (.int .i64 (numE n t))∧w=w':=by
 go_enter Tryz.func103,Tryz.ntmps103
 by_cases h1:n < -999999999999999<;>by_cases h2:999999999999999<n<;>by_cases h3:t<0<;>by_cases h4:17592186044416<t
 all_goals go_wp2
 all_goals go_ret
 all_goals exact⟨by simp[numE, *],rfl⟩
def hasSt (l:List Msg) (s:St):Bool:=l.any fun m=>stEqB m.st s
theorem slot1_call (x:MC) (d:Msg) (cm:SC) (s:St) (mb:Nat) (w:World) (hd:IsMsg (· < w.heap.size) w x d) (hs:IsSt (· < w.heap.size) w cm s) (h0:w.cell? ⟨mb,0,none⟩=some (.int .i64 cm.e)) (h1:w.cell? ⟨mb,1,none⟩=some (.slice cm.a cm.n cm.c)) :
 Calls Tryz.prog 175 #[x.v,.pointer (some ⟨mb,0,none⟩)] w fun e w'=>e=.returned (.bool (stEqB d.st s))∧Below w.heap.size w w':=by
 have hb:Below w.heap.size w (w.alloc (mObj x)):=(Below.refl _ w).alloc (Nat.le_refl _) _
 have hc:=stEqual_call x.st cm d.st s (w.alloc (mObj x)) (hd.st.same fun b q=>⟨Nat.lt_of_lt_of_le q hb.size,hb.block b q⟩) (hs.same fun b q=>⟨Nat.lt_of_lt_of_le q hb.size,hb.block b q⟩)
 have hmb:=World.block_lt_of_cell? w _ h0
 have k0:(w.alloc (mObj x)).cell? ⟨mb,0,none⟩=some (.int .i64 cm.e):=(World.cell?_of_block (w:=w) (a:=⟨mb,0,none⟩) (hb.block mb hmb)).trans h0
 have k1:(w.alloc (mObj x)).cell? ⟨mb,1,none⟩=some (.slice cm.a cm.n cm.c):=(World.cell?_of_block (w:=w) (a:=⟨mb,1,none⟩) (hb.block mb hmb)).trans h1
 have HC:=hid hc
 have HB:=hid hb
 clear hc hb hd hs h0 h1 hmb
 dsimp only[mObj,MC.v,SC.v] at HC HB k0 k1 ⊢
 go_enter Tryz.func175,Tryz.ntmps175
 go_wp2_with (go_at_call 45;refine HC.out.mono ?_;rintro e w2 ⟨rfl,hb2⟩)
 go_ret
 exact⟨rfl,HB.out.trans (hb2.mono HB.out.size)⟩
theorem idxM_call (a:Option Addr) (n c:Nat) (l:List Msg) (cm:SC) (s:St) (mb:Nat) (w:World) (hd:IsRow msgK (· < w.heap.size) w a n c l) (hs:IsSt (· < w.heap.size) w cm s) (h0:w.cell? ⟨mb,0,none⟩=some (.int .i64 cm.e)) (h1:w.cell? ⟨mb,1,none⟩=some (.slice cm.a cm.n cm.c)) :
 Calls Tryz.prog 235 #[.slice a n c,.func (.func 175) #[] #[.pointer (some ⟨mb,0,none⟩)]] w (IdxPost w (hasSt l s)):=by
 have hen:∀args w,(callFunc 175 args).run Tryz.prog w=.ok (.enter 175 args) w:=enters_of Tryz.func175 (by kernel_rfl) rfl
 have hbig:=hd.big
 have HL:=hid hd.len
 have HD:=hid hd
 have HS:=hid hs
 have HM:=hid (And.intro h0 h1)
 clear hd hs h0 h1
 go_enter Tryz.func235,Tryz.ntmps235
 go_wp2
 go_loopw [8] (fun i wr=>∃k:Nat,k≤n∧i=.int .i64 k∧(∀j (hj:j<l.length),j<k→stEqB l[j].st s=false)∧Below w.heap.size w wr) (fun i _=>n-(intOf i).toNat)
 case atStart=>exact⟨0,Nat.zero_le _,rfl,fun j _ h=>absurd h (Nat.not_lt_zero j),Below.refl _ _⟩
 case round =>
  obtain⟨k,hk,rfl,hall,hbr⟩:=hrel
  obtain⟨wp,rfl⟩:∃w1:World,w1=wr:=⟨_,rfl⟩
  have HA:=hid hall
  have HBR:=hid hbr
  clear hall
  by_cases hlt:k<n
  ·have hkl:k<l.length:=by have:=HL.out;omega
   obtain⟨b,o,rfl,hb,hx⟩:=HD.out.slot (show 0<n by omega)
   obtain⟨x,hxa,hxi⟩:=hx k hkl
   obtain⟨x0,x1,x2,x3,x4,x5,x6,x7,x8,x9⟩:=(hxa.same (hbr.block b hb)).m
   have hlt':(k:Int)<(n:Int):=by omega
   have hk0:(0:Int)≤(k:Int):=by omega
   have hn63:(n:Int)≤9223372036854775807:=by omega
   obtain⟨u,hu⟩:∃u,u=stEqB l[k].st s:=⟨_,rfl⟩
   have hmb:=World.block_lt_of_cell? w _ HM.out.1
   have HC:Hid (Calls Tryz.prog 175 #[x.v,.pointer (some ⟨mb,0,none⟩)] wp fun e w'=>e=.returned (.bool u)∧Below wp.heap.size wp w'):=hid (by
    rw[hu]
    have hs:=hbr.size
    exact slot1_call x l[k] cm s mb wp (hxi.same fun b q=>⟨by omega,hbr.block b q⟩) (HS.out.same fun b q=>⟨by omega,hbr.block b q⟩) ((World.cell?_of_block (w:=w) (a:=⟨mb,0,none⟩) (hbr.block mb hmb)).trans HM.out.1) ((World.cell?_of_block (w:=w) (a:=⟨mb,1,none⟩) (hbr.block mb hmb)).trans HM.out.2))
   have HU:=hid hu
   dsimp only[MC.v] at HC
   clear hu hx hxa hxi hbr hb hmb
   cases u with
   | true =>
     go_wp2_with (go_at_call 175;refine HC.out.mono ?_;rintro e w3 ⟨rfl,hb3⟩)
     go_ret
     exact⟨⟨k,rfl,⟨fun _=>by rw[hasSt,List.any_eq_true];exact⟨_,List.getElem_mem hkl,HU.out.symm⟩,fun _=>by omega⟩⟩,HBR.out.trans (hb3.mono HBR.out.size)⟩
   | false =>
     go_wp2_with (go_at_call 175;refine HC.out.mono ?_;rintro e w3 ⟨rfl,hb3⟩)
     go_roundw
     case rel=>exact⟨k+1,by omega,by go_num,fun j hj h=>by
      by_cases hjk:j<k
      ·exact HA.out j hj hjk
      ·obtain rfl:j=k:=by omega
       exact HU.out.symm,HBR.out.trans (hb3.mono HBR.out.size)⟩
     case measure=>simp[intOf];omega
  ·obtain rfl:k=n:=by omega
   go_wp2
   go_ret
   refine⟨⟨-1,rfl,⟨fun h=>by omega,fun h=>?_⟩⟩,hbr⟩
   exfalso
   rw[hasSt,List.any_eq_true] at h
   obtain⟨m,hm,he⟩:=h
   obtain⟨j,hj,rfl⟩:=List.getElem_of_mem hm
   rw[HA.out j hj (by have:=HL.out;omega)] at he
   cases he
theorem hasM_call (a:Option Addr) (n c:Nat) (l:List Msg) (cm:SC) (s:St) (mb:Nat) (w:World) (hd:IsRow msgK (· < w.heap.size) w a n c l) (hs:IsSt (· < w.heap.size) w cm s) (h0:w.cell? ⟨mb,0,none⟩=some (.int .i64 cm.e)) (h1:w.cell? ⟨mb,1,none⟩=some (.slice cm.a cm.n cm.c)) :
 Calls Tryz.prog 174 #[.slice a n c,.func (.func 175) #[] #[.pointer (some ⟨mb,0,none⟩)]] w fun e w'=>e=.returned (.bool (hasSt l s))∧Below w.heap.size w w':=by
 obtain⟨p,hp⟩:∃p,p=hasSt l s:=⟨_,rfl⟩
 have hc:=idxM_call a n c l cm s mb w hd hs h0 h1
 rw[←hp] at hc ⊢
 have HC:=hid hc
 clear hc hd hs h0 h1 hp
 go_enter Tryz.func174,Tryz.ntmps174
 cases p with
 | true =>
   go_wp2_with (go_at_call 235;refine HC.out.mono ?_;rintro e w2 ⟨⟨k,rfl,hk⟩,hb2⟩;have hk0:0≤k:=hk.2 rfl;clear hk)
   go_ret
   exact⟨rfl,hb2⟩
 | false =>
   go_wp2_with (go_at_call 235;refine HC.out.mono ?_;rintro e w2 ⟨⟨k,rfl,hk⟩,hb2⟩;have hk0:k<0:=Int.not_le.1 (fun h=>absurd (hk.1 h) (by decide));have hk1:decide (0≤k)=false:=decide_eq_false (by omega);clear hk)
   go_ret
   exact⟨rfl,hb2⟩
end
end Go.Proofs.YteladbdfiannjaaGreatDoor
