/- A part. -/
import Derived.Test.YtmgpghoamapfgaaGreatDoorST8Mrg
import Derived.Test.YtmgpghoamapfgaaGreatDoorST17Mrg
namespace Go.Proofs.YtmgpghoamapfgaaGreatDoor
set_option linter.unusedVariables false
set_option maxRecDepth 100000
set_option maxHeartbeats 16000000
set_option linter.unusedSimpArgs false
section
open Go Go.RowKit Go.Shelf
end
section
open Go Go.RowKit Go.Shelf
def aEw (d d2:St):Int:=orL [Lib.compareInt d.e d2.e,kH d.ps d2.ps]
theorem aHf (d d2:St):(aEw d d2==0)=lC d d2:=by
 rw[Bool.eq_iff_iff];simp only[beq_iff_eq,aEw,orL,lC,decide_eq_true_eq];constructor
 ·intro h;by_cases h1:Lib.compareInt d.e d2.e=0
  ·rw[if_neg (by simpa using h1)] at h;by_cases h2:kH d.ps d2.ps=0
   ·exact⟨aEx h1,cmpI_zero.1 h2⟩
   ·rw[if_pos h2] at h;exact absurd h h2
  ·rw[if_pos h1] at h;exact absurd h h1
 ·rintro⟨h1,h2⟩;rw[h1,h2,iT,cmpI_zero.2 rfl];rfl
theorem tV (c c2:SC) (d d2:St) (w:World) (hd:IsSt (· < w.heap.size) w c d) (hd2:IsSt (· < w.heap.size) w c2 d2):CP 143 #[c.v,c2.v] w (Rt (I6 (aEw d d2)) w):=by
 have HWB:Hid (BB w ((w.alloc (.cells #[I6 c.e,.slice c.a c.n c.c] 39)).alloc (.cells #[I6 c2.e,.slice c2.a c2.n c2.c] 39))):=hid (((bR w).alloc lr _).alloc gd _);have HCI:Hid (∀w',BB ((w.alloc (.cells #[I6 c.e,.slice c.a c.n c.c] 39)).alloc (.cells #[I6 c2.e,.slice c2.a c2.n c2.c] 39)) w'->CP 225 #[.slice c.a c.n c.c,.slice c2.a c2.n c2.c,.func (.func 226) #[] #[]] w' (Rt (I6 (kH d.ps d2.ps)) w')):=hid fun w' h=>by
  have hb:=HWB.out.trans (h.mono HWB.out.size);exact(aC8 _ _ _ _ _ _ _ _ _ _ w' (hd.ps.same (S':=fun b=>b<w'.heap.size) fun b q=>⟨Nat.lt_of_lt_of_le q hb.size,hb.block b q⟩) (hd2.ps.same (S':=fun b=>b<w'.heap.size) fun b q=>⟨Nat.lt_of_lt_of_le q hb.size,hb.block b q⟩)).mono fun e w2 ⟨he,hw⟩=>⟨he,by rw[hw];exact Below.refl _ _⟩
 have HC:Hid (∀w',BB ((w.alloc (.cells #[I6 c.e,.slice c.a c.n c.c] 39)).alloc (.cells #[I6 c2.e,.slice c2.a c2.n c2.c] 39)) w'->Ce w' w.heap.size 0 (I6 c.e)/\Ce w' w.heap.size 1 (.slice c.a c.n c.c)/\w'.cell? ⟨w.heap.size+1,0,none⟩=some (I6 c2.e)/\w'.cell? ⟨w.heap.size+1,1,none⟩=some (.slice c2.a c2.n c2.c)):=hid fun w' h=>by
  have h0:=aB h (aD (.cells #[I6 c2.e,.slice c2.a c2.n c2.c] 39) (heap_alloc_new w (.cells #[I6 c.e,.slice c.a c.n c.c] 39)));have h1:=aB h (aS (w.alloc (.cells #[I6 c.e,.slice c.a c.n c.c] 39)) (.cells #[I6 c2.e,.slice c2.a c2.n c2.c] 39) (w.heap.size+1) gd);exact⟨aA h0 0,aA h0 1,aA h1 0,aA h1 1⟩
 have R:Hid (aEw d d2=orL [Lib.compareInt c.e c2.e,kH d.ps d2.ps]):=hid (by rw[hd.e,hd2.e];rfl);clear hd hd2;go_enter Tryz.func143,Tryz.ntmps143
 go_upto_region 1 with (fail)
 refine aG 12 (fun w'=>BB ((w.alloc (.cells #[I6 c.e,.slice c.a c.n c.c] 39)).alloc (.cells #[I6 c2.e,.slice c2.a c2.n c2.c] 39)) w') ge ge ge gc ((Below.refl _ _).drew) (fun hS=>?_);simp only[zdm,zdn,zdp,zdq];refine tc 0 HC ?_;refine tc 1 HC ?_;refine tc 2 HC ?_;refine tc 3 HC ?_;refine tc 5 HC ?_;refine tc 6 HC ?_;refine tc 7 HC ?_;refine tc 8 HC ?_;refine yr 4 fun K hK=>?_;go_simp;go_at_call 122;refine(Tryz.cmp_Compare_int _ _ _).mono ?_;rintro e w1 ⟨rfl,rfl⟩;refine hK.out _ _ (hS) (fun hS=>?_);clear hK K
 (try simp only[Act.put,pq])
 refine yr 9 fun K hK=>?_;go_simp;go_at_call 225;refine(HCI.out _ hS).mono ?_;rintro e w2 ⟨rfl,hb1⟩;refine hK.out _ _ (hS.trans (hb1.mono hS.size)) (fun hS=>?_);clear hK K
 (try simp only[Act.put,pq])
 refine yr 10 fun K hK=>?_;go_simp;refine hK.out _ _ (hS.trans (((Below.refl _ _).alloc lr _).mono hS.size)) (fun hS=>?_);clear hK K
 (try simp only[Act.put,pq])
 refine yr 11 fun K hK=>?_;go_simp;go_at_call 121;refine(aGo [Lib.compareInt c.e c2.e,kH d.ps d2.ps] w2 _ gd).mono ?_;rintro e w3 ⟨rfl,rfl⟩;refine hK.out _ _ (hS) (fun hS=>?_);clear hK K
 (try simp only[Act.put,pq])
 refine wpAnyH_done ge ?_ _
 (try dsimp only)
 go_wp2;go_ret;exact⟨by rw[R.out];rfl,HWB.out.trans (hS.mono HWB.out.size)⟩
theorem lP (c c2:SC) (d d2:St) (w:World) (hd:IsSt (· < w.heap.size) w c d) (hd2:IsSt (· < w.heap.size) w c2 d2):CP 78 #[c.v,c2.v] w (Rt (.bool (lC d d2)) w):=by
 have hb:BB w ((w.alloc (.cells #[I6 c.e,.slice c.a c.n c.c] 39)).alloc (.cells #[I6 c2.e,.slice c2.a c2.n c2.c] 39)):=(((bR w).alloc lr _).alloc gd _)
 obtain⟨u,hu⟩:=ez (aEw d d2)
 have hc:=tV c c2 d d2 ((w.alloc (.cells #[I6 c.e,.slice c.a c.n c.c] 39)).alloc (.cells #[I6 c2.e,.slice c2.a c2.n c2.c] 39)) (hd.same fun b q=>⟨Nat.lt_of_lt_of_le q hb.size,hb.block b q⟩) (hd2.same fun b q=>⟨Nat.lt_of_lt_of_le q hb.size,hb.block b q⟩);rw[<-hu] at hc;have HCC:=hid hc;have HB:=hid hb;have R:=hid (show lC d d2=(u==0) by rw[hu,aHf]);have h0:=(aD (.cells #[I6 c2.e,.slice c2.a c2.n c2.c] 39) (heap_alloc_new w (.cells #[I6 c.e,.slice c.a c.n c.c] 39)))
 have e0:=aA h0 0;have e1:=aA h0 1;clear hc hb hd hd2 hu h0;go_enter Tryz.func78,Tryz.ntmps78
 go_wp2_with (go_at_call 143;refine HCC.out.mono ?_;rintro e w2 ⟨rfl,hb2⟩)
 go_ret;exact⟨retB R.out.symm,HB.out.trans (hb2.mono HB.out.size)⟩
theorem aEl (S S':Nat->Prop) (a a':Option Addr) (n c n' c':Nat) (xs ys:List Int) (w:World) (hx:IsInts S w a n c xs) (hy:IsInts S' w a' n' c' ys):CP 242 #[.slice a n c,.slice a' n' c'] w (Rt (.bool (decide (xs=ys))) w):=by
 have hl:=hx.len;have hl':=hy.len;have hbg:=hx.big;have hbg':=hy.big;rcases Nat.eq_zero_or_pos n with h0 | h0
 ·subst h0;have hxe:xs=[]:=List.eq_nil_of_length_eq_zero hl.symm;refine(Tryz.slices_Equal_int_empty a a' c n' c' w ga).mono fun e w' ⟨he,hw⟩=>⟨?_,by rw[hw];exact Below.refl _ _⟩
  rw[he];refine retB ?_;rw[decide_eq_decide,hxe,hl'];constructor
  ·intro h;exact(List.eq_nil_of_length_eq_zero h).symm
  ·intro h;rw[<-h];rfl
 ·by_cases hnn:n=n'
  ·obtain⟨b,o,rfl,_,hc⟩:=hx.slot h0;obtain⟨b',o',rfl,_,hc'⟩:=hy.slot ga;refine(Tryz.slices_Equal_int b o n c b' o' n' c' xs ys w ga ga ga ga (fun j hj=>by rw[hc j hj];simp[List.getD_eq_getElem?_getD,hj]) (fun j hj=>by rw[hc' j hj];simp[List.getD_eq_getElem?_getD,hj])).mono fun e w' ⟨he,q,hw⟩=>⟨?_,?_⟩
   ·rw[he,List.take_of_length_le ga,List.take_of_length_le ga];refine retB ?_;rw[Bool.eq_iff_iff];simp
   ·rw[hw];exact⟨rfl,rfl,rfl,Nat.le_refl _,fun _ _=>rfl⟩
  ·refine(Tryz.slices_Equal_int_lens a a' n c n' c' w hnn).mono fun e w' ⟨he,hw⟩=>⟨?_,by rw[hw];exact Below.refl _ _⟩
   rw[he];refine retB ?_;symm;rw[decide_eq_false_iff_not];intro h;rw[h] at hl;omega
theorem xI (c c2:MC) (d d2:Msg) (w:World) (hd:IsMsg (· < w.heap.size) w c d) (hd2:IsMsg (· < w.heap.size) w c2 d2) :
 CP 156 #[c.v,c2.v] w (Rt (.bool (gG d d2)) w):=by
 have hq:=hid (show gG d d2=(lC d.st d2.st&&(decide (c.m=c2.m)&&(decide (d.es=d2.es)&&(cN d.b d2.b==0)))) by rw[gG,hd.m,hd2.m]);obtain⟨u,hu⟩:=ez (lC d.st d2.st)
 obtain⟨v,hv⟩:=ez ((cN d.b d2.b==0))
 obtain⟨x,hx⟩:=ez (decide (d.es=d2.es))
 rw[<-hu,<-hv,<-hx] at hq;have hm:=fun w1 hb=>twoV c c2 d d2 w hd hd2 w1 hb;have hst:∀w1,BB ((w.alloc (mObj c)).alloc (mObj c2)) w1->CP 78 #[c.st.v,c2.st.v] w1 (Rt (.bool u) w1):=fun w1 h=>by
  have hbw:=(hm w1 h).bel;rw[hu];exact lP _ _ _ _ w1 (hd.st.same fun b q=>⟨Nat.lt_of_lt_of_le q hbw.size,hbw.block b q⟩) (hd2.st.same fun b q=>⟨Nat.lt_of_lt_of_le q hbw.size,hbw.block b q⟩)
 have hes:∀w1,BB ((w.alloc (mObj c)).alloc (mObj c2)) w1->CP 242 #[.slice c.a c.n c.c,.slice c2.a c2.n c2.c] w1 (Rt (.bool x) w1):=fun w1 h=>by
  rw[hx];exact aEl _ _ _ _ _ _ _ _ _ _ w1 (hm w1 h).es (hm w1 h).es2
 have hvl:∀w1,BB ((w.alloc (mObj c)).alloc (mObj c2)) w1->CP 155 #[c.b.v,c2.b.v] w1 (Rt (.bool v) w1):=fun w1 h=>by rw[hv];exact(hm w1 h).val
 have HM:=hid hm;have HST:=hid (hst _ (Below.refl _ _));have HES:=hid hes;have HVL:=hid hvl;have h0a:=(hm _ (Below.refl _ _)).t1;have h0b:=(hm _ (Below.refl _ _)).t2;clear hm hst hvl hes hu hv hx hd hd2;obtain⟨⟨ce,sa,sn,sc⟩,m,a,n,cap,⟨k,i',s,t,la,ll,lc,fa,fl,fc⟩⟩:=c;obtain⟨⟨ce2,sa2,sn2,sc2⟩,m2,a2,n2,cap2,⟨k2,i2,s2,t2,la2,ll2,lc2,fa2,fl2,fc2⟩⟩:=c2;dsimp only[Ten,mObj,SC.v,VC.v,MC.v] at hq HM HST HES HVL h0a h0b ⊢;obtain⟨e0,e1,e2,e3,e4,e5,e6,e7,e8,e9⟩:=h0a;obtain⟨f0,f1,f2,f3,f4,f5,f6,f7,f8,f9⟩:=h0b;go_enter Tryz.func156,Tryz.ntmps156
 cases u with
 | false =>
   go_wp2_with (go_at_call 78;refine HST.out.mono ?_;rintro e w1 ⟨rfl,hb1⟩;have hbw:=(HM.out w1 hb1).bel)
   go_ret;exact⟨by rw[hq.out];rfl,hbw⟩
 | true =>
 by_cases q1:m=m2
 ·subst q1;cases x with
  | false =>
    have r:=hid (show gG d d2=false by rw[hq.out];simp);go_wp2_with (first
     | (go_at_call 78;refine HST.out.mono ?_;rintro e w1 ⟨rfl,hb1⟩;have hbw:=(HM.out w1 hb1).bel;have t1:=(HM.out w1 hb1).t1;have t2:=(HM.out w1 hb1).t2;dsimp only[Ten] at t1 t2;clear e0 e1 e2 e3 e4 e5 e6 e7 e8 e9 f0 f1 f2 f3 f4 f5 f6 f7 f8 f9;obtain⟨j0,j1,j2,j3,j4,j5,j6,j7,j8,j9⟩:=t1;obtain⟨l0,l1,l2,l3,l4,l5,l6,l7,l8,l9⟩:=t2)
     | (go_at_call 242;refine(HES.out _ hb1).mono ?_;rintro e w2 ⟨rfl,hb2⟩))
    go_ret;exact⟨by rw[r.out];rfl,hbw.trans (hb2.mono hbw.size)⟩
  | true =>
    have r:=hid (show gG d d2=v by rw[hq.out];simp);go_wp2_with (first
     | (go_at_call 78;refine HST.out.mono ?_;rintro e w1 ⟨rfl,hb1⟩;have hbw:=(HM.out w1 hb1).bel;have t1:=(HM.out w1 hb1).t1;have t2:=(HM.out w1 hb1).t2;dsimp only[Ten] at t1 t2;clear e0 e1 e2 e3 e4 e5 e6 e7 e8 e9 f0 f1 f2 f3 f4 f5 f6 f7 f8 f9;obtain⟨j0,j1,j2,j3,j4,j5,j6,j7,j8,j9⟩:=t1;obtain⟨l0,l1,l2,l3,l4,l5,l6,l7,l8,l9⟩:=t2)
     | (go_at_call 242;refine(HES.out _ hb1).mono ?_;rintro e w2 ⟨rfl,hb2⟩;have hb2':=hb1.trans (hb2.mono hb1.size);have t1:=(HM.out w2 hb2').t1;have t2:=(HM.out w2 hb2').t2;dsimp only[Ten] at t1 t2;clear j0 j1 j2 j3 j4 j5 j6 j7 j8 j9 l0 l1 l2 l3 l4 l5 l6 l7 l8 l9;obtain⟨p0,p1,p2,p3,p4,p5,p6,p7,p8,p9⟩:=t1;obtain⟨r0,r1,r2,r3,r4,r5,r6,r7,r8,r9⟩:=t2)
     | (go_at_call 155;refine(HVL.out _ hb2').mono ?_;rintro e w3 ⟨rfl,hb3⟩))
    go_ret;exact⟨by rw[r.out];rfl,(hbw.trans (hb2.mono hbw.size)).trans (hb3.mono (Nat.le_trans hbw.size hb2.size))⟩
 ·have r:=hid (show gG d d2=false by rw[hq.out];simp[q1]);go_wp2_with (go_at_call 78;refine HST.out.mono ?_;rintro e w1 ⟨rfl,hb1⟩;have hbw:=(HM.out w1 hb1).bel;have t1:=(HM.out w1 hb1).t1;have t2:=(HM.out w1 hb1).t2;dsimp only[Ten] at t1 t2;clear e0 e1 e2 e3 e4 e5 e6 e7 e8 e9 f0 f1 f2 f3 f4 f5 f6 f7 f8 f9;obtain⟨j0,j1,j2,j3,j4,j5,j6,j7,j8,j9⟩:=t1;obtain⟨l0,l1,l2,l3,l4,l5,l6,l7,l8,l9⟩:=t2)
  go_ret;exact⟨by rw[r.out];rfl,hbw⟩
end
section
open Go Go.RowKit Go.Shelf
def gP (n t:Int):Int:=if n < -999999999999999\/999999999999999<n\/t<0\/17592186044416<t then 2 else 0
theorem qB (n t:Int) (w:World):CP 65 #[I6 n,I6 t] w fun e w'=>e=.returned (I6 (gP n t))/\w=w':=by
 go_enter Tryz.func65,Tryz.ntmps65
 by_cases h1:n < -999999999999999<;>by_cases h2:999999999999999<n<;>by_cases h3:t<0<;>by_cases h4:17592186044416<t
 all_goals go_wp2
 all_goals go_ret
 all_goals exact⟨by simp[gP, *],rfl⟩
theorem oX (s:ByteArray) (w:World):CP 26 #[.string s] w (Rt (.agg #[I6 4,I6 0,I6 0,.string s,.slice none 0 0,.slice none 0 0]) w):=by
 go_enter Tryz.func26,Tryz.ntmps26
 go_wp2;have hB:=heap_alloc_new w (.cells #[I6 4,I6 0,I6 0,.string s,.slice none 0 0,.slice none 0 0] 36);exact bodyPost_ret (v:=.agg #[I6 4,I6 0,I6 0,.string s,.slice none 0 0,.slice none 0 0]) (by simp[results,Tryz.results26,go_sem,aA hB]) rfl ⟨rfl,(bR w).alloc lr _⟩
def nG (l:List Msg) (s:St):Bool:=l.any fun m=>lC m.st s
theorem aG3 (x:MC) (d:Msg) (cm:SC) (s:St) (mb:Nat) (w:World) (hd:IsMsg (· < w.heap.size) w x d) (hs:IsSt (· < w.heap.size) w cm s) (h0:Ce w mb 0 (I6 cm.e)) (h1:Ce w mb 1 (.slice cm.a cm.n cm.c)) :
 CP 128 #[x.v,.pointer (some ⟨mb,0,none⟩)] w (Rt (.bool (lC d.st s)) w):=by
 have hb:BB w (w.alloc (mObj x)):=(bR w).alloc lr _;have hc:=lP x.st cm d.st s (w.alloc (mObj x)) (hd.st.same fun b q=>⟨Nat.lt_of_lt_of_le q hb.size,hb.block b q⟩) (hs.same fun b q=>⟨Nat.lt_of_lt_of_le q hb.size,hb.block b q⟩);have hmb:=World.block_lt_of_cell? w _ h0;have k0:Ce (w.alloc (mObj x)) mb 0 (I6 cm.e):=(World.cell?_of_block (w:=w) (a:=⟨mb,0,none⟩) (hb.block mb hmb)).trans h0;have k1:Ce (w.alloc (mObj x)) mb 1 (.slice cm.a cm.n cm.c):=(World.cell?_of_block (w:=w) (a:=⟨mb,1,none⟩) (hb.block mb hmb)).trans h1;have HC:=hid hc;have HB:=hid hb;clear hc hb hd hs h0 h1 hmb
 dsimp only[mObj,MC.v,SC.v] at HC HB k0 k1 ⊢;go_enter Tryz.func128,Tryz.ntmps128
 go_wp2_with (go_at_call 78;refine HC.out.mono ?_;rintro e w2 ⟨rfl,hb2⟩)
 go_ret;exact⟨rfl,HB.out.trans (hb2.mono HB.out.size)⟩
theorem aKc (a:Option Addr) (n c:Nat) (l:List Msg) (cm:SC) (s:St) (mb:Nat) (w:World) (hd:IsRow msgK (· < w.heap.size) w a n c l) (hs:IsSt (· < w.heap.size) w cm s) (h0:Ce w mb 0 (I6 cm.e)) (h1:Ce w mb 1 (.slice cm.a cm.n cm.c)) :
 CP 210 #[.slice a n c,.func (.func 128) #[] #[.pointer (some ⟨mb,0,none⟩)]] w (IdxPost w (nG l s)):=by
 have hen:∀args w,(callFunc 128 args).run Tryz.prog w=.ok (.enter 128 args) w:=enters_of Tryz.func128 ge rfl;have hbig:=hd.big;have HL:=hid hd.len;have HD:=hid hd;have HS:=hid hs;have HM:=hid (And.intro h0 h1);clear hd hs h0 h1;go_enter Tryz.func210,Tryz.ntmps210
 go_wp2
 go_loopw [8] (fun i wr=>∃k:Nat,k<=n/\i=I6 k/\(∀j (hj:j<l.length),j<k->lC l[j].st s=false)/\BB w wr) (fun i _=>n-(intOf i).toNat)
 case atStart=>exact⟨0,Nat.zero_le _,rfl,fun j _ h=>absurd h (Nat.not_lt_zero j),Below.refl _ _⟩
 case round =>
  obtain⟨k,hk,rfl,hall,hbr⟩:=hrel;obtain⟨wp,rfl⟩:=ez (wr:World)
  have HA:=hid hall;have HBR:=hid hbr;clear hall;by_cases hlt:k<n
  ·have hkl:k<l.length:=by have:=HL.out;omega
   obtain⟨b,o,rfl,hb,hx⟩:=HD.out.slot (show 0<n by omega);obtain⟨x,hxa,hxi⟩:=hx k hkl;obtain⟨x0,x1,x2,x3,x4,x5,x6,x7,x8,x9⟩:=(hxa.same (hbr.block b hb)).m;have hlt':(k:Int)<(n:Int):=by omega
   have hk0:(0:Int)<=(k:Int):=by omega
   have hn63:(n:Int)<=9223372036854775807:=by omega
   obtain⟨u,hu⟩:=ez (lC l[k].st s)
   have hmb:=World.block_lt_of_cell? w _ HM.out.1;have HC:Hid (CP 128 #[x.v,.pointer (some ⟨mb,0,none⟩)] wp (Rt (.bool u) wp)):=hid (by
    rw[hu];have hs:=hbr.size;exact aG3 x l[k] cm s mb wp (hxi.same fun b q=>⟨by omega,hbr.block b q⟩) (HS.out.same fun b q=>⟨by omega,hbr.block b q⟩) ((World.cell?_of_block (w:=w) (a:=⟨mb,0,none⟩) (hbr.block mb hmb)).trans HM.out.1) ((World.cell?_of_block (w:=w) (a:=⟨mb,1,none⟩) (hbr.block mb hmb)).trans HM.out.2))
   have HU:=hid hu;dsimp only[MC.v] at HC;clear hu hx hxa hxi hbr hb hmb;cases u with
   | true =>
     go_wp2_with (go_at_call 128;refine HC.out.mono ?_;rintro e w3 ⟨rfl,hb3⟩)
     go_ret;exact⟨⟨k,rfl,⟨fun _=>by rw[nG,List.any_eq_true];exact⟨_,List.getElem_mem hkl,HU.out.symm⟩,fun _=>by omega⟩⟩,HBR.out.trans (hb3.mono HBR.out.size)⟩
   | false =>
     go_wp2_with (go_at_call 128;refine HC.out.mono ?_;rintro e w3 ⟨rfl,hb3⟩)
     go_roundw
     case rel=>exact⟨k+1,by omega,by go_num,fun j hj h=>by
      by_cases hjk:j<k
      ·exact HA.out j hj hjk
      ·obtain rfl:j=k:=by omega
       exact HU.out.symm,HBR.out.trans (hb3.mono HBR.out.size)⟩
     case measure=>simp[intOf];omega
  ·obtain rfl:k=n:=by omega
   go_wp2;go_ret;refine⟨⟨-1,rfl,⟨fun h=>by omega,fun h=>?_⟩⟩,hbr⟩;exfalso;rw[nG,List.any_eq_true] at h;obtain⟨m,hm,he⟩:=h;obtain⟨j,hj,rfl⟩:=List.getElem_of_mem hm;rw[HA.out j hj (by have:=HL.out;omega)] at he;cases he
theorem aKe (a:Option Addr) (n c:Nat) (l:List Msg) (cm:SC) (s:St) (mb:Nat) (w:World) (hd:IsRow msgK (· < w.heap.size) w a n c l) (hs:IsSt (· < w.heap.size) w cm s) (h0:Ce w mb 0 (I6 cm.e)) (h1:Ce w mb 1 (.slice cm.a cm.n cm.c)) :
 CP 127 #[.slice a n c,.func (.func 128) #[] #[.pointer (some ⟨mb,0,none⟩)]] w (Rt (.bool (nG l s)) w):=by
 obtain⟨p,hp⟩:=ez (nG l s)
 have hc:=aKc a n c l cm s mb w hd hs h0 h1;rw[<-hp] at hc ⊢;have HC:=hid hc;clear hc hd hs h0 h1 hp;go_enter Tryz.func127,Tryz.ntmps127
 cases p with
 | true =>
   go_wp2_with (go_at_call 210;refine HC.out.mono ?_;rintro e w2 ⟨⟨k,rfl,hk⟩,hb2⟩;have hk0:0<=k:=hk.2 rfl;clear hk)
   go_ret;exact⟨rfl,hb2⟩
 | false =>
   go_wp2_with (go_at_call 210;refine HC.out.mono ?_;rintro e w2 ⟨⟨k,rfl,hk⟩,hb2⟩;have hk0:k<0:=Int.not_le.1 (fun h=>absurd (hk.1 h) gc);have hk1:decide (0<=k)=false:=decide_eq_false ga;clear hk)
   go_ret;exact⟨rfl,hb2⟩
end
end Go.Proofs.YtmgpghoamapfgaaGreatDoor
