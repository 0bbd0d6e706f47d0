/- A part. -/
import Derived.Test.YtoodnaghjpkjfaaGreatDoorSE16Mrg
import Derived.Test.YtoodnaghjpkjfaaGreatDoorSE10Mrg
import Derived.Maps.AppendAt
namespace Go.Proofs.YtoodnaghjpkjfaaGreatDoor
open Tryz
set_option linter.unusedVariables false
set_option maxRecDepth 100000
set_option maxHeartbeats 64000000
set_option linter.unusedSimpArgs false
open Go Go.RowKit Go.Shelf
def aEa (n t:Int):Int:=if n < -999999999999999\/999999999999999<n\/t<0\/17592186044416<t then 2 else 0
theorem rQ (n t:Int) (w:World):CP 129 #[I6 n,I6 t] w λe w'=>e=.returned (I6 (aEa n t))/\w=w':=by
 go_enter func129,ntmps129
 by_cases h1:n < -999999999999999<;>by_cases h2:999999999999999<n<;>by_cases h3:t<0<;>by_cases h4:17592186044416<t
 all_goals go_wp2
 all_goals go_ret
 all_goals exact⟨by simp[aEa, *],rfl⟩
def xJ (l:List Msg) (s:St):Bool:=l.any λm=>mD m.st s
theorem aGk (x:MC) (d:Msg) (cm:SC) (s:St) (mb:Nat) (w:World) (hd:IsMsg (· < w.heap.size) w x d) (hs:IsSt (· < w.heap.size) w cm s) (h0:Ce w mb 0 (I6 cm.e)) (h1:Ce w mb 1 (Sl cm.a cm.n cm.c)) :
 CP 190 #[x.v,Pt mb 0] w (Rt (.bool (mD d.st s)) w):=by
 have hb:BB w (w.alloc (mObj x)):=(bR w).alloc lr _;have hc:=jV x.st cm d.st s (w.alloc (mObj x)) (hd.st.same λb q=>⟨ix q hb.size,hb.block b q⟩) (hs.same λb q=>⟨ix q hb.size,hb.block b q⟩);have aa:=o9 w _ h0;have k0:Ce (w.alloc (mObj x)) mb 0 (I6 cm.e):=(jg (w:=w) (a:=⟨mb,0,none⟩) (hb.block mb aa)).trans h0;have k1:Ce (w.alloc (mObj x)) mb 1 (Sl cm.a cm.n cm.c):=(jg (w:=w) (a:=⟨mb,1,none⟩) (hb.block mb aa)).trans h1;obtain⟨HC,HB⟩:=h_2 hc hb;clear hc hb hd hs h0 h1 aa
 dsimp only[mObj,MC.v,SC.v] at HC HB k0 k1 ⊢;go_enter func190,ntmps190
 go_wp2_with (go_at_call 73;refine HC.mono ?_;rintro e w2 ⟨rfl,ab⟩)
 go_ret;exact⟨rfl,HB.trans (ab.mono HB.size)⟩
theorem aL7 (a:Option Addr) (n c:Nat) (l:List Msg) (cm:SC) (s:St) (mb:Nat) (w:World) (hd:IsRow msgK (· < w.heap.size) w a n c l) (hs:IsSt (· < w.heap.size) w cm s) (h0:Ce w mb 0 (I6 cm.e)) (h1:Ce w mb 1 (Sl cm.a cm.n cm.c)) :
 CP 250 #[Sl a n c,.func (.func 190) #[] #[Pt mb 0]] w (IdxPost w (xJ l s)):=by
 have an:∀args w,(callFunc 190 args).run prog w=.ok (.enter 190 args) w:=jd func190 gd rfl;have aj:=hd.big;have HL:=f8 hd.len;obtain⟨HD,HS⟩:=h_2 hd hs;have HM:=f8 (ie h0 h1);clear hd hs h0 h1;go_enter func250,ntmps250
 go_wp2
 go_loopw [8] (λi wr=>∃k:Nat,k<=n/\i=I6 k/\(∀j (hj:j<l.length),j<k->mD l[j].st s=false)/\BB w wr) (λi _=>n-(intOf i).toNat)
 case atStart=>exact⟨0,ii _,rfl,λj _ h=>absurd h (lj j),gx _ _⟩
 case round =>
  obtain⟨k,hk,rfl,ab,aa⟩:=hrel;obtain⟨wp,rfl⟩:=xe (wr:World)
  obtain⟨HA,ac⟩:=h_2 ab aa;clear ab;by_cases ao:k<n
  ·have ag:k<l.length:=by have:=HL.o;omega
   obtain⟨b,o,rfl,hb,hx⟩:=HD.slot (show 0<n by omega);obtain⟨x,ah,af⟩:=hx k ag;obtain⟨x0,x1,x2,x3,x4,x5,x6,x7,x8,x9⟩:=(ah.same (aa.block b hb)).m;have al:(k:Int)<(n:Int):=ga
   have am:(0:Int)<=(k:Int):=ga
   have ai:(n:Int)<=9223372036854775807:=ga
   obtain⟨u,hu⟩:=xe (mD l[k].st s)
   have ae:=o9 w _ HM.1;have HC:f7 (CP 190 #[x.v,Pt mb 0] wp (Rt (.bool u) wp)):=f8 (by
    rw[hu];have hs:=aa.size;exact aGk x l[k] cm s mb wp (af.same λb q=>⟨by omega,aa.block b q⟩) (HS.same λb q=>⟨by omega,aa.block b q⟩) ((jg (w:=w) (a:=⟨mb,0,none⟩) (aa.block mb ae)).trans HM.1) ((jg (w:=w) (a:=⟨mb,1,none⟩) (aa.block mb ae)).trans HM.2))
   have HU:=f8 hu;dsimp only[MC.v] at HC;clear hu hx ah af aa hb ae;cases u with
   | true =>
     go_wp2_with (go_at_call 190;refine HC.mono ?_;rintro e w3 ⟨rfl,ad⟩)
     go_ret;exact⟨⟨k,rfl,⟨λ_=>by rw[xJ,List.any_eq_true];exact⟨_,kc ag,HU.symm⟩,λ_=>by omega⟩⟩,ac.trans (ad.mono ac.size)⟩
   | false =>
     go_wp2_with (go_at_call 190;refine HC.mono ?_;rintro e w3 ⟨rfl,ad⟩)
     go_roundw
     case rel=>exact⟨k+1,by omega,by go_num,λj hj h=>by
      by_cases ak:j<k
      ·exact HA.o j hj ak
      ·obtain rfl:j=k:=ga
       exact HU.symm,ac.trans (ad.mono ac.size)⟩
     case measure=>simp[intOf];omega
  ·obtain rfl:k=n:=ga
   go_wp2;go_ret;refine⟨⟨-1,rfl,⟨λh=>by omega,λh=>?_⟩⟩,aa⟩;exfalso;rw[xJ,List.any_eq_true] at h;obtain⟨m,hm,he⟩:=h;obtain⟨j,hj,rfl⟩:=n5 hm;rw[HA.o j hj (by have:=HL.o;omega)] at he;cases he
theorem aL9 (a:Option Addr) (n c:Nat) (l:List Msg) (cm:SC) (s:St) (mb:Nat) (w:World) (hd:IsRow msgK (· < w.heap.size) w a n c l) (hs:IsSt (· < w.heap.size) w cm s) (h0:Ce w mb 0 (I6 cm.e)) (h1:Ce w mb 1 (Sl cm.a cm.n cm.c)) :
 CP 189 #[Sl a n c,.func (.func 190) #[] #[Pt mb 0]] w (Rt (.bool (xJ l s)) w):=by
 obtain⟨p,hp⟩:=xe (xJ l s)
 have hc:=aL7 a n c l cm s mb w hd hs h0 h1;rw[<-hp] at hc ⊢;have HC:=f8 hc;clear hc hd hs h0 h1 hp;go_enter func189,ntmps189
 cases p with
 | true =>
   go_wp2_with (go_at_call 250;refine HC.mono ?_;rintro e w2 ⟨⟨k,rfl,hk⟩,aa⟩;have ab:0<=k:=hk.2 rfl;clear hk)
   go_ret;exact⟨rfl,aa⟩
 | false =>
   go_wp2_with (go_at_call 250;refine HC.mono ?_;rintro e w2 ⟨⟨k,rfl,hk⟩,aa⟩;have ab:k<0:=Int.not_le.1 (λh=>absurd (hk.1 h) gb);have ac:decide (0<=k)=false:=mc ga;clear hk)
   go_ret;exact⟨rfl,aa⟩
def dY:List Msg->List Msg->Int × List Msg
 | acc,[]=>(0,acc)
 | acc,m :: r=>if acc.length=256 then (9,acc) else if fF m≠0 then (fF m,acc) else if xJ acc m.st=true then (7,acc) else dY (acc++[m]) r
def nL:Nat->List Val->Int × Nat
 | k,[]=>(0,k)
 | k,v :: r=>if k=4096 then (9,k) else if bG v≠0 then (bG v,k) else nL (k+1) r
def cJ (acc:List Msg) (nv:Nat) (d:Slot):Int × List Msg × Nat :=
 if aEa d.n d.t≠0 then (aEa d.n d.t,acc,nv) else if (dY acc d.items).1≠0 then ((dY acc d.items).1,(dY acc d.items).2,nv) else ((nL nv d.vals).1,(dY acc d.items).2,(nL nv d.vals).2)
structure ChkAt (CT ME B cb:Nat) (w w':World) (acc:List Msg) (nv:Nat) (iv:Value):Prop where
 k:KeepB B w [(cb,.cells #[iv,I6 nv] CT)] w'
 r:Kept msgK ME B w' iv acc.length acc
 n:∀r,iv.ownBlock=some r->r≠cb
 m:acc.length<=256
 v:nv<=4096
def aFu (B cb:Nat) (acc:List Msg) (nv:Nat) (d:Slot) (w:World) (e:Ending) (w':World):Prop :=
 e=.returned (I6 (cJ acc nv d).1)/\Below B w w'/\B<=w'.heap.size/\((cJ acc nv d).1=0->∃iv,ChkAt 196 69 B cb w w' (cJ acc nv d).2.1 (cJ acc nv d).2.2 iv)
theorem aAg (W:World) (hT:Tabs W) (B cb:Nat) (c:SlC) (d:Slot) (aa:List Msg) (nv:Nat) (iv:Value) (w:World) (hW:BB W w) (cd:W.heap.size<=B) (b2:B<=cb) (hd:IsSl (· < B) w c d) (hk:ChkAt 196 69 B cb w w aa nv iv) :
 CP 131 #[Pt cb 0,c.v] w (aFu B cb aa nv d w):=by
 obtain⟨ti,hi,bx,b5,b1⟩:=jr aJ5;obtain⟨⟨kk,ki,ks,kt,aj,ai,am,ao,an,al⟩,cn,ct,ia,il,ic,wa,wl,wc⟩:=c;have ce:cb<w.heap.size:=ltOf (hk.k.at 0 ge);have br:=hd.items.big;have a9:=hd.vals.big;have bw:=f8 hd.items.len;have b6:=f8 hd.vals.len;have cg:=f8 hd.items;have b7:=f8 hd.vals;have a7:=f8 (ie hd.n hd.t);have bh:=f8 (ie b2 ce);have b0:f7 (∀w',Below B w w'->Tabs w'):=f8 λw' h=>hT.below (hW.trans (h.mono cd));dsimp only at br a9 bw b6 cg b7 a7
 -- the box
 obtain⟨wb,bq⟩:=xe (w.alloc (.cells #[I6 kk,I6 ki,I6 ks,Sv kt,Sl aj ai am,Sl ao an al,I6 cn,I6 ct,Sl ia il ic,Sl wa wl wc] 144))
 have ad:KeepB B w [(cb,(.cells #[iv,I6 (nv:Nat)] 196)),(w.heap.size,(.cells #[I6 kk,I6 ki,I6 ks,Sv kt,Sl aj ai am,Sl ao an al,I6 cn,I6 ct,Sl ia il ic,Sl wa wl wc] 144))] wb:=by
  rw[bq];have h1:=(hk.k.ext ((bR w).alloc lr _)).cons (ib w (.cells #[I6 kk,I6 ki,I6 ks,Sv kt,Sl aj ai am,Sl ao an al,I6 cn,I6 ct,Sl ia il ic,Sl wa wl wc] 144));exact h1.sub (by intro p hp;simp only[kd,List.mem_nil_iff,kj,jt] at hp ⊢;rcases hp with h|h<;>simp[h])
 have af:Kept msgK 69 B wb iv aa.length aa:=by rw[bq];exact hk.r.ext hk.k.n ((bR w).alloc lr _)
 have a1:∀r,iv.ownBlock=some r->r≠cb/\r≠w.heap.size:=λr e=>⟨hk.n r e,by have:=(hk.r.own r e).2;omega⟩
 have hm:=hk.m;have hv:=hk.v;obtain⟨bm,ag,ap,ay⟩:=h_4 bq ad af a1;clear hd hk bq ad af a1 hW hT cd b2 ce;have e0:=f8 (ib w (.cells #[I6 kk,I6 ki,I6 ks,Sv kt,Sl aj ai am,Sl ao an al,I6 cn,I6 ct,Sl ia il ic,Sl wa wl wc] 144));have c6:=aA e0.o 6;have c7:=aA e0.o 7;have c8:=aA e0.o 8
 (try dsimp only at c6 c7 c8)
 dsimp only[SlC.v];go_enter func131,ntmps131
 obtain⟨u,hu⟩:=xe (aEa cn ct)
 have HU:=f8 hu;have cj:f7 (∀w',CP 129 #[I6 cn,I6 ct] w' λe w2=>e=.returned (I6 u)/\w'=w2):=f8 λw'=>by rw[hu];exact rQ cn ct w'
 clear hu;by_cases bz:u=0
 case neg =>
  have r:=f8 (show(cJ aa nv d).1=u by rw[cJ,<-a7.1,<-a7.2,<-HU.o,gw bz]);go_wp2_with (go_at_call 129;refine(cj.o _).mono ?_;rintro e w2 ⟨rfl,rfl⟩)
  go_ret;refine⟨retI r.o.symm,?_,?_,λh=>absurd (r.o.symm.trans h) bz⟩
  ·rw[<-bm.o];exact ag.b
  ·rw[<-bm.o];exact ag.n
 case pos =>
 subst bz;have R0:=f8 (show cJ aa nv d=if (dY aa d.items).1≠0 then ((dY aa d.items).1,(dY aa d.items).2,nv) else ((nL nv d.vals).1,(dY aa d.items).2,(nL nv d.vals).2) by rw[cJ,<-a7.1,<-a7.2,<-HU.o,f9 gb]);go_wp2_with (go_at_call 129;refine(cj.o _).mono ?_;rintro e w2 ⟨rfl,rfl⟩)
 clear c6 c7 c8;rw[<-bm.o]
 go_loopw [23] (λi wr=>∃(k:Nat) (iv:Value) (acc:List Msg),k<=il/\i=I6 k/\KeepB B w [(cb,(.cells #[iv,I6 (nv:Nat)] 196)),(w.heap.size,(.cells #[I6 kk,I6 ki,I6 ks,Sv kt,Sl aj ai am,Sl ao an al,I6 cn,I6 ct,Sl ia il ic,Sl wa wl wc] 144))] wr/\Kept msgK 69 B wr iv acc.length acc/\(∀r,iv.ownBlock=some r->r≠cb/\r≠w.heap.size)/\dY aa d.items=dY acc (d.items.drop k)/\acc.length<=256) (λi _=>il-(intOf i).toNat)
 case atStart=>exact⟨0,iv,aa,ii _,rfl,ag.o,ap.o,ay.o,by rw[List.drop_zero],hm⟩
 case round =>
 obtain⟨k,dd,acc,df,rfl,ad,af,a1,cc,cy⟩:=hrel;obtain⟨wp,rfl⟩:=xe (wr:World)
 clear ag ap ay bm hm e0 iv;have a5:=f8 cc;clear cc;obtain⟨va,ab,rfl,dc⟩:=af.shape;by_cases cu:k<il
 ·have a8:k<d.items.length:=by have:=bw.o;omega
  obtain⟨b,o,rfl,hb,hx⟩:=cg.slot (show 0<il by omega);obtain⟨x,bb,a4⟩:=hx k a8;obtain⟨x0,x1,x2,x3,x4,x5,x6,x7,x8,x9⟩:=(bb.same (ad.b.block b hb)).m;have b3:(k:Int)<(il:Int):=ga
  have dh:(0:Int)<=(k:Int):=ga
  have cl:=af.own;have bs:KeepB B w [(cb,(.cells #[Sl va acc.length ab,I6 (nv:Nat)] 196)),(w.heap.size,(.cells #[I6 kk,I6 ki,I6 ks,Sv kt,Sl aj ai am,Sl ao an al,I6 cn,I6 ct,Sl (So b o) il ic,Sl wa wl wc] 144)),(wp.heap.size,(oM x 69))] (wp.alloc (oM x 69)):=by
   have h1:=(ad.ext ((gx _ wp).alloc lr _)).cons (ib wp (oM x 69));exact h1.sub (by intro p hp;simp only[kd,List.mem_nil_iff,kj,jt] at hp ⊢;rcases hp with h|h|h<;>simp[h])
  have ak:f7 (∀w',KeepB B w [(cb,(.cells #[Sl va acc.length ab,I6 (nv:Nat)] 196)),(w.heap.size,(.cells #[I6 kk,I6 ki,I6 ks,Sv kt,Sl aj ai am,Sl ao an al,I6 cn,I6 ct,Sl (So b o) il ic,Sl wa wl wc] 144)),(wp.heap.size,(oM x 69))] w'->(Ce w' cb 0 (Sl va acc.length ab)/\Ce w' cb 1 (I6 (nv:Nat)))/\(Ce w' wp.heap.size 0 (I6 x.st.e)/\Ce w' wp.heap.size 1 (Sl x.st.a x.st.n x.st.c)/\Ce w' wp.heap.size 2 (I6 x.m)/\Ce w' wp.heap.size 3 (Sl x.a x.n x.c)/\Ce w' wp.heap.size 4 (I6 x.b.k)/\Ce w' wp.heap.size 5 (I6 x.b.i)/\Ce w' wp.heap.size 6 (I6 x.b.s)/\Ce w' wp.heap.size 7 (Sv x.b.t)/\Ce w' wp.heap.size 8 (Sl x.b.la x.b.ll x.b.lc)/\Ce w' wp.heap.size 9 (Sl x.b.fa x.b.fl x.b.fc))):=f8 λw' h=>⟨⟨aA (h.at 0 ge) 0,aA (h.at 0 ge) 1⟩,aA (h.at 2 ge) 0,aA (h.at 2 ge) 1,aA (h.at 2 ge) 2,aA (h.at 2 ge) 3,aA (h.at 2 ge) 4,aA (h.at 2 ge) 5,aA (h.at 2 ge) 6,aA (h.at 2 ge) 7,aA (h.at 2 ge) 8,aA (h.at 2 ge) 9⟩
  have RD:f7 (∀w',Below B w w'->B<=w'.heap.size->IsMsg (· < w'.heap.size) w' x d.items[k]):=f8 λw' h hn=>a4.same λb q=>⟨by omega,h.block b q⟩
  have be:f7 (∀w',BB (wp.alloc (oM x 69)) w'->IsRow msgK (· < w'.heap.size) w' va acc.length ab acc):=f8 λw' h=>(af.ext ad.n (((gx _ wp).alloc lr _).trans (h.mono ge))).row (io bs.n h.size) gl;have ae:=f8 bs;have cx:=f8 (show cb<wp.heap.size/\w.heap.size<wp.heap.size from⟨ltOf (ad.at 0 ge),ltOf (ad.at 1 ge)⟩);have c2:=f8 (show IsMsg (· < B) w x d.items[k] from a4);obtain⟨ch,ay,ap,ag⟩:=h_4 cl a1 af ad;clear bb a4 hx ad af a1 cl hb bs
  obtain⟨⟨q0,q1⟩,m0,m1,m2,m3,m4,m5,m6,m7,m8,m9⟩:=ak.o _ ae.o;by_cases ha:acc.length=256
  ·have bd:(acc.length:Int)=256:=ga
   have bv:((acc.length:Int)==256)=true:=by simp[bd]
   have aq:dY aa d.items=(9,acc):=by rw[a5.o,i8 a8,dY,gw ha]
   have r:=f8 (show(cJ aa nv d).1=9 by rw[R0.o,aq];rfl);clear aq;go_wp2;go_ret;exact⟨retI r.o.symm,ae.b,ae.n,λh=>absurd (r.o.symm.trans h) gb⟩
  have bd:¬ (acc.length:Int)=256:=ga
  have bv:((acc.length:Int)==256)=false:=by simp;omega
  have a0:=f8 ha;clear ha;obtain⟨v,az⟩:=xe (fF d.items[k])
  have a6:=f8 az;have ax:f7 (CP 84 #[.agg #[I6 x.st.e,Sl x.st.a x.st.n x.st.c,I6 x.m,Sl x.a x.n x.c,I6 x.b.k,I6 x.b.i,I6 x.b.s,Sv x.b.t,Sl x.b.la x.b.ll x.b.lc,Sl x.b.fa x.b.fl x.b.fc]] (wp.alloc (oM x 69)) λe w'=>e=.returned (I6 v)/\BB (wp.alloc (oM x 69)) w'):=f8 (by rw[az];exact eK x _ _ (RD.o _ ae.b ae.n) (b0.o _ ae.b));clear az;by_cases ar:v=0
  case neg =>
   have aq:dY aa d.items=(v,acc):=by rw[a5.o,i8 a8,dY,f9 a0.o,<-a6.o,gw ar]
   have r:=f8 (show(cJ aa nv d).1=v by rw[R0.o,aq,gw ar]);clear aq;go_wp2_with (go_at_call 84;refine ax.mono ?_;rintro e w2 ⟨rfl,ac⟩)
   go_ret;exact⟨retI r.o.symm,(ae.ext ac).b,(ae.ext ac).n,λh=>absurd (r.o.symm.trans h) ar⟩
  case pos =>
  subst ar;obtain⟨p,hp⟩:=xe (xJ acc d.items[k].st)
  have b9:=f8 hp;have bt:f7 (∀w',BB (wp.alloc (oM x 69)) w'->CP 189 #[Sl va acc.length ab,.func (.func 190) #[] #[Pt wp.heap.size 0]] w' (Rt (.bool p) w')):=f8 λw' h=>by
   rw[hp];have hk:=ae.ext h;exact aL9 va acc.length ab acc x.st _ wp.heap.size w' (be.o w' h) (RD.o w' hk.b hk.n).st (aA (hk.at 2 ge) 0) (aA (hk.at 2 ge) 1)
  clear hp;cases p with
  | true =>
    have aq:dY aa d.items=(7,acc):=by rw[a5.o,i8 a8,dY,f9 a0.o,<-a6.o,f9 gb,gw b9.symm]
    have r:=f8 (show(cJ aa nv d).1=7 by rw[R0.o,aq];rfl);clear aq;go_wp2_with (first
     | (go_at_call 189;refine(bt.o _ ac).mono ?_;rintro e w3 ⟨rfl,a3⟩)
     | (go_at_call 84;refine ax.mono ?_;rintro e w2 ⟨rfl,ac⟩;clear q0 q1 m0 m1 m2 m3 m4 m5 m6 m7 m8 m9;obtain⟨⟨q0,q1⟩,m0,m1,m2,m3,m4,m5,m6,m7,m8,m9⟩:=ak.o _ (ae.ext ac)))
    go_ret;exact⟨retI r.o.symm,((ae.ext ac).ext a3).b,((ae.ext ac).ext a3).n,λh=>absurd (r.o.symm.trans h) gb⟩
  | false =>
    go_upto_region 14 with (first
     | (go_at_call 189;refine(bt.o _ ac).mono ?_;rintro e w3 ⟨rfl,a3⟩)
     | (go_at_call 84;refine ax.mono ?_;rintro e w2 ⟨rfl,ac⟩;clear q0 q1 m0 m1 m2 m3 m4 m5 m6 m7 m8 m9;obtain⟨⟨q0,q1⟩,m0,m1,m2,m3,m4,m5,m6,m7,m8,m9⟩:=ak.o _ (ae.ext ac)))
    clear q0 q1 m0 m1 m2 m3 m4 m5 m6 m7 m8 m9;have bn:=(ae.ext ac).ext a3;have aw:=bn.ext ((gx _ w3).drew);have b8:BB wp w3.drew:=(((gx _ wp).alloc lr _).trans ((ac.trans (a3.mono ac.size)).mono ge)).drew;obtain⟨cs,ck,cz,bi,cf⟩:=ap.ext ag.n b8;have cR:=f8 (show wp.heap.size<w3.heap.size from ltOf (bn.at 2 ge));have ba:=f8 aw;have cq:=f8 (c2.same (S':=(· < B)) (w':=w3.drew) λb q=>⟨q,aw.b.block b q⟩);obtain⟨b4,cp⟩:=h_2 bi cf;have db:=f8 ck
    have bo:=f8 (show ∀r,(Value.slice va acc.length ab).ownBlock=some r->B<=r/\∀p∈([(cb,(.cells #[Sl va acc.length ab,I6 (nv:Nat)] 196)),(w.heap.size,(.cells #[I6 kk,I6 ki,I6 ks,Sv kt,Sl aj ai am,Sl ao an al,I6 cn,I6 ct,Sl (So b o) il ic,Sl wa wl wc] 144)),(wp.heap.size,(oM x 69))]:List (Nat × Obj)),p.1≠r from λr e=>⟨(ch.o r e).1,λp hp=>by
     have h1:=ay.o r e;have h2:=(ch.o r e).2;simp only[kd,jt,kj] at hp;rcases hp with rfl|rfl|rfl
     ·exact λh=>h1.1 h.symm
     ·exact λh=>h1.2 h.symm
     ·exact λh=>by dsimp only at h;omega⟩)
    have bg:acc.length+1<=maxLen:=by unfold maxLen;omega
    have bf:(acc.length+1) * 152<=140737488355328:=ga
    clear bn aw b8 bi cf ck cz ac a3 bt ax be RD b0 x0 x1 x2 x3 x4 x5 x6 x7 x8 x9;refine bK 8 (λw'=>KeepB B w [(cb,(.cells #[Sl va acc.length ab,I6 (nv:Nat)] 196)),(w.heap.size,(.cells #[I6 kk,I6 ki,I6 ks,Sv kt,Sl aj ai am,Sl ao an al,I6 cn,I6 ct,Sl (So b o) il ic,Sl wa wl wc] 144)),(wp.heap.size,(oM x 69))] w') gd gd gd gb (ba.o) (λhS=>?_);simp only[zdm,zdn,zdp,zdq];refine tC 0 ak ?_;refine tC 1 ak ?_;refine tC 2 ak ?_;refine tC 3 ak ?_;refine tC 4 ak ?_;refine tC 5 ak ?_;refine yr 6 λK hK=>?_;go_simp;refine kOQ hK (hS.ext ((gx _ _).alloc lr _)) λhS=>?_;clear hK K
    refine yr 7 λK hK=>?_;refine step_append_lies _ gh _ _ _ gh B 69 ti _ 10 152 underlying142 hi bx b5 b1 rfl ga (Sl va acc.length ab) acc.length (cs.flatMap MC.cs) gh (b4.alloc _) ⟨w3.heap.size,0,none⟩ 1 1 (MC.cs x) gh gh (World.news_of_block (ib w3.drew _)) (by simp[MC.cs,Value.oneCell']) ga bg bf hS.n _ rfl ?_;intro gg a2 w6 au ah bc bu;have cm:=hS.grown ah bo.o;obtain⟨cL,HG⟩:=h_2 au ah;have cr:=f8 bc
    clear au ah bc bu;refine kOQ hK (cm) λhS=>?_;clear hK K
    refine iq gd ?_ _
    (try dsimp only)
    have cw:=f8 hS;have bp:=hS.at 0 ge;dsimp only[List.getElem_cons_zero] at bp;clear hS cm hi bx b5 b1;have z0:=aA bp 0;have dg:=aF bp 0
    (try dsimp only at z0)
    clear bp;go_wp2
    go_roundw
    case rel =>
     have da:Kept msgK 69 B w6 (Sl (So gg 0) (acc.length+1) a2) (acc.length+1) (acc++[d.items[k]]) :=
      Kept.push (K:=msgK) (w1:=w3.drew) (c:=x) db.o rfl cp.o ba.n cq.o (λr e=>(bo.o r e).1) cL.o HG.o
     have bc:=cr.o;have bn:=cR.o;have c3:=cx.o;have b2:=bh.o;refine⟨k+1,Sl (So gg 0) (acc.length+1) a2,acc++[d.items[k]],by omega,by go_num,?_,?_,λr e=>?_,?_,by simp;omega⟩
     ·exact(cw.set (o:=0) (Sl (So gg 0) (acc.length+1) a2) bh.1 gi).sub ge
     ·rw[ik];refine da.set _ _ bh.1 (λe=>?_);have hr:gg=cb:=jp e;rcases bc with h|h
      ·exact(bo.o gg h).2 _ (iw ..) hr.symm
      ·rw[h] at hr;simp at hr;omega
     ·have hr:r=gg:=(jp e).symm;subst hr;rcases bc with h|h
      ·have h1:=(bo.o r h).2;exact⟨λe=>h1 _ (iw ..) e.symm,λe=>h1 _ (ja _ (iw ..)) e.symm⟩
      ·rw[h];simp;omega
     ·rw[a5.o,i8 a8,dY,f9 a0.o,<-a6.o,f9 gb,<-b9.o,f9 gb]
    case measure=>simp[intOf];omega
 ·obtain rfl:k=il:=ga
  have ca:dY aa d.items=(0,acc):=by rw[a5.o,show k=d.items.length from bw.o,km,dY]
  have R1:=f8 (show cJ aa nv d=((nL nv d.vals).1,acc,(nL nv d.vals).2) by rw[R0.o,ca,f9 (show ¬ ((0:Int),acc).1≠0 from λh=>h rfl)]);have ay:=f8 a1;have c9:=aA (ad.at 1 ge) 9
  (try dsimp only[List.getElem_cons_zero,List.getElem_cons_succ] at c9)
  have ag:=f8 (ad.sub (l':=[(cb,(.cells #[Sl va acc.length ab,I6 (nv:Nat)] 196))]) (by intro p hp;simp only[kd,jt,kj] at hp;simp[hp]));have ap:=f8 af;clear ca a1 ad af a5 hi bx b5 b1;go_wp2;clear c9
  go_loopw [58] (λi wr=>∃(q kv:Nat),q<=wl/\i=I6 q/\KeepB B w [(cb,(.cells #[Sl va acc.length ab,I6 (kv:Nat)] 196))] wr/\Kept msgK 69 B wr (Sl va acc.length ab) acc.length acc/\nL nv d.vals=nL kv (d.vals.drop q)/\kv<=4096) (λi _=>wl-(intOf i).toNat)
  case atStart=>exact⟨0,nv,ii _,rfl,ag.o,ap.o,by rw[List.drop_zero],hv⟩
  case round =>
  obtain⟨q,kv,hq,rfl,ad,af,co,c4⟩:=hrel;obtain⟨wq,rfl⟩:=xe (wr:World)
  clear ag ap;have bl:=f8 co;clear co;by_cases cu:q<wl
  ·have bj:q<d.vals.length:=by have:=b6.o;omega
   obtain⟨b,o,rfl,hb,hx⟩:=b7.slot (show 0<wl by omega);obtain⟨x,bb,a4⟩:=hx q bj;obtain⟨x0,x1,x2,x3,x4,x5⟩:=(bb.same (ad.b.block b hb)).val;have b3:(q:Int)<(wl:Int):=ga
   have dk:(0:Int)<=(q:Int):=ga
   have bk:KeepB B w [(cb,(.cells #[Sl va acc.length ab,I6 (kv:Nat)] 196)),(wq.heap.size,(oV x 67))] (wq.alloc (oV x 67)):=by
    have h1:=(ad.ext ((gx _ wq).alloc lr _)).cons (ib wq (oV x 67));exact h1.sub (by intro p hp;simp only[kd,List.mem_nil_iff,kj,jt] at hp ⊢;rcases hp with h|h<;>simp[h])
   have ci:f7 (∀w',KeepB B w [(cb,(.cells #[Sl va acc.length ab,I6 (kv:Nat)] 196)),(wq.heap.size,(oV x 67))] w'->(Ce w' cb 1 (I6 (kv:Nat))/\w'.frozen? ⟨cb,1,none⟩=false)/\(Ce w' wq.heap.size 0 (I6 x.k)/\Ce w' wq.heap.size 1 (I6 x.i)/\Ce w' wq.heap.size 2 (I6 x.s)/\Ce w' wq.heap.size 3 (Sv x.t)/\Ce w' wq.heap.size 4 (Sl x.la x.ll x.lc)/\Ce w' wq.heap.size 5 (Sl x.fa x.fl x.fc))):=f8 λw' h=>⟨⟨aA (h.at 0 ge) 1,aF (h.at 0 ge) 1⟩,aA (h.at 1 ge) 0,aA (h.at 1 ge) 1,aA (h.at 1 ge) 2,aA (h.at 1 ge) 3,aA (h.at 1 ge) 4,aA (h.at 1 ge) 5⟩
   have RD:f7 (IsVal (· < (wq.alloc (oV x 67)).heap.size) (wq.alloc (oV x 67)) x d.vals[q]):=f8 (a4.same λb q=>⟨by have:=bk.n;omega,bk.b.block b q⟩);obtain⟨av,ap,ag⟩:=h_3 bk af ad;clear bb a4 hx ad af hb bk;obtain⟨⟨q1,q2⟩,m0,m1,m2,m3,m4,m5⟩:=ci.o _ av.o;by_cases ha:kv=4096
   ·have bd:(kv:Int)=4096:=ga
    have bv:((kv:Int)==4096)=true:=by simp[bd]
    have r:=f8 (show(cJ aa nv d).1=9 by rw[R1.o,bl.o,i8 bj,nL,gw ha]);clear ha;go_wp2;go_ret;exact⟨retI r.o.symm,av.b,av.n,λh=>absurd (r.o.symm.trans h) gb⟩
   have bd:¬ (kv:Int)=4096:=ga
   have bv:((kv:Int)==4096)=false:=by simp;omega
   have de:(kv:Int)<=4096:=ga
   have di:(0:Int)<=(kv:Int):=ga
   have a0:=f8 ha;clear ha;obtain⟨v,az⟩:=xe (bG d.vals[q])
   have a6:=f8 az;have ax:f7 (CP 110 #[.agg #[I6 x.k,I6 x.i,I6 x.s,Sv x.t,Sl x.la x.ll x.lc,Sl x.fa x.fl x.fc]] (wq.alloc (oV x 67)) λe w'=>e=.returned (I6 v)/\BB (wq.alloc (oV x 67)) w'):=f8 (by rw[az];exact iV x _ _ RD.o (b0.o _ av.b));clear az;by_cases ar:v=0
   case neg =>
    have r:=f8 (show(cJ aa nv d).1=v by rw[R1.o,bl.o,i8 bj,nL,f9 a0.o,<-a6.o,gw ar]);go_wp2_with (go_at_call 110;refine ax.mono ?_;rintro e w2 ⟨rfl,ac⟩)
    go_ret;exact⟨retI r.o.symm,(av.ext ac).b,(av.ext ac).n,λh=>absurd (r.o.symm.trans h) ar⟩
   case pos =>
   subst ar;go_wp2_with (go_at_call 110;refine ax.mono ?_;rintro e w2 ⟨rfl,ac⟩;clear q1 q2 m0 m1 m2 m3 m4 m5;obtain⟨⟨q1,q2⟩,m0,m1,m2,m3,m4,m5⟩:=ci.o _ (av.ext ac))
   go_roundw
   case rel =>
    have c5:=av.ext ac;have cv:=ap.ext ag.n (((gx _ wq).alloc lr (oV x 67)).trans (ac.mono ge));have dj:cb<wq.heap.size:=ltOf (ag.at 0 ge);refine⟨q+1,kv+1,by omega,by go_num,?_,cv.set _ _ bh.1 (λe=>(ay.o cb e).1 rfl),?_,by have:=a0.o;omega⟩
    ·have h:=c5.set (o:=1) (I6 ((kv:Int)+1)) bh.1 gi;rw[show((kv:Int)+1)=((kv+1:Nat):Int) by omega] at h;exact h.sub ge
    ·rw[bl.o,i8 bj,nL,f9 a0.o,<-a6.o,f9 gb]
   case measure=>simp[intOf];omega
  ·obtain rfl:q=wl:=ga
   have R2:=f8 (show cJ aa nv d=(0,acc,kv) by rw[R1.o,bl.o,show q=d.vals.length from b6.o,km,nL]);go_wp2;go_ret;exact⟨retI (by rw[R2.o]),ad.b,ad.n,λ_=>by rw[R2.o];exact⟨_,ad,af,λr e=>(ay.o r e).1,cy,c4⟩⟩
def cmpP:Option Val->Val->Int
 | none,_=>1
 | some p,x=>cM x p
def nN (l:List Slot):Nat->Option Val
 | 0=>none
 | k+1=>(l[k]?).map (·.k)
theorem qK (l:List Slot) (k:Nat) (h:k<l.length):nN l (k+1)=some l[k].k:=by rw[nN,n3 h];rfl
def iH:Option Val->List Msg->Nat->List Slot->Int
 | _,_,_,[]=>0
 | prev,acc,nv,x :: r=>if bG x.k≠0/\fH x.k=false then bG x.k else if cmpP prev x.k=0 then 7 else if cmpP prev x.k = -1 then 24
   else if (cJ acc nv x).1≠0 then (cJ acc nv x).1 else iH (some x.k) (cJ acc nv x).2.1 (cJ acc nv x).2.2 r
def bZ (d:Sta):Int:=if aEa d.n d.t≠0 then aEa d.n d.t else if 1024<d.l.length then 9 else iH none [] 0 d.l
theorem ChkAt.self {CT ME B cb:Nat} {w w':World} {acc:List Msg} {nv:Nat} {iv:Value} (h:ChkAt CT ME B cb w w' acc nv iv):ChkAt CT ME B cb w' w' acc nv iv:=⟨⟨gx _ _,h.k.n,h.k.at'⟩,h.r,h.n,h.m,h.v⟩
theorem ChkAt.ext {CT ME B cb:Nat} {w w' w'':World} {acc:List Msg} {nv:Nat} {iv:Value} (h:ChkAt CT ME B cb w w' acc nv iv) (hb:BB w' w''):ChkAt CT ME B cb w'' w'' acc nv iv :=
 ⟨⟨gx _ _,io h.k.n hb.size,λp hp=>aB hb (h.k.at' p hp)⟩,h.r.ext h.k.n hb,h.n,h.m,h.v⟩
def SlotPost' (B cb:Nat) (acc:List Msg) (nv:Nat) (d:Slot) (w:World) (v:Int) (e:Ending) (w':World):Prop :=
 e=.returned (I6 v)/\Below B w w'/\B<=w'.heap.size/\(v=0->∃iv,ChkAt 196 69 B cb w w' (cJ acc nv d).2.1 (cJ acc nv d).2.2 iv)
theorem slotPost'_of {B cb:Nat} {acc:List Msg} {nv:Nat} {d:Slot} {w:World} {v:Int} {e:Ending} {w':World} (h:aFu B cb acc nv d w e w') (hv:v=(cJ acc nv d).1):SlotPost' B cb acc nv d w v e w':=by
 subst hv;exact h
theorem fM (c:StC) (d:Sta) (w:World) (hd:IsSta (· < w.heap.size) w c d) (hT:Tabs w):CP 76 #[c.v] w (Rt (I6 (bZ d)) w):=by
 obtain⟨sn,st,a,sl,sc⟩:=c;have bc:=hd.l.big;have HL:=f8 hd.l.len;have b1:=f8 hd.l;have HT:=f8 hT;have an:=f8 (ie hd.n hd.t);dsimp only at bc HL b1 an;obtain⟨wb,az⟩:=xe ((w.alloc (.cells #[I6 sn,I6 st,Sl a sl sc] 85)).alloc (.cells #[Z0,I6 0] 196))
 have b4:BB w wb:=by rw[az];exact((bR w).alloc lr _).alloc ge _
 have bz:wb.heap.size=w.heap.size+2:=by rw[az];simp
 have g1:wb.heap[w.heap.size]?=some (.cells #[I6 sn,I6 st,Sl a sl sc] 85):=by rw[az];exact aC _ (ib w _)
 have g2:wb.heap[w.heap.size+1]?=some (.cells #[Z0,I6 0] 196):=by rw[az];exact aN _ _ _ ge
 have a3:ChkAt 196 69 (w.heap.size+1) (w.heap.size+1) wb wb [] 0 Z0:=⟨⟨gx _ _,by omega,λp hp=>by simp only[kd,jt,kj] at hp;rw[hp];exact g2⟩,Kept.nil _ _ _,(λr e=>by cases e),ge,ga⟩
 have av:=f8 (ib w (.cells #[I6 sn,I6 st,Sl a sl sc] 85));obtain⟨b8,ag,G1,a2,ce⟩:=h_5 az b4 g1 a3 bz;clear hd hT az b4 bz g1 g2 a3;obtain⟨k0,k1⟩:=c_2 av.o;have k2:=aA av.o 2
 (try dsimp only at k0 k1 k2)
 dsimp only[StC.v];go_enter func76,ntmps76
 obtain⟨u,hu⟩:=xe (aEa sn st)
 have HU:=f8 hu;have ba:f7 (∀w',CP 129 #[I6 sn,I6 st] w' λe w2=>e=.returned (I6 u)/\w'=w2):=f8 λw'=>by rw[hu];exact rQ sn st w'
 clear hu;by_cases bx:u=0
 case neg =>
  have r:=f8 (show bZ d=u by rw[bZ,<-an.1,<-an.2,<-HU.o,gw bx]);go_wp2_with (go_at_call 129;refine(ba.o _).mono ?_;rintro e w2 ⟨rfl,rfl⟩)
  go_ret;exact⟨retI r.o.symm,(bR w).alloc lr _⟩
 case pos =>
 subst bx;by_cases bs:1024<sl
 ·have bf:(1024:Int)<(sl:Int):=ga
  have r:=f8 (show bZ d=9 by rw[bZ,<-an.1,<-an.2,<-HU.o,f9 gb,gw (by rw[<-HL.o];exact bs)]);go_wp2_with (go_at_call 129;refine(ba.o _).mono ?_;rintro e w2 ⟨rfl,rfl⟩)
  go_ret;exact⟨retI r.o.symm,(bR w).alloc lr _⟩
 have bf:¬ (1024:Int)<(sl:Int):=ga
 have R0:=f8 (show bZ d=iH none [] 0 d.l by rw[bZ,<-an.1,<-an.2,<-HU.o,f9 gb,f9 (by rw[<-HL.o];exact bs)]);go_wp2_with (go_at_call 129;refine(ba.o _).mono ?_;rintro e w2 ⟨rfl,rfl⟩)
 clear k0 k1 k2 ba HU an av;rw[<-b8.o]
 go_loopw [24] (λi wr=>∃(k:Nat) (acc:List Msg) (nv:Nat) (iv:Value),k<=sl/\i=I6 k/\ChkAt 196 69 (w.heap.size+1) (w.heap.size+1) wr wr acc nv iv/\Below (w.heap.size+1) wb wr/\iH none [] 0 d.l=iH (nN d.l k) acc nv (d.l.drop k)) (λi _=>sl-(intOf i).toNat)
 case atStart=>exact⟨0,[],0,_,ii _,rfl,a2.o,gx _ _,by rw[List.drop_zero];rfl⟩
 case round =>
 obtain⟨k,acc,nv,iv,cf,rfl,b2,ah,bn⟩:=hrel;obtain⟨wp,rfl⟩:=xe (wr:World)
 obtain⟨ap,bw,ab⟩:=h_3 bn b2 ah;have ck:w.heap.size+2<=wp.heap.size:=by have:=ce.o;have:=ah.size;omega
 clear bn b2 a2;by_cases cg:k<sl
 ·have ao:k<d.l.length:=by have:=HL.o;omega
  obtain⟨b,o,rfl,hb,hx⟩:=b1.slot (show 0<sl by omega);obtain⟨x,bq,a6⟩:=hx k ao;have bb:BB w wp:=ag.trans (ah.mono ga);obtain⟨x0,x1,x2,x3,x4,x5,x6,x7,x8,x9⟩:=(bq.same (bb.block b hb)).slot;have cd:(k:Int)<(sl:Int):=ga
  have cj:(0:Int)<=(k:Int):=ga
  have ch:(sl:Int)<=1024:=ga
  obtain⟨HB,HX,bi⟩:=h_3 hb hx a6;have af:=f8 (show Below (w.heap.size+1) wp (wp.alloc (oS x 144)) from(gx _ wp).alloc ga _);have a4:=f8 (show BB wp (wp.alloc (oS x 144)) from(gx _ wp).alloc lr _);have ae:=f8 (show w.heap.size+1<=(wp.alloc (oS x 144)).heap.size by simp;omega)
  have HC:f7 (∀w',BB (wp.alloc (oS x 144)) w'->(Ce w' w.heap.size 0 (I6 sn)/\Ce w' w.heap.size 1 (I6 st)/\Ce w' w.heap.size 2 (Sl (So b o) sl sc))/\(Ce w' wp.heap.size 0 (I6 x.k.k)/\Ce w' wp.heap.size 1 (I6 x.k.i)/\Ce w' wp.heap.size 2 (I6 x.k.s)/\Ce w' wp.heap.size 3 (Sv x.k.t)/\Ce w' wp.heap.size 4 (Sl x.k.la x.k.ll x.k.lc)/\Ce w' wp.heap.size 5 (Sl x.k.fa x.k.fl x.k.fc)/\Ce w' wp.heap.size 6 (I6 x.n)/\Ce w' wp.heap.size 7 (I6 x.t)/\Ce w' wp.heap.size 8 (Sl x.ia x.il x.ic)/\Ce w' wp.heap.size 9 (Sl x.va x.vl x.vc))):=f8 λw' h=>by
   have h1:=aB h (ib wp (oS x 144));have h2:=aB h (aC (oS x 144) (tJ ah G1.o ga));exact⟨⟨aA h2 0,aA h2 1,aA h2 2⟩,aA h1 0,aA h1 1,aA h1 2,aA h1 3,aA h1 4,aA h1 5,aA h1 6,aA h1 7,aA h1 8,aA h1 9⟩
  have am:BB w (wp.alloc (oS x 144)):=bb.alloc bb.size _;obtain⟨v,hv⟩:=xe (bG d.l[k].k)
  obtain⟨z,hz⟩:=xe (fH d.l[k].k)
  have a9:f7 (CP 110 #[.agg #[I6 x.k.k,I6 x.k.i,I6 x.k.s,Sv x.k.t,Sl x.k.la x.k.ll x.k.lc,Sl x.k.fa x.k.fl x.k.fc]] (wp.alloc (oS x 144)) λe w'=>e=.returned (I6 v)/\BB (wp.alloc (oS x 144)) w'):=f8 (by rw[hv];exact iV x.k _ _ (a6.k.same λb q=>⟨ix q am.size,am.block b q⟩) (HT.below am));have a7:f7 (∀w',BB (wp.alloc (oS x 144)) w'->CP 109 #[.agg #[I6 x.k.k,I6 x.k.i,I6 x.k.s,Sv x.k.t,Sl x.k.la x.k.ll x.k.lc,Sl x.k.fa x.k.fl x.k.fc]] w' (Rt (.bool z) w')):=f8 λw' _=>by rw[hz,iN a6.k];exact bT _ _ _ _ _ _ _ _ _ _ w'
  obtain⟨HV,HZ⟩:=h_2 hv hz;clear bq a6 hx hb bb am hv hz ah;obtain⟨⟨q0,q1,q2⟩,m0,m1,m2,m3,m4,m5,m6,m7,m8,m9⟩:=HC.o _ (gx _ _);rcases (show v=0\/(¬ v=0/\z=true)\/(¬ v=0/\z=false) by cases z<;>by_cases h:v=0<;>simp[h]) with rfl|⟨hv0,rfl⟩|⟨hv0,rfl⟩;rotate_left 2
  ·have r:=f8 (show bZ d=v by rw[R0.o,ap.o,i8 ao,iH,gw ⟨by rw[<-HV.o];exact hv0,HZ.symm⟩,HV.o]);go_wp2_with (first
               | (go_at_call 109;refine(a7.o _ a8).mono ?_;rintro e w3 ⟨rfl,ac⟩;have aa:=a8.trans (ac.mono a8.size))
               | (go_at_call 110;refine a9.mono ?_;rintro e w2 ⟨rfl,a8⟩;clear q0 q1 q2 m0 m1 m2 m3 m4 m5 m6 m7 m8 m9;obtain⟨⟨q0,q1,q2⟩,m0,m1,m2,m3,m4,m5,m6,m7,m8,m9⟩:=HC.o _ (a8)))
   go_ret;exact⟨retI r.o.symm,ag.trans ((ab.trans (af.trans (aa.mono ae.o))).mono ga)⟩
  all_goals
   have al:=f8 (show ¬ (bG d.l[k].k≠0/\fH d.l[k].k=false) from by first|exact λh=>h.1 HV.symm|exact λh=>by rw[<-HZ.o] at h;cases h.2);by_cases bl:k=0
   ·have ca:decide ((0:Int)<(k:Int))=false:=by simp;omega
    have bh:decide (0<k)=false:=by simp;omega
    have bp:=f8 (show nN d.l k=none by rw[bl,nN]);clear bl;have ad:=f8 (show iH (nN d.l k) acc nv (d.l.drop k)=if (cJ acc nv d.l[k]).1≠0 then (cJ acc nv d.l[k]).1 else iH (some d.l[k].k) (cJ acc nv d.l[k]).2.1 (cJ acc nv d.l[k]).2.2 (d.l.drop (k+1)) by
     rw[i8 ao,iH,f9 al.o,f9 (by rw[bp.o];exact(show ¬ (1:Int)=0 by decide)),f9 (by rw[bp.o];exact(show ¬ (1:Int) = -1 by decide))])
    obtain⟨v2,ax⟩:=xe ((cJ acc nv d.l[k]).1)
    have a5:f7 (∀w',BB (wp.alloc (oS x 144)) w'->CP 131 #[Pt (w.heap.size+1) 0,.agg #[I6 x.k.k,I6 x.k.i,I6 x.k.s,Sv x.k.t,Sl x.k.la x.k.ll x.k.lc,Sl x.k.fa x.k.fl x.k.fc,I6 x.n,I6 x.t,Sl x.ia x.il x.ic,Sl x.va x.vl x.vc]] w' (SlotPost' (w.heap.size+1) (w.heap.size+1) acc nv d.l[k] w' v2)):=f8 λw' h=>(aAg w HT.o (w.heap.size+1) (w.heap.size+1) x d.l[k] acc nv iv w' (ag.trans ((ab.trans (af.trans (h.mono ae.o))).mono ga)) ga lr (bi.same λb q=>⟨by omega,(ag.trans ((ab.trans (af.trans (h.mono ae.o))).mono ga)).block b q⟩) (bw.ext (a4.trans (h.mono ge)))).mono λe w2 h=>slotPost'_of h ax
    have ar:=f8 ax;clear ax;by_cases ai:v2=0
    ·subst ai;have aj:=f8 (ad.trans (f9 (λh=>h ar.symm)));go_wp2_with (first
                 | (go_at_call 131;refine(a5.o _ aa).mono ?_;rintro e w5 ⟨rfl,ay,bd,a0⟩)
                 | (go_at_call 109;refine(a7.o _ aa).mono ?_;rintro e w3 ⟨rfl,ac⟩;replace aa:=aa.trans (ac.mono aa.size);clear ac;clear q0 q1 q2 m0 m1 m2 m3 m4 m5 m6 m7 m8 m9;obtain⟨⟨q0,q1,q2⟩,m0,m1,m2,m3,m4,m5,m6,m7,m8,m9⟩:=HC.o _ (aa))
                 | (go_at_call 110;refine a9.mono ?_;rintro e w3 ⟨rfl,aa⟩;clear q0 q1 q2 m0 m1 m2 m3 m4 m5 m6 m7 m8 m9;obtain⟨⟨q0,q1,q2⟩,m0,m1,m2,m3,m4,m5,m6,m7,m8,m9⟩:=HC.o _ (aa)))
     go_roundw
     case rel =>
      obtain⟨bg,aw⟩:=a0 (by first|rfl|trivial);exact⟨k+1,(cJ acc nv d.l[k]).2.1,(cJ acc nv d.l[k]).2.2,bg,by omega,by go_num,aw.self,ab.trans ((af.trans (aa.mono ae.o)).trans ay),by rw[ap.o,aj.o,qK d.l k ao]⟩
     case measure=>simp[intOf];omega
    ·have r:=f8 (show bZ d=v2 by rw[R0.o,ap.o,ad.o,gw (by rw[<-ar.o];exact ai),ar.o]);go_wp2_with (first
                 | (go_at_call 131;refine(a5.o _ aa).mono ?_;rintro e w5 ⟨rfl,ay,bd,a0⟩)
                 | (go_at_call 109;refine(a7.o _ aa).mono ?_;rintro e w3 ⟨rfl,ac⟩;replace aa:=aa.trans (ac.mono aa.size);clear ac;clear q0 q1 q2 m0 m1 m2 m3 m4 m5 m6 m7 m8 m9;obtain⟨⟨q0,q1,q2⟩,m0,m1,m2,m3,m4,m5,m6,m7,m8,m9⟩:=HC.o _ (aa))
                 | (go_at_call 110;refine a9.mono ?_;rintro e w3 ⟨rfl,aa⟩;clear q0 q1 q2 m0 m1 m2 m3 m4 m5 m6 m7 m8 m9;obtain⟨⟨q0,q1,q2⟩,m0,m1,m2,m3,m4,m5,m6,m7,m8,m9⟩:=HC.o _ (aa)))
     go_ret;exact⟨retI r.o.symm,ag.trans ((ab.trans ((af.trans (aa.mono ae.o)).trans ay)).mono ga)⟩
   ·obtain⟨k1,bm⟩:∃k1,k=k1+1:=⟨k-1,by omega⟩
    have ci:IntKind.i64.wrap ((k:Int)-1)=(k:Int)-1:=ip _ ga;have b9:(0:Int)<=(k:Int)-1:=ga
    have b3:(1:Int)<=(k:Int):=ga
    have b7:1<=k:=ga
    have b6:(k:Int)-1<(sl:Int):=ga
    have bv:k-1=k1:=ga
    have ca:decide ((0:Int)<(k:Int))=true:=by simp;omega
    have bh:decide (0<k)=true:=by simp;omega
    have aq:k1<d.l.length:=ga
    obtain⟨y,bu,bt⟩:=HX.o k1 aq;obtain⟨cc,bj⟩:=xe (cM d.l[k].k d.l[k1].k)
    have b0:nN d.l k=some d.l[k1].k:=by rw[show nN d.l k=nN d.l (k1+1) by rw[bm]];exact qK d.l k1 aq
    have bk:=f8 (show cc=cmpP (nN d.l k) d.l[k].k by rw[bj,b0];rfl);clear b0;have HY:f7 (∀w',BB (wp.alloc (oS x 144)) w'->w'.cell? ⟨b,o+(k-1) * 10,none⟩=some (I6 y.k.k)/\w'.cell? ⟨b,o+(k-1) * 10+1,none⟩=some (I6 y.k.i)/\w'.cell? ⟨b,o+(k-1) * 10+2,none⟩=some (I6 y.k.s)/\w'.cell? ⟨b,o+(k-1) * 10+3,none⟩=some (Sv y.k.t)/\w'.cell? ⟨b,o+(k-1) * 10+4,none⟩=some (Sl y.k.la y.k.ll y.k.lc)/\w'.cell? ⟨b,o+(k-1) * 10+5,none⟩=some (Sl y.k.fa y.k.fl y.k.fc)):=f8 λw' h=>by
     have hw:=ag.trans ((ab.trans (af.trans (h.mono ae.o))).mono ga);rw[bv];obtain⟨y0,y1,y2,y3,y4,y5,_⟩:=(bu.same (hw.block b HB.o)).slot;exact⟨y0,y1,y2,y3,y4,y5⟩
    have be:f7 (∀w',BB (wp.alloc (oS x 144)) w'->CP 130 #[.agg #[I6 x.k.k,I6 x.k.i,I6 x.k.s,Sv x.k.t,Sl x.k.la x.k.ll x.k.lc,Sl x.k.fa x.k.fl x.k.fc],.agg #[I6 y.k.k,I6 y.k.i,I6 y.k.s,Sv y.k.t,Sl y.k.la y.k.ll y.k.lc,Sl y.k.fa y.k.fl y.k.fc]] w' (Rt (I6 cc) w')):=f8 λw' h=>by
     have hw:=ag.trans ((ab.trans (af.trans (h.mono ae.o))).mono ga);have hs:=hw.size;rw[bj];exact sE x.k y.k _ _ w' (bi.k.same λb q=>⟨by omega,hw.block b q⟩) (bt.k.same λb q=>⟨by omega,hw.block b q⟩)
    clear bu bt bj bm bl bv aq;go_upto_region 14 with (first
     | (go_at_call 109;refine(a7.o _ aa).mono ?_;rintro e w3 ⟨rfl,ac⟩;replace aa:=aa.trans (ac.mono aa.size);clear ac;clear q0 q1 q2 m0 m1 m2 m3 m4 m5 m6 m7 m8 m9;obtain⟨⟨q0,q1,q2⟩,m0,m1,m2,m3,m4,m5,m6,m7,m8,m9⟩:=HC.o _ (aa))
     | (go_at_call 110;refine a9.mono ?_;rintro e w3 ⟨rfl,aa⟩;clear q0 q1 q2 m0 m1 m2 m3 m4 m5 m6 m7 m8 m9;obtain⟨⟨q0,q1,q2⟩,m0,m1,m2,m3,m4,m5,m6,m7,m8,m9⟩:=HC.o _ (aa)))
    have ak:f7 (∀w',BB w3 w'->(Ce w' w.heap.size 2 (Sl (So b o) sl sc))/\(Ce w' wp.heap.size 0 (I6 x.k.k)/\Ce w' wp.heap.size 1 (I6 x.k.i)/\Ce w' wp.heap.size 2 (I6 x.k.s)/\Ce w' wp.heap.size 3 (Sv x.k.t)/\Ce w' wp.heap.size 4 (Sl x.k.la x.k.ll x.k.lc)/\Ce w' wp.heap.size 5 (Sl x.k.fa x.k.fl x.k.fc)/\Ce w' wp.heap.size 6 (I6 x.n)/\Ce w' wp.heap.size 7 (I6 x.t)/\Ce w' wp.heap.size 8 (Sl x.ia x.il x.ic)/\Ce w' wp.heap.size 9 (Sl x.va x.vl x.vc))/\(w'.cell? ⟨b,o+(k-1) * 10,none⟩=some (I6 y.k.k)/\w'.cell? ⟨b,o+(k-1) * 10+1,none⟩=some (I6 y.k.i)/\w'.cell? ⟨b,o+(k-1) * 10+2,none⟩=some (I6 y.k.s)/\w'.cell? ⟨b,o+(k-1) * 10+3,none⟩=some (Sv y.k.t)/\w'.cell? ⟨b,o+(k-1) * 10+4,none⟩=some (Sl y.k.la y.k.ll y.k.lc)/\w'.cell? ⟨b,o+(k-1) * 10+5,none⟩=some (Sl y.k.fa y.k.fl y.k.fc))):=f8 λw' h=>by
     have h1:=HC.o w' (aa.trans (h.mono aa.size));obtain⟨⟨q0,q1,q2⟩,m0,m1,m2,m3,m4,m5,m6,m7,m8,m9⟩:=h1;have h2:=HY.o w' (aa.trans (h.mono aa.size));exact⟨q2,⟨m0,m1,m2,m3,m4,m5,m6,m7,m8,m9⟩,h2⟩
    have bo:f7 (∀w',BB w3 w'->CP 130 #[.agg #[I6 x.k.k,I6 x.k.i,I6 x.k.s,Sv x.k.t,Sl x.k.la x.k.ll x.k.lc,Sl x.k.fa x.k.fl x.k.fc],.agg #[I6 y.k.k,I6 y.k.i,I6 y.k.s,Sv y.k.t,Sl y.k.la y.k.ll y.k.lc,Sl y.k.fa y.k.fl y.k.fc]] w' (Rt (I6 cc) w')):=f8 λw' h=>be.o w' (aa.trans (h.mono aa.size));clear q0 q1 q2 m0 m1 m2 m3 m4 m5 m6 m7 m8 m9;refine aP 10 (λw'=>BB w3 w') gd gd gd gb ((gx _ _).drew) (λhS=>?_);simp only[zdm,zdn,zdp,zdq]
    refine tC 0 ak ?_;refine tC 1 ak ?_;refine tC 2 ak ?_;refine tC 3 ak ?_;refine tC 4 ak ?_;refine tC 5 ak ?_;refine tC 6 ak ?_;refine tC 7 ak ?_;refine tC 8 ak ?_;refine yr 9 λK hK=>?_;go_simp;go_at_call 130;refine(bo.o _ hS).mono ?_;rintro e w4 ⟨rfl,a1⟩;refine kOQ hK (hS.trans (a1.mono hS.size)) λhS=>?_;clear hK K
    refine iq gd ?_ _
    (try dsimp only)
    have au:=aa.trans (hS.mono aa.size);have b5:=HC.o _ au;clear hS ak bo a1;obtain⟨⟨q0,q1,q2⟩,m0,m1,m2,m3,m4,m5,m6,m7,m8,m9⟩:=b5;clear q0 q1 q2;by_cases c0:cc=0
    ·have br:(cc==0)=true:=by simp[c0]
     have r:=f8 (show bZ d=7 by rw[R0.o,ap.o,i8 ao,iH,f9 al.o,<-bk.o,gw c0]);go_wp2;go_ret;exact⟨retI r.o.symm,ag.trans ((ab.trans (af.trans (au.mono ae.o))).mono ga)⟩
    by_cases c1:cc = -1
    ·have cb:(cc == -1)=true:=by simp[c1]
     have br:(cc==0)=false:=by simp[c0]
     have r:=f8 (show bZ d=24 by rw[R0.o,ap.o,i8 ao,iH,f9 al.o,<-bk.o,f9 c0,gw c1]);go_wp2;go_ret;exact⟨retI r.o.symm,ag.trans ((ab.trans (af.trans (au.mono ae.o))).mono ga)⟩
    have br:(cc==0)=false:=by simp[c0]
    have cb:(cc == -1)=false:=by simp[c1]
    have ad:=f8 (show iH (nN d.l k) acc nv (d.l.drop k)=if (cJ acc nv d.l[k]).1≠0 then (cJ acc nv d.l[k]).1 else iH (some d.l[k].k) (cJ acc nv d.l[k]).2.1 (cJ acc nv d.l[k]).2.2 (d.l.drop (k+1)) by rw[i8 ao,iH,f9 al.o,<-bk.o,f9 c0,f9 c1]);obtain⟨v2,ax⟩:=xe ((cJ acc nv d.l[k]).1)
    have a5:f7 (∀w',BB (wp.alloc (oS x 144)) w'->CP 131 #[Pt (w.heap.size+1) 0,.agg #[I6 x.k.k,I6 x.k.i,I6 x.k.s,Sv x.k.t,Sl x.k.la x.k.ll x.k.lc,Sl x.k.fa x.k.fl x.k.fc,I6 x.n,I6 x.t,Sl x.ia x.il x.ic,Sl x.va x.vl x.vc]] w' (SlotPost' (w.heap.size+1) (w.heap.size+1) acc nv d.l[k] w' v2)):=f8 λw' h=>(aAg w HT.o (w.heap.size+1) (w.heap.size+1) x d.l[k] acc nv iv w' (ag.trans ((ab.trans (af.trans (h.mono ae.o))).mono ga)) ga lr (bi.same λb q=>⟨by omega,(ag.trans ((ab.trans (af.trans (h.mono ae.o))).mono ga)).block b q⟩) (bw.ext (a4.trans (h.mono ge)))).mono λe w2 h=>slotPost'_of h ax
    have ar:=f8 ax;clear ax;by_cases ai:v2=0
    ·subst ai;have aj:=f8 (ad.trans (f9 (λh=>h ar.symm)));go_wp2_with (go_at_call 131;refine(a5.o _ au).mono ?_;rintro e w5 ⟨rfl,ay,bd,a0⟩)
     go_roundw
     case rel =>
      obtain⟨bg,aw⟩:=a0 (by first|rfl|trivial);exact⟨k+1,(cJ acc nv d.l[k]).2.1,(cJ acc nv d.l[k]).2.2,bg,by omega,by go_num,aw.self,ab.trans ((af.trans (au.mono ae.o)).trans ay),by rw[ap.o,aj.o,qK d.l k ao]⟩
     case measure=>simp[intOf];omega
    ·have r:=f8 (show bZ d=v2 by rw[R0.o,ap.o,ad.o,gw (by rw[<-ar.o];exact ai),ar.o]);go_wp2_with (go_at_call 131;refine(a5.o _ au).mono ?_;rintro e w5 ⟨rfl,ay,bd,a0⟩)
     go_ret;exact⟨retI r.o.symm,ag.trans ((ab.trans ((af.trans (au.mono ae.o)).trans ay)).mono ga)⟩
 ·obtain rfl:k=sl:=ga
  have r:=f8 (show bZ d=0 by rw[R0.o,ap.o,show k=d.l.length from HL.o,km];cases nN d.l d.l.length<;>rfl);go_wp2;go_ret;exact⟨retI r.o.symm,ag.trans (ah.mono ga)⟩
end Go.Proofs.YtoodnaghjpkjfaaGreatDoor
