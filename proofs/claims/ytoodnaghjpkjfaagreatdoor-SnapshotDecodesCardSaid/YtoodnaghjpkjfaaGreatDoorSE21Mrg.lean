/- A part. -/
import Derived.Test.YtoodnaghjpkjfaaGreatDoorSE19Mrg
import Derived.Test.YtoodnaghjpkjfaaGreatDoorSE18Mrg
import Derived.Test.YtoodnaghjpkjfaaGreatDoorSE20Mrg
namespace Go.Proofs.YtoodnaghjpkjfaaGreatDoor
open Tryz
set_option linter.unusedVariables false
set_option maxRecDepth 100000
set_option maxHeartbeats 64000000
set_option linter.unusedSimpArgs false
open Go Go.RowKit Go.Shelf
def aR {D:Type} (f:Nat->D->Int):Nat->List D->Int
 | _,[]=>0
 | k,d :: r=>if f k d=0 then aR f (k+1) r else f k d
theorem gD {D:Type} {f:Nat->D->Int}:∀{l:List D} {m:Nat} (k:Nat) (h:k<l.length),(∀j (h1:j<l.length),j<k->f (m+j) l[j]=0)->f (m+k) l[k]≠0->aR f m l=f (m+k) l[k]
 | [],_,_,h,_,_=>absurd h ge
 | d :: r,m,0,_,_,hn=>by
   have aa:f m d≠0:=hn;show(if f m d=0 then aR f (m+1) r else f m d)=f m d;rw[f9 aa]
 | d :: r,m,k+1,h,hz,hn=>by
   have h0:f m d=0:=hz 0 ge ga;have h':k<r.length:=by simpa using h
   show(if f m d=0 then aR f (m+1) r else f m d)=f (m+(k+1)) r[k];rw[gw h0,gD (m:=m+1) k h' (λj h1 h2=>by
    have:=hz (j+1) (by simpa using h1) ga;rw[show m+1+j=m+(j+1) by omega]
    simpa using this) (by
    rw[show m+1+k=m+(k+1) by omega]
    simpa using hn),show m+1+k=m+(k+1) by omega]
theorem eY {D:Type} {f:Nat->D->Int}:∀{l:List D} {m:Nat},(∀j (h1:j<l.length),f (m+j) l[j]=0)->aR f m l=0
 | [],_,_=>rfl
 | d :: r,m,hz=>by
   have h0:f m d=0:=hz 0 ge;show(if f m d=0 then aR f (m+1) r else f m d)=0;rw[gw h0,eY (m:=m+1) (λj h1=>by
    have:=hz (j+1) (by simpa using h1);rw[show m+1+j=m+(j+1) by omega]
    simpa using this)]
def leS (a b:BA):Bool:=Op.bytesLess a.toList b.toList||a.toList==b.toList
def iC (l:List Cnt) (k:Nat) (c:Cnt):Int:=if aH c.nm=false then 12 else if 0<k/\leS c.nm (l.getD (k-1) c).nm=true then 24 else if inQ c.nu 0 999999999999999=false then 2 else 0
def jX (c:Que):Int:=if aH c.nm=false then 12 else if inQ c.nu 1 999999999999999=false then 2 else if inQ c.vr 1 999=false then 2 else if 65536<c.tx.size then 5 else 0
def qO (c:Let):Int:=if inQ c.vr 1 999=false then 2 else if aH c.nd=false then 12 else if Lib.validD c.tx.data.toList=false then 16 else fF c.m
def zV:Val:=.mk 0 0 0 ⟨#[]⟩ [] [] []
def nZ (x:Ef):Bool:=decide (x.rs.e=0)&&(decide (x.rs.ps.length=0)&&(x.sv.toList.isEmpty&&(decide (x.ca=0)&&(!x.un&&fH x.bd))))
def efE (x:Ef):Int :=
 if x.k≠1/\x.k≠2 then 11 else if aH x.nm=false then 12 else if inQ x.nu 1 999999999999999=false then 2 else if aZ x.st≠0 then aZ x.st
 else if x.k=1 then (if 65536<x.tx.size then 5 else if nZ x=false\/x.nd.toList.isEmpty=false then 3 else 0)
 else if x.tx.toList.isEmpty=false\/(x.sv.toList==x.nm.toList)=false\/mD x.rs x.st=false then 3 else if aH x.nd=false then 12 else if inQ x.ca 0 999999999999999=false then 2 else bG x.bd
def snE (x:Snp):Int :=
 if inQ x.v 0 999=false\/inQ x.e 0 1048576=false\/inQ x.t 0 17592186044416=false then 2 else if 128<x.ns.length then 9
 else orL [aR (λ_ s=>bZ s) 0 x.ns,aR (iC x.ar) 0 x.ar,aR (iC x.se) 0 x.se,aR (λ_ q=>jX q) 0 x.qs,aR (λ_ s=>qO s) 0 x.ls,aR (λ_ s=>efE s) 0 x.ps]
theorem aOb (d:Val):(cM d zV==0)=fH d:=by
 obtain⟨k,i,s,t,l,ns,fs⟩:=d;rw[n8,mg];show cM _ (.mk 0 0 0 ⟨#[]⟩ [] [] [])=0 ↔ eO k i s t l.length fs.length=true;unfold eO;rw[cM];simp only[rP,kg,mg];constructor
 ·rintro⟨h1,h2,h3,h4,h5,h6,_⟩;refine⟨gF h1,gF h2,gF h3,?_,?_,?_⟩
  ·have:=kK h4;rw[kw,this];rfl
  ·cases l with
   | nil=>rfl
   | cons a r=>rw[aY] at h5;cases h5
  ·cases fs with
   | nil=>rfl
   | cons a r=>rw[aW] at h6;cases h6
 ·rintro⟨rfl,rfl,rfl,h4,h5,h6⟩;have ab:l=[]:=kr ga;have aa:fs=[]:=kr ga;subst ab aa;have ht:t.data.toList=[]:=by rw[kw] at h4;simpa using h4
  refine⟨cX 0,cX 0,cX 0,?_,by rw[aY],by rw[aW],rfl⟩;rw[ht];exact gG []
def wG (a b:Ef):Bool:=mD a.rs b.rs&&((a.sv.toList==b.sv.toList)&&(decide (a.ca=b.ca)&&((a.un==b.un)&&(cM a.bd b.bd==0))))
section
theorem aCu (F:Nat) (ap:∀args w,(callFunc F args).run prog w=.ok (.enter F args) w) (f:Nat->Sta->Int) (a:Option Addr) (n c:Nat) (l:List Sta) (w:World) (hd:IsRow staK (· < w.heap.size) w a n c l)
 (HF:∀(k:Nat) (h:k<l.length) (x:StC) (w':World),BB w w'->staK.Is (· < w'.heap.size) w' x l[k]->CP F #[I6 k,.agg #[I6 x.n,I6 x.t,Sl x.a x.l x.c]] w' (Rt (I6 (f k l[k])) w')) :
 CP 113 #[Sl a n c,.func (.func F) #[] #[]] w (Rt (I6 (aR f 0 l)) w):=by
 have am:=hd.big;have HL:=f8 hd.len;obtain⟨HD,ai⟩:=h_2 hd HF;clear hd HF;go_enter func113,ntmps113
 go_wp2
 go_loopw [10] (λi wr=>∃k:Nat,k<=n/\i=I6 k/\(∀j (h1:j<l.length),j<k->f j l[j]=0)/\BB w wr) (λi _=>n-(intOf i).toNat)
 case atStart=>exact⟨0,ii _,rfl,λj _ h=>absurd h (lj j),gx _ _⟩
 case round =>
  obtain⟨k,hk,rfl,ac,aa⟩:=hrel;have HA:=f8 ac;clear ac;obtain⟨wp,rfl⟩:=xe (wr:World)
  have al:=f8 aa;have aj:(n:Int)<=9223372036854775807:=ga
  by_cases aq:k<n
  ·have af:k<l.length:=by have:=HL.o;omega
   obtain⟨b,o,rfl,hb,hx⟩:=HD.slot (show 0<n by omega);obtain⟨x,ah,ag⟩:=hx k af;clear hx;obtain⟨x0,x1,x2⟩:=AtG.sta (ah.same (aa.block b hb));have ak:(k:Int)<(n:Int):=ga
   have ao:(0:Int)<=(k:Int):=ga
   obtain⟨u,hu⟩:=xe (f k l[k])
   have ab:BB w (wp.alloc (.cells #[I6 x.n,I6 x.t,Sl x.a x.l x.c] 85)):=aa.alloc aa.size _;have HC:f7 (CP F #[I6 k,.agg #[I6 x.n,I6 x.t,Sl x.a x.l x.c]] (wp.alloc (.cells #[I6 x.n,I6 x.t,Sl x.a x.l x.c] 85)) λe w'=>e=.returned (I6 u)/\BB (wp.alloc (.cells #[I6 x.n,I6 x.t,Sl x.a x.l x.c] 85)) w'):=f8 (by
    rw[hu];have hs:=ab.size;exact ai.o k af x (wp.alloc (.cells #[I6 x.n,I6 x.t,Sl x.a x.l x.c] 85)) ab (staK.same (λb q=>⟨by omega,ab.block b q⟩) ag))
   obtain⟨ad,HU⟩:=h_2 ab hu;clear hu ab ah ag aa hb;by_cases hz:u=0
   ·subst hz;go_wp2_with (go_at_fn F;refine HC.mono ?_;rintro e w3 ⟨rfl,ae⟩)
    go_roundw
    case rel=>exact⟨k+1,by omega,by go_num,λj h1 h=>by
     by_cases an:j<k
     ·exact HA.o j h1 an
     ·obtain rfl:j=k:=ga
      exact HU.symm,ad.trans (ae.mono ad.size)⟩
    case measure=>simp[intOf];omega
   ·have ar:(u==0)=false:=by simp[hz]
    have HZ:=f8 hz;clear hz;go_wp2_with (go_at_fn F;refine HC.mono ?_;rintro e w3 ⟨rfl,ae⟩)
    go_ret;exact⟨retI (by
     rw[HU.o];have h0:=gD (f:=f) (m:=0) k af (λj h1 h2=>by rw[ir];exact HA.o j h1 h2) (by rw[ir,<-HU.o];exact HZ.o);rw[ir] at h0;exact h0.symm),ad.trans (ae.mono ad.size)⟩
  ·obtain rfl:k=n:=ga
   have r:=f8 (eY (f:=f) (m:=0) (l:=l) λj h1=>by rw[ir];exact HA.o j h1 (by have:=HL.o;omega));go_wp2;go_ret;exact⟨retI r.o.symm,al.o⟩
theorem aCy (F:Nat) (ap:∀args w,(callFunc F args).run prog w=.ok (.enter F args) w) (lb:Nat) (f:Nat->Cnt->Int) (a:Option Addr) (n c:Nat) (l:List Cnt) (w:World) (hd:IsRow cntK (· < w.heap.size) w a n c l)
 (HF:∀(k:Nat) (h:k<l.length) (x:Cnt) (w':World),BB w w'->cntK.Is (· < w'.heap.size) w' x l[k]->CP F #[I6 k,.agg #[Sv x.nm,I6 x.nu],Pt lb 0] w' (Rt (I6 (f k l[k])) w')) :
 CP 174 #[Sl a n c,.func (.func F) #[] #[Pt lb 0]] w (Rt (I6 (aR f 0 l)) w):=by
 have am:=hd.big;have HL:=f8 hd.len;obtain⟨HD,ai⟩:=h_2 hd HF;clear hd HF;go_enter func174,ntmps174
 go_wp2
 go_loopw [10] (λi wr=>∃k:Nat,k<=n/\i=I6 k/\(∀j (h1:j<l.length),j<k->f j l[j]=0)/\BB w wr) (λi _=>n-(intOf i).toNat)
 case atStart=>exact⟨0,ii _,rfl,λj _ h=>absurd h (lj j),gx _ _⟩
 case round =>
  obtain⟨k,hk,rfl,ac,aa⟩:=hrel;have HA:=f8 ac;clear ac;obtain⟨wp,rfl⟩:=xe (wr:World)
  have al:=f8 aa;have aj:(n:Int)<=9223372036854775807:=ga
  by_cases aq:k<n
  ·have af:k<l.length:=by have:=HL.o;omega
   obtain⟨b,o,rfl,hb,hx⟩:=HD.slot (show 0<n by omega);obtain⟨x,ah,ag⟩:=hx k af;clear hx;obtain⟨x0,x1⟩:=AtG.cnt (ah.same (aa.block b hb));have ak:(k:Int)<(n:Int):=ga
   have ao:(0:Int)<=(k:Int):=ga
   obtain⟨u,hu⟩:=xe (f k l[k])
   have ab:BB w (wp.alloc (.cells #[Sv x.nm,I6 x.nu] 87)):=aa.alloc aa.size _;have HC:f7 (CP F #[I6 k,.agg #[Sv x.nm,I6 x.nu],Pt lb 0] (wp.alloc (.cells #[Sv x.nm,I6 x.nu] 87)) λe w'=>e=.returned (I6 u)/\BB (wp.alloc (.cells #[Sv x.nm,I6 x.nu] 87)) w'):=f8 (by
    rw[hu];have hs:=ab.size;exact ai.o k af x (wp.alloc (.cells #[Sv x.nm,I6 x.nu] 87)) ab (cntK.same (λb q=>⟨by omega,ab.block b q⟩) ag))
   obtain⟨ad,HU⟩:=h_2 ab hu;clear hu ab ah ag aa hb;by_cases hz:u=0
   ·subst hz;go_wp2_with (go_at_fn F;refine HC.mono ?_;rintro e w3 ⟨rfl,ae⟩)
    go_roundw
    case rel=>exact⟨k+1,by omega,by go_num,λj h1 h=>by
     by_cases an:j<k
     ·exact HA.o j h1 an
     ·obtain rfl:j=k:=ga
      exact HU.symm,ad.trans (ae.mono ad.size)⟩
    case measure=>simp[intOf];omega
   ·have ar:(u==0)=false:=by simp[hz]
    have HZ:=f8 hz;clear hz;go_wp2_with (go_at_fn F;refine HC.mono ?_;rintro e w3 ⟨rfl,ae⟩)
    go_ret;exact⟨retI (by
     rw[HU.o];have h0:=gD (f:=f) (m:=0) k af (λj h1 h2=>by rw[ir];exact HA.o j h1 h2) (by rw[ir,<-HU.o];exact HZ.o);rw[ir] at h0;exact h0.symm),ad.trans (ae.mono ad.size)⟩
  ·obtain rfl:k=n:=ga
   have r:=f8 (eY (f:=f) (m:=0) (l:=l) λj h1=>by rw[ir];exact HA.o j h1 (by have:=HL.o;omega));go_wp2;go_ret;exact⟨retI r.o.symm,al.o⟩
theorem aCv (F:Nat) (ap:∀args w,(callFunc F args).run prog w=.ok (.enter F args) w) (f:Nat->Que->Int) (a:Option Addr) (n c:Nat) (l:List Que) (w:World) (hd:IsRow queK (· < w.heap.size) w a n c l)
 (HF:∀(k:Nat) (h:k<l.length) (x:Que) (w':World),BB w w'->queK.Is (· < w'.heap.size) w' x l[k]->CP F #[I6 k,.agg #[Sv x.nm,I6 x.nu,I6 x.vr,Sv x.tx]] w' (Rt (I6 (f k l[k])) w')) :
 CP 115 #[Sl a n c,.func (.func F) #[] #[]] w (Rt (I6 (aR f 0 l)) w):=by
 have am:=hd.big;have HL:=f8 hd.len;obtain⟨HD,ai⟩:=h_2 hd HF;clear hd HF;go_enter func115,ntmps115
 go_wp2
 go_loopw [10] (λi wr=>∃k:Nat,k<=n/\i=I6 k/\(∀j (h1:j<l.length),j<k->f j l[j]=0)/\BB w wr) (λi _=>n-(intOf i).toNat)
 case atStart=>exact⟨0,ii _,rfl,λj _ h=>absurd h (lj j),gx _ _⟩
 case round =>
  obtain⟨k,hk,rfl,ac,aa⟩:=hrel;have HA:=f8 ac;clear ac;obtain⟨wp,rfl⟩:=xe (wr:World)
  have al:=f8 aa;have aj:(n:Int)<=9223372036854775807:=ga
  by_cases aq:k<n
  ·have af:k<l.length:=by have:=HL.o;omega
   obtain⟨b,o,rfl,hb,hx⟩:=HD.slot (show 0<n by omega);obtain⟨x,ah,ag⟩:=hx k af;clear hx;obtain⟨x0,x1,x2,x3⟩:=AtG.que (ah.same (aa.block b hb));have ak:(k:Int)<(n:Int):=ga
   have ao:(0:Int)<=(k:Int):=ga
   obtain⟨u,hu⟩:=xe (f k l[k])
   have ab:BB w (wp.alloc (.cells #[Sv x.nm,I6 x.nu,I6 x.vr,Sv x.tx] 60)):=aa.alloc aa.size _;have HC:f7 (CP F #[I6 k,.agg #[Sv x.nm,I6 x.nu,I6 x.vr,Sv x.tx]] (wp.alloc (.cells #[Sv x.nm,I6 x.nu,I6 x.vr,Sv x.tx] 60)) λe w'=>e=.returned (I6 u)/\BB (wp.alloc (.cells #[Sv x.nm,I6 x.nu,I6 x.vr,Sv x.tx] 60)) w'):=f8 (by
    rw[hu];have hs:=ab.size;exact ai.o k af x (wp.alloc (.cells #[Sv x.nm,I6 x.nu,I6 x.vr,Sv x.tx] 60)) ab (queK.same (λb q=>⟨by omega,ab.block b q⟩) ag))
   obtain⟨ad,HU⟩:=h_2 ab hu;clear hu ab ah ag aa hb;by_cases hz:u=0
   ·subst hz;go_wp2_with (go_at_fn F;refine HC.mono ?_;rintro e w3 ⟨rfl,ae⟩)
    go_roundw
    case rel=>exact⟨k+1,by omega,by go_num,λj h1 h=>by
     by_cases an:j<k
     ·exact HA.o j h1 an
     ·obtain rfl:j=k:=ga
      exact HU.symm,ad.trans (ae.mono ad.size)⟩
    case measure=>simp[intOf];omega
   ·have ar:(u==0)=false:=by simp[hz]
    have HZ:=f8 hz;clear hz;go_wp2_with (go_at_fn F;refine HC.mono ?_;rintro e w3 ⟨rfl,ae⟩)
    go_ret;exact⟨retI (by
     rw[HU.o];have h0:=gD (f:=f) (m:=0) k af (λj h1 h2=>by rw[ir];exact HA.o j h1 h2) (by rw[ir,<-HU.o];exact HZ.o);rw[ir] at h0;exact h0.symm),ad.trans (ae.mono ad.size)⟩
  ·obtain rfl:k=n:=ga
   have r:=f8 (eY (f:=f) (m:=0) (l:=l) λj h1=>by rw[ir];exact HA.o j h1 (by have:=HL.o;omega));go_wp2;go_ret;exact⟨retI r.o.symm,al.o⟩
theorem aCw (F:Nat) (aw:∀args w,(callFunc F args).run prog w=.ok (.enter F args) w) (f:Nat->Let->Int) (a:Option Addr) (n c:Nat) (l:List Let) (w:World) (hd:IsRow letK (· < w.heap.size) w a n c l)
 (HF:∀(k:Nat) (h:k<l.length) (x:LetC) (w':World),BB w w'->letK.Is (· < w'.heap.size) w' x l[k]->CP F #[I6 k,.agg #[I6 x.m.st.e,Sl x.m.st.a x.m.st.n x.m.st.c,I6 x.m.m,Sl x.m.a x.m.n x.m.c,I6 x.m.b.k,I6 x.m.b.i,I6 x.m.b.s,Sv x.m.b.t,Sl x.m.b.la x.m.b.ll x.m.b.lc,Sl x.m.b.fa x.m.b.fl x.m.b.fc,Sv x.nd,Sv x.tx,I6 x.vr]] w' (Rt (I6 (f k l[k])) w')) :
 CP 117 #[Sl a n c,.func (.func F) #[] #[]] w (Rt (I6 (aR f 0 l)) w):=by
 have ai:=hd.big;have HL:=f8 hd.len;obtain⟨HD,am⟩:=h_2 hd HF;clear hd HF;go_enter func117,ntmps117
 go_wp2
 go_loopw [10] (λi wr=>∃k:Nat,k<=n/\i=I6 k/\(∀j (h1:j<l.length),j<k->f j l[j]=0)/\BB w wr) (λi _=>n-(intOf i).toNat)
 case atStart=>exact⟨0,ii _,rfl,λj _ h=>absurd h (lj j),gx _ _⟩
 case round =>
  obtain⟨k,hk,rfl,ac,ab⟩:=hrel;have HA:=f8 ac;clear ac;obtain⟨wp,rfl⟩:=xe (wr:World)
  have al:=f8 ab;have an:(n:Int)<=9223372036854775807:=ga
  by_cases av:k<n
  ·have ae:k<l.length:=by have:=HL.o;omega
   obtain⟨b,o,rfl,hb,hx⟩:=HD.slot (show 0<n by omega);obtain⟨x,ag,ah⟩:=hx k ae;clear hx;obtain⟨x0,x1,x2,x3,x4,x5,x6,x7,x8,x9,ao,ap,aq⟩:=AtG.let' (ag.same (ab.block b hb));have ak:(k:Int)<(n:Int):=ga
   have ar:(0:Int)<=(k:Int):=ga
   obtain⟨u,hu⟩:=xe (f k l[k])
   have aa:BB w (wp.alloc (Ol x 71)):=ab.alloc ab.size _
   have HC:f7 (CP F #[I6 k,.agg #[I6 x.m.st.e,Sl x.m.st.a x.m.st.n x.m.st.c,I6 x.m.m,Sl x.m.a x.m.n x.m.c,I6 x.m.b.k,I6 x.m.b.i,I6 x.m.b.s,Sv x.m.b.t,Sl x.m.b.la x.m.b.ll x.m.b.lc,Sl x.m.b.fa x.m.b.fl x.m.b.fc,Sv x.nd,Sv x.tx,I6 x.vr]] (wp.alloc (Ol x 71)) λe w'=>e=.returned (I6 u)/\BB (wp.alloc (Ol x 71)) w'):=f8 (by
    rw[hu];have hs:=aa.size;exact am.o k ae x (wp.alloc (Ol x 71)) aa (letK.same (λb q=>⟨by omega,aa.block b q⟩) ah))
   obtain⟨ad,HU⟩:=h_2 aa hu;clear hu aa ag ah ab hb;by_cases hz:u=0
   ·subst hz;go_wp2_with (go_at_fn F;refine HC.mono ?_;rintro e w3 ⟨rfl,af⟩)
    go_roundw
    case rel=>exact⟨k+1,by omega,by go_num,λj h1 h=>by
     by_cases aj:j<k
     ·exact HA.o j h1 aj
     ·obtain rfl:j=k:=ga
      exact HU.symm,ad.trans (af.mono ad.size)⟩
    case measure=>simp[intOf];omega
   ·have au:(u==0)=false:=by simp[hz]
    have HZ:=f8 hz;clear hz;go_wp2_with (go_at_fn F;refine HC.mono ?_;rintro e w3 ⟨rfl,af⟩)
    go_ret;exact⟨retI (by
     rw[HU.o];have h0:=gD (f:=f) (m:=0) k ae (λj h1 h2=>by rw[ir];exact HA.o j h1 h2) (by rw[ir,<-HU.o];exact HZ.o);rw[ir] at h0;exact h0.symm),ad.trans (af.mono ad.size)⟩
  ·obtain rfl:k=n:=ga
   have r:=f8 (eY (f:=f) (m:=0) (l:=l) λj h1=>by rw[ir];exact HA.o j h1 (by have:=HL.o;omega));go_wp2;go_ret;exact⟨retI r.o.symm,al.o⟩
section
attribute [-go_sem] loadCellsFrom storeCells
attribute [local go_sem] mG mF pT tF tE sY aHm aHl mB mA
theorem aCx (F:Nat) (aw:∀args w,(callFunc F args).run prog w=.ok (.enter F args) w) (f:Nat->Ef->Int) (a:Option Addr) (n c:Nat) (l:List Ef) (w:World) (hd:IsRow efK (· < w.heap.size) w a n c l)
 (HF:∀(k:Nat) (h:k<l.length) (x:EfC) (w':World),BB w w'->efK.Is (· < w'.heap.size) w' x l[k]->CP F #[I6 k,.agg #[I6 x.k,Sv x.nm,I6 x.nu,Sv x.tx,I6 x.st.e,Sl x.st.a x.st.n x.st.c,I6 x.rs.e,Sl x.rs.a x.rs.n x.rs.c,Sv x.sv,I6 x.ca,.bool x.un,I6 x.bd.k,I6 x.bd.i,I6 x.bd.s,Sv x.bd.t,Sl x.bd.la x.bd.ll x.bd.lc,Sl x.bd.fa x.bd.fl x.bd.fc,Sv x.nd]] w' (Rt (I6 (f k l[k])) w')) :
 CP 119 #[Sl a n c,.func (.func F) #[] #[]] w (Rt (I6 (aR f 0 l)) w):=by
 have ai:=hd.big;have HL:=f8 hd.len;obtain⟨HD,ap⟩:=h_2 hd HF;clear hd HF;go_enter func119,ntmps119
 go_wp2
 go_loopw [10] (λi wr=>∃k:Nat,k<=n/\i=I6 k/\(∀j (h1:j<l.length),j<k->f j l[j]=0)/\BB w wr) (λi _=>n-(intOf i).toNat)
 case atStart=>exact⟨0,ii _,rfl,λj _ h=>absurd h (lj j),gx _ _⟩
 case round =>
  obtain⟨k,hk,rfl,ac,ab⟩:=hrel;have HA:=f8 ac;clear ac;obtain⟨wp,rfl⟩:=xe (wr:World)
  have ao:=f8 ab;have aq:(n:Int)<=9223372036854775807:=ga
  by_cases av:k<n
  ·have ae:k<l.length:=by have:=HL.o;omega
   obtain⟨b,o,rfl,hb,hx⟩:=HD.slot (show 0<n by omega);obtain⟨x,ag,ah⟩:=hx k ae;clear hx;have an:=aJ2 (o:=o+k * 18) (ag.same (ab.block b hb));have aj:=λz hz=>st_ef wp z hz x;have ak:=aNe wp x;dsimp only[EfC.cs] at an aj ak;have am:(k:Int)<(n:Int):=ga
   have ar:(0:Int)<=(k:Int):=ga
   obtain⟨u,hu⟩:=xe (f k l[k])
   have aa:BB w (wp.alloc (Oe x 94)):=ab.alloc ab.size _
   have HC:f7 (CP F #[I6 k,.agg #[I6 x.k,Sv x.nm,I6 x.nu,Sv x.tx,I6 x.st.e,Sl x.st.a x.st.n x.st.c,I6 x.rs.e,Sl x.rs.a x.rs.n x.rs.c,Sv x.sv,I6 x.ca,.bool x.un,I6 x.bd.k,I6 x.bd.i,I6 x.bd.s,Sv x.bd.t,Sl x.bd.la x.bd.ll x.bd.lc,Sl x.bd.fa x.bd.fl x.bd.fc,Sv x.nd]] (wp.alloc (Oe x 94)) λe w'=>e=.returned (I6 u)/\BB (wp.alloc (Oe x 94)) w'):=f8 (by
    rw[hu];have hs:=aa.size;exact ap.o k ae x (wp.alloc (Oe x 94)) aa (efK.same (λb q=>⟨by omega,aa.block b q⟩) ah))
   obtain⟨ad,HU⟩:=h_2 aa hu;clear hu aa ag ah ab hb;by_cases hz:u=0
   ·subst hz;go_wp2_with (go_at_fn F;refine HC.mono ?_;rintro e w3 ⟨rfl,af⟩)
    go_roundw
    case rel=>exact⟨k+1,by omega,by go_num,λj h1 h=>by
     by_cases al:j<k
     ·exact HA.o j h1 al
     ·obtain rfl:j=k:=ga
      exact HU.symm,ad.trans (af.mono ad.size)⟩
    case measure=>simp[intOf];omega
   ·have au:(u==0)=false:=by simp[hz]
    have HZ:=f8 hz;clear hz;go_wp2_with (go_at_fn F;refine HC.mono ?_;rintro e w3 ⟨rfl,af⟩)
    go_ret;exact⟨retI (by
     rw[HU.o];have h0:=gD (f:=f) (m:=0) k ae (λj h1 h2=>by rw[ir];exact HA.o j h1 h2) (by rw[ir,<-HU.o];exact HZ.o);rw[ir] at h0;exact h0.symm),ad.trans (af.mono ad.size)⟩
  ·obtain rfl:k=n:=ga
   have r:=f8 (eY (f:=f) (m:=0) (l:=l) λj h1=>by rw[ir];exact HA.o j h1 (by have:=HL.o;omega));go_wp2;go_ret;exact⟨retI r.o.symm,ao.o⟩
end
end
theorem zR (l:List Cnt) (k:Nat) (hk:k<l.length) (x:Cnt) (lb:Nat) (a:Option Addr) (n c:Nat) (w:World) (ac:w.heap[lb]?=some (.cells #[Sl a n c] 23)) (hd:IsRow cntK (· < w.heap.size) w a n c l) :
 CP 175 #[I6 k,.agg #[Sv x.nm,I6 x.nu],Pt lb 0] w (Rt (I6 (iC l k x)) w):=by
 obtain⟨nm,nu⟩:=x;dsimp only;cases h0:aH nm
 ·have HE:=f8 (show iC l k ⟨nm,nu⟩=12 by simp[iC,h0]);clear hd ac;go_enter func175,ntmps175
  go_wp2_with (go_at_call 78;refine(aS _ _).mono ?_;rintro e w3 ⟨rfl,ab⟩;obtain rfl:=ab)
  go_ret;exact⟨by rw[HE.o];rfl,((gx _ _).alloc lr _)⟩
 ·by_cases ah:k=0
  ·subst ah;have HE:f7 (iC l 0 ⟨nm,nu⟩=if inQ nu 0 999999999999999=false then 2 else 0):=f8 (by simp[iC,h0]);clear hd ac hk;go_enter func175,ntmps175
   go_upto_region 3 with (go_at_call 78;refine(aS _ _).mono ?_;rintro e w3 ⟨rfl,ab⟩;obtain rfl:=ab)
   refine iz (S:=(λ_=>True)) gd (trivial) (λhS=>?_);refine tA 0 ?_;refine tA 1 ?_;refine tA 2 ?_;refine jz (i:=3) (oi:=_) (v:=undef) rfl gd gd gd (λ_ _ _ h=>h) (Or.inr ⟨by rfl,rfl⟩) hS ?_;simp only[Act.put,pq];refine jz (i:=4) (oi:=_) (v:=undef) rfl gd gd gd (λ_ _ _ h=>h) (Or.inr ⟨by rfl,rfl⟩) hS ?_;simp only[Act.put,pq];refine jz (i:=5) (oi:=_) (v:=undef) rfl gd gd gd (λ_ _ _ h=>h) (Or.inr ⟨by rfl,rfl⟩) hS ?_;simp only[Act.put,pq]
   refine jz (i:=6) (oi:=_) (v:=undef) rfl gd gd gd (λ_ _ _ h=>h) (Or.inr ⟨by rfl,rfl⟩) hS ?_;simp only[Act.put,pq];refine jz (i:=7) (oi:=_) (v:=undef) rfl gd gd gd (λ_ _ _ h=>h) (Or.inr ⟨by rfl,rfl⟩) hS ?_;simp only[Act.put,pq];refine jz (i:=8) (oi:=_) (v:=undef) rfl gd gd gd (λ_ _ _ h=>h) (Or.inr ⟨by rfl,rfl⟩) hS ?_;simp only[Act.put,pq]
   refine jz (i:=9) (oi:=_) (v:=undef) rfl gd gd gd (λ_ _ _ h=>h) (Or.inr ⟨by rfl,rfl⟩) hS ?_;simp only[Act.put,pq];refine jz (i:=10) (oi:=_) (v:=undef) rfl gd gd gd (λ_ _ _ h=>h) (Or.inr ⟨by rfl,rfl⟩) hS ?_;simp only[Act.put,pq];refine jz (i:=11) (oi:=_) (v:=undef) rfl gd gd gd (λ_ _ _ h=>h) (Or.inr ⟨by rfl,rfl⟩) hS ?_;simp only[Act.put,pq];refine tA 12 ?_;refine tA 13 ?_;refine iq gd ?_ _
   (try dsimp only)
   skip
   cases h2:inQ nu 0 999999999999999
   ·go_wp2_with (go_at_call 68;refine(bO _ _ _ _).mono ?_;rintro e w3 ⟨rfl,ab⟩;obtain rfl:=ab)
    go_ret;exact⟨by rw[HE.o,h2];rfl,((gx _ _).alloc lr _).drew⟩
   ·go_wp2_with (go_at_call 68;refine(bO _ _ _ _).mono ?_;rintro e w3 ⟨rfl,ab⟩;obtain rfl:=ab)
    go_ret;exact⟨by rw[HE.o,h2];rfl,((gx _ _).alloc lr _).drew⟩
  ·have hl:=hd.len;obtain⟨b,o,rfl,hb,hx⟩:=hd.slot (show 0<n by omega);obtain⟨y,ag,ad⟩:=hx (k-1) ga;have af:=ag.cnt;have ae:l.getD (k-1) ⟨nm,nu⟩=y:=by rw[pn,n3 (by omega:k-1<l.length)];exact ad.e.symm
   obtain⟨q,hq⟩:=xe (leS nm y.nm)
   have ak:(Op.bytesLess nm.toList y.nm.toList||nm.toList==y.nm.toList)=q:=hq.symm;have HE:f7 (iC l k ⟨nm,nu⟩=if q=true then 24 else if inQ nu 0 999999999999999=false then 2 else 0):=f8 (by unfold iC;rw[ae,hq];simp[h0,show 0<k by omega]);have al:0<k:=ga
   have aj:IntKind.i64.wrap ((k:Int)-1)=((k-1:Nat):Int):=by rw[ip _ (by have:=hd.big;have:n * 24<=140737488351232:=this;omega)];omega
   have am:((k-1:Nat):Int)<(n:Int):=ga
   have an:(0:Int)<=((k-1:Nat):Int):=ga
   have ai:f7 ((w.alloc (.cells #[Sv nm,I6 nu] 87)).drew.heap[w.heap.size]?=some (.cells #[Sv nm,I6 nu] 87)/\(w.alloc (.cells #[Sv nm,I6 nu] 87)).drew.heap[lb]?=some (.cells #[Sl (So b o) n c] 23)/\(w.alloc (.cells #[Sv nm,I6 nu] 87)).drew.heap[b]?=w.heap[b]?):=f8 ⟨ib w _,aC _ ac,(iy _ _ _ hb)⟩
   have aa:=f8 (λ(w':World) (h:w'.heap[w.heap.size]?=some (.cells #[Sv nm,I6 nu] 87)/\w'.heap[lb]?=some (.cells #[Sl (So b o) n c] 23)/\w'.heap[b]?=w.heap[b]?)=>(show Ce w' w.heap.size 0 (Sv nm)/\Ce w' lb 0 (Sl (So b o) n c)/\w'.cell? ⟨b,o+(k-1) * 2,none⟩=some (Sv y.nm) from⟨aA h.1 0,aA h.2.1 0,(jg (w:=w) (a:=⟨b,o+(k-1) * 2,none⟩) h.2.2).trans af.1⟩));clear hd ac hx ag ad af ae hq hl hb;go_enter func175,ntmps175
   go_upto_region 3 with (go_at_call 78;refine(aS _ _).mono ?_;rintro e w3 ⟨rfl,ab⟩;obtain rfl:=ab)
   refine iz (S:=(λw'=>w'.heap[w.heap.size]?=some (.cells #[Sv nm,I6 nu] 87)/\w'.heap[lb]?=some (.cells #[Sl (So b o) n c] 23)/\w'.heap[b]?=w.heap[b]?)) gd (ai.o) (λhS=>?_);refine tC 0 aa ?_;refine tC 1 aa ?_;refine tC 2 aa ?_;refine tC 3 aa ?_;refine tC 4 aa ?_;refine tC 5 aa ?_;refine tC 6 aa ?_;refine tC 7 aa ?_;refine tC 8 aa ?_;refine tC 9 aa ?_;refine tC 10 aa ?_;refine tC 11 aa ?_;refine tC 12 aa ?_;refine tC 13 aa ?_;refine iq gd ?_ _
   (try dsimp only)
   skip
   cases q
   ·cases h2:inQ nu 0 999999999999999
    ·go_wp2_with (go_at_call 68;refine(bO _ _ _ _).mono ?_;rintro e w3 ⟨rfl,ab⟩;obtain rfl:=ab)
     go_ret;exact⟨by rw[HE.o,h2];rfl,((gx _ _).alloc lr _).drew⟩
    ·go_wp2_with (go_at_call 68;refine(bO _ _ _ _).mono ?_;rintro e w3 ⟨rfl,ab⟩;obtain rfl:=ab)
     go_ret;exact⟨by rw[HE.o,h2];rfl,((gx _ _).alloc lr _).drew⟩
   ·go_wp2;go_ret;exact⟨by rw[HE.o];rfl,((gx _ _).alloc lr _).drew⟩
theorem aE3 (k:Int) (x:Que) (w:World):CP 116 #[I6 k,.agg #[Sv x.nm,I6 x.nu,I6 x.vr,Sv x.tx]] w (Rt (I6 (jX x)) w):=by
 obtain⟨nm,nu,vr,tx⟩:=x;have hz:BB w w:=gx _ _;cases h0:aH nm
 ·have HE:=f8 (show jX ⟨nm,nu,vr,tx⟩=12 by simp[jX,h0]);go_enter func116,ntmps116
  go_wp2_with (first|(go_at_call 78;refine(aS _ _).mono ?_;rintro e w3 ⟨rfl,aa⟩;obtain rfl:=aa)|(go_at_call 68;refine(bO _ _ _ _).mono ?_;rintro e w3 ⟨rfl,aa⟩;obtain rfl:=aa))
  go_ret;exact⟨by rw[HE.o];rfl,(gx _ _).alloc lr _⟩
 ·skip
  cases h1:inQ nu 1 999999999999999
  ·have HE:=f8 (show jX ⟨nm,nu,vr,tx⟩=2 by simp[jX,h0,h1]);go_enter func116,ntmps116
   go_wp2_with (first|(go_at_call 78;refine(aS _ _).mono ?_;rintro e w3 ⟨rfl,aa⟩;obtain rfl:=aa)|(go_at_call 68;refine(bO _ _ _ _).mono ?_;rintro e w3 ⟨rfl,aa⟩;obtain rfl:=aa))
   go_ret;exact⟨by rw[HE.o];rfl,(gx _ _).alloc lr _⟩
  ·skip
   cases h2:inQ vr 1 999
   ·have HE:=f8 (show jX ⟨nm,nu,vr,tx⟩=2 by simp[jX,h0,h1,h2]);go_enter func116,ntmps116
    go_wp2_with (first|(go_at_call 78;refine(aS _ _).mono ?_;rintro e w3 ⟨rfl,aa⟩;obtain rfl:=aa)|(go_at_call 68;refine(bO _ _ _ _).mono ?_;rintro e w3 ⟨rfl,aa⟩;obtain rfl:=aa))
    go_ret;exact⟨by rw[HE.o];rfl,(gx _ _).alloc lr _⟩
   ·skip
    by_cases h3:(65536:Int)<(tx.size:Int)
    ·have HE:=f8 (show jX ⟨nm,nu,vr,tx⟩=5 by simp[jX,h0,h1,h2,h3]<;>omega);go_enter func116,ntmps116
     go_wp2_with (first|(go_at_call 78;refine(aS _ _).mono ?_;rintro e w3 ⟨rfl,aa⟩;obtain rfl:=aa)|(go_at_call 68;refine(bO _ _ _ _).mono ?_;rintro e w3 ⟨rfl,aa⟩;obtain rfl:=aa))
     go_ret;exact⟨by rw[HE.o];rfl,(gx _ _).alloc lr _⟩
    ·skip
     go_enter func116,ntmps116
     go_wp2_with (first|(go_at_call 78;refine(aS _ _).mono ?_;rintro e w3 ⟨rfl,aa⟩;obtain rfl:=aa)|(go_at_call 68;refine(bO _ _ _ _).mono ?_;rintro e w3 ⟨rfl,aa⟩;obtain rfl:=aa))
     go_ret;have HE:=f8 (show jX ⟨nm,nu,vr,tx⟩=0 by simp[jX,h0,h1,h2]<;>omega);exact⟨by rw[HE.o];rfl,(gx _ _).alloc lr _⟩
theorem aN3 (a:Option Addr) (n c:Nat) (xs:List Int) (w:World) (aa:n=xs.length) (ag:n * 8<=140737488351232) (ad:0<n->∃b o,a=some ⟨b,o,none⟩/\∀(j:Nat) (h:j<xs.length),w.cell? ⟨b,o+j,none⟩=some (I6 xs[j])):CP 112 #[Sl a n c] w λe w'=>e=.returned (I6 (orL xs))/\w=w':=by
 obtain⟨HL,ae⟩:=h_2 aa ad;clear aa ad;go_enter func112,ntmps112
 go_wp2
 go_loop [8] (λi=>∃k:Nat,k<=n/\i=I6 k/\orL xs=orL (xs.drop k)) (λi=>n-(intOf i).toNat)
 case atStart=>exact⟨0,ii _,rfl,rfl⟩
 case round =>
  obtain⟨k,hk,rfl,ab⟩:=hrel;have HA:=f8 ab;clear ab;by_cases aj:k<n
  ·obtain⟨b,o,rfl,hc⟩:=ae.o (show 0<n by omega);have ac:k<xs.length:=by have:=HL.o;omega
   have ah:=hc k ac;clear hc;have ai:(k:Int)<(n:Int):=ga
   have af:(n:Int)<=9223372036854775807:=ga
   have hd:=aE7 xs k ac;obtain⟨z,hz⟩:=xe (xs[k])
   rw[<-hz] at ah hd;have HD:=f8 hd;clear hz hd;by_cases h0:z=0
   ·subst h0;go_wp2
    go_round
    case rel=>exact⟨k+1,by omega,by go_num,by rw[HA.o,HD.o,f9 ge]⟩
    case measure=>simp[intOf];omega
   ·have H0:=f8 h0;go_wp2;go_ret;exact⟨by rw[HA.o,HD.o,gw H0.o];rfl,rfl⟩
  ·obtain rfl:k=n:=ga
   go_wp2;go_ret;exact⟨by rw[HA.o,HL.o,km];rfl,rfl⟩
theorem aIw (xs:List Int) (w:World) (t:TypeId) (hbig:xs.length * 8<=140737488351232):CP 112 #[Sl (So w.heap.size 0) xs.length xs.length] (w.alloc (.cells (xs.map (Value.int .i64)).toArray t)) λe w'=>e=.returned (I6 (orL xs))/\w.alloc (.cells (xs.map (Value.int .i64)).toArray t)=w' :=
 aN3 _ _ _ xs _ rfl hbig λ_=>⟨_,_,rfl,λj hj=>by rw[aA (ib w _)];simp[hj]⟩
theorem aLy (k:Int) (x:StC) (d:Sta) (w:World) (hd:IsSta (· < w.heap.size) w x d) (hT:Tabs w):CP 111 #[I6 k,.agg #[I6 x.n,I6 x.t,Sl x.a x.l x.c]] w (Rt (I6 (bZ d)) w):=by
 have aa:BB w (w.alloc (.cells #[I6 x.n,I6 x.t,Sl x.a x.l x.c] 85)):=(gx _ _).alloc lr _;have HC:=f8 (fM x d _ (hd.same (S':=(· < (w.alloc (.cells #[I6 x.n,I6 x.t,Sl x.a x.l x.c] 85)).heap.size)) (w':=w.alloc (.cells #[I6 x.n,I6 x.t,Sl x.a x.l x.c] 85)) λb hb=>⟨by simp;omega,aa.block b hb⟩) (hT.below aa));dsimp only[StC.v] at HC;have HB:=f8 aa;clear aa hd hT;go_enter func111,ntmps111
 go_wp2_with (go_at_call 76;refine HC.mono ?_;rintro e w3 ⟨rfl,ab⟩)
 go_ret;exact⟨rfl,HB.trans (ab.mono HB.size)⟩
theorem sD (a:Option Addr) (n c:Nat) (l:List Cnt) (w:World) (hd:IsRow cntK (· < w.heap.size) w a n c l):CP 114 #[Sl a n c] w (Rt (I6 (aR (iC l) 0 l)) w):=by
 have ae:∀args w,(callFunc 175 args).run prog w=.ok (.enter 175 args) w:=jd func175 gd rfl;obtain⟨w1,aa⟩:=xe (w.alloc (.cells #[Sl a n c] 23))
 have ac:BB w w1:=by rw[aa];exact(gx _ _).alloc lr _
 have hz:w1.heap.size=w.heap.size+1:=by rw[aa];simp
 have hg:w1.heap[w.heap.size]?=some (.cells #[Sl a n c] 23):=by rw[aa];exact ib w _
 have ab:IsRow cntK (· < w1.heap.size) w1 a n c l:=hd.same λb hb=>⟨by omega,ac.block b hb⟩
 have HC:=f8 (aCy 175 ae w.heap.size (iC l) a n c l w1 ab (λk hk x w' hb hx=>by
  have he:x=l[k]:=hx.e;rw[<-he];exact zR l k hk x w.heap.size a n c w' (aB hb hg) (ab.same λb hb'=>⟨by have:=hb.size;omega,hb.block b hb'⟩)))
 obtain⟨HB,HW⟩:=h_2 ac aa;clear ac hz hg ab hd aa;go_enter func114,ntmps114
 go_upto_region 1 with (fail)
 rw[<-HW.o];have e0:=aA (ib w (.cells #[Sl a n c] 23)) 0;rw[<-HW.o] at e0
 (try dsimp only at e0)
 go_wp2_with (go_at_call 174;refine HC.mono ?_;rintro e w3 ⟨rfl,ad⟩)
 go_ret;exact⟨rfl,HB.trans (ad.mono HB.size)⟩
end Go.Proofs.YtoodnaghjpkjfaaGreatDoor
