/- A part. -/
import Derived.Test.YtoodnaghjpkjfaaGreatDoorSE42Mrg
import Derived.Test.YtoodnaghjpkjfaaGreatDoorSE43Mrg
import Derived.Test.YtoodnaghjpkjfaaGreatDoorSE23Mrg
namespace Go.Proofs.YtoodnaghjpkjfaaGreatDoor
open Tryz
set_option linter.unusedVariables false
set_option maxRecDepth 100000
set_option maxHeartbeats 64000000
set_option linter.unusedSimpArgs false
open Go Go.RowKit Go.Shelf
def acc {D:Type} (p:List UInt8) (f:D->List UInt8) (l:List D) (k:Nat):List UInt8:=p++(l.take k).flatMap f
theorem eH {D:Type} (p:List UInt8) (f:D->List UInt8) (l:List D):acc p f l 0=p:=by simp[acc]
theorem aFt {D:Type} (p:List UInt8) (f:D->List UInt8) (l:List D) (k:Nat) (h:k<l.length):acc p f l (k+1)=acc p f l k++f l[k]:=by
 unfold acc;rw[mh h,mn,ka];simp
theorem fO {D:Type} (p:List UInt8) (f:D->List UInt8) (l:List D):acc p f l l.length=p++l.flatMap f:=by simp[acc]
theorem aOp {D:Type} (p:List UInt8) (f:D->List UInt8) (l:List D) (k:Nat):(acc p f l k).length<=(p++l.flatMap f).length:=by
 have h:(l.flatMap f).length=((l.take k).flatMap f).length+((l.drop k).flatMap f).length:=by
  rw[<-ik,<-mn,List.take_append_drop]
 unfold acc;rw[ik,ik];omega
theorem gC {D:Type} {f:Nat->D->Int}:∀{l:List D} {m:Nat},aR f m l=0->∀j (h:j<l.length),f (m+j) l[j]=0
 | [],_,_,j,h=>absurd h ge
 | x :: r,m,hz,j,h=>by
   have aa:(if f m x=0 then aR f (m+1) r else f m x)=0:=hz;by_cases h0:f m x=0
   ·rw[gw h0] at aa;cases j with
    | zero=>exact h0
    | succ j =>
      have:=gC aa j gv;rw[show m+(j+1)=m+1+j by omega]
      simpa using this
   ·rw[f9 h0] at aa;exact absurd aa h0
theorem aKf {a b c e f g:Int} (h:orL [a,b,c,e,f,g]=0):a=0/\b=0/\c=0/\e=0/\f=0/\g=0:=by
 by_cases h1:a=0<;>by_cases h2:b=0<;>by_cases h3:c=0<;>by_cases h4:e=0<;>by_cases h5:f=0<;>by_cases h6:g=0<;>simp_all [orL]
structure SnOk (d:Snp):Prop where
 v:0<=d.v/\d.v<=999
 e:0<=d.e/\d.e<=1048576
 t:0<=d.t/\d.t<=17592186044416
 ar:∀j (h:j<d.ar.length),0<=d.ar[j].nu/\d.ar[j].nu<=999999999999999
 se:∀j (h:j<d.se.length),0<=d.se[j].nu/\d.se[j].nu<=999999999999999
 qs:∀j (h:j<d.qs.length),1<=d.qs[j].nu/\d.qs[j].nu<=999999999999999/\1<=d.qs[j].vr/\d.qs[j].vr<=999/\d.qs[j].tx.size<=65536
 ls:∀j (h:j<d.ls.length),1<=d.ls[j].vr/\d.ls[j].vr<=999
 ps:∀j (h:j<d.ps.length),efE d.ps[j]=0
theorem aBc {l:List Cnt} {k:Nat} {c:Cnt} (h:iC l k c=0):0<=c.nu/\c.nu<=999999999999999:=by
 unfold iC at h;by_cases h1:aH c.nm=false
 ·rw[gw h1] at h;exact absurd h gb
 rw[f9 h1] at h;by_cases h2:0<k/\leS c.nm (l.getD (k-1) c).nm=true
 ·rw[gw h2] at h;exact absurd h gb
 rw[f9 h2] at h;by_cases h3:inQ c.nu 0 999999999999999=false
 ·rw[gw h3] at h;exact absurd h gb
 exact qS (by simpa using h3)
theorem aK9 {c:Que} (h:jX c=0):1<=c.nu/\c.nu<=999999999999999/\1<=c.vr/\c.vr<=999/\c.tx.size<=65536:=by
 unfold jX at h;by_cases h1:aH c.nm=false
 ·rw[gw h1] at h;exact absurd h gb
 rw[f9 h1] at h;by_cases h2:inQ c.nu 1 999999999999999=false
 ·rw[gw h2] at h;exact absurd h gb
 rw[f9 h2] at h;by_cases h3:inQ c.vr 1 999=false
 ·rw[gw h3] at h;exact absurd h gb
 rw[f9 h3] at h;by_cases h4:65536<c.tx.size
 ·rw[gw h4] at h;exact absurd h gb
 have a:=qS (show inQ c.nu 1 999999999999999=true by simpa using h2);have b:=qS (show inQ c.vr 1 999=true by simpa using h3);omega
theorem aKx {c:Let} (h:qO c=0):1<=c.vr/\c.vr<=999:=by
 unfold qO at h;by_cases h1:inQ c.vr 1 999=false
 ·rw[gw h1] at h;exact absurd h gb
 exact qS (by simpa using h1)
theorem aGi {d:Snp} (h:snE d=0):SnOk d:=by
 unfold snE at h;by_cases h1:inQ d.v 0 999=false\/inQ d.e 0 1048576=false\/inQ d.t 0 17592186044416=false
 ·rw[gw h1] at h;exact absurd h gb
 rw[f9 h1] at h;by_cases h2:128<d.ns.length
 ·rw[gw h2] at h;exact absurd h gb
 rw[f9 h2] at h;obtain⟨_,b,c,e,f,g⟩:=aKf h;simp only[not_or,Bool.not_eq_false] at h1;refine⟨qS h1.1,qS h1.2.1,qS h1.2.2,λj hj=>?_,λj hj=>?_,λj hj=>?_,λj hj=>?_,λj hj=>?_⟩
 ·exact aBc (gC b j hj)
 ·exact aBc (gC c j hj)
 ·exact aK9 (gC e j hj)
 ·exact aKx (gC f j hj)
 ·exact gC g j hj
theorem Row.roundL {C D:Type} {K:Kit C D} {S:Nat->Prop} {w0:World} {a:Option Addr} {n c k:Nat} {l:List D} {P P':List UInt8} {A:BA} (fn:D->List UInt8) (hD:IsRow K S w0 a n c l) (hP:P'=P++l.flatMap fn) (hT:P'.length<=4000000000000000000) (hk:k<n) (hA:A=⟨(acc P fn l k).toArray⟩) :
 ∃(rb ro:Nat) (x:C) (dx:D),a=some ⟨rb,ro,none⟩/\S rb/\AtG K w0 rb (ro+k * K.n) x/\K.Is S w0 x dx/\(∃h:k<l.length,dx=l[k])/\(fn dx).length<=4000000000000000000/\A.size+(fn dx).length<=4000000000000000000/\f7 (∀y:BA,y=⟨(fn dx).toArray⟩->A++y=⟨(acc P fn l (k+1)).toArray⟩):=by
 have aa:k<l.length:=by have:=hD.len;omega
 obtain⟨rb,ro,ha,hb,hx⟩:=hD.slot (show 0<n by omega);obtain⟨x,h1,h2⟩:=hx k aa;have ab:=aFt P fn l k aa;have ac:=aOp P fn l (k+1);have hs:A.size=(acc P fn l k).length:=by rw[hA];simp[ByteArray.size]
 have hl:=congrArg List.length ab;rw[ik] at hl;rw[hP] at hT;exact⟨rb,ro,x,l[k],ha,hb,h1,h2,⟨aa,rfl⟩,by omega,by omega,f8 (λy hy=>by
  rw[ab,hy,hA];apply kn;apply lk;simp)⟩
theorem qU {D:Type} {g:D->Int} {l:List D} {s:Int} {k:Nat} {dx:D} (hs:s=aR (λ_ x=>g x) 0 l) (ac:k<l.length) (aa:∀j (h1:j<l.length),j<k->g l[j]=0) (ab:dx=l[k]):f7 (g dx≠0->s=g dx)/\f7 (g dx=0->∀j (h1:j<l.length),j<k+1->g l[j]=0) :=
 ⟨f8 (λhne=>by rw[hs];exact mK _ _ k ac aa _ (by rw[ab]) hne),f8 (λhv j h1 h=>by
   by_cases ad:j<k
   ·exact aa j h1 ad
   ·obtain rfl:j=k:=ga
    rw[<-ab];exact hv)⟩
theorem szf {m n:Nat} (h:m+n<=4000000000000000000):(¬ 9223372036854775807<m+n)/\(9223372036854775807<m+n)=False/\m+n<=9223372036854775807/\decide (9223372036854775807<m+n)=false :=
 ⟨by omega,by simp;omega,by omega,by simp;omega⟩
section
attribute [-go_sem] loadCellsFrom storeCells
attribute [local go_sem] mG mF pT tF tE sY aHm aHl lcf8 lcf9 aNi aNh aNg aNf mB mA stc2 stc3 stc4 stc5 stc6 stc7 stc8 stc9 stc10 stc11 stc12 stc13
theorem tH (c:SnC) (d:Snp) (w:World) (hd:IsSn (· < w.heap.size) w c d) (hT:Tabs w) (hZ:ZTab w) (hs:∀s∈d.ns,Sz 2000 s.l) (hl:∀s∈d.ls,s.tx.size<=1000000) (dj:snE d=0->(lF d).length<=4000000000000000000) :
 CP 8 #[c.w] w (Rt (.tuple #[Sv (jL d).1,I6 (jL d).2]) w):=by
 obtain⟨cv,ce,ct,na,nl,nc,aa,al,ac,sa,sl,sc,qa,ql,qc,la,ll,lc,pa,pl,pc⟩:=c;dsimp only[SnC.w];obtain⟨W1,b0⟩:=xe (w.alloc (.cells #[I6 cv,I6 ce,I6 ct,Sl na nl nc,Sl aa al ac,Sl sa sl sc,Sl qa ql qc,Sl la ll lc,Sl pa pl pc] 30))
 have cc:BB w W1:=by rw[b0];exact(bR w).alloc lr _
 have db:W1.heap[w.heap.size]?=some (.cells #[I6 cv,I6 ce,I6 ct,Sl na nl nc,Sl aa al ac,Sl sa sl sc,Sl qa ql qc,Sl la ll lc,Sl pa pl pc] 30):=by rw[b0];exact ib w _
 have b9:W1.heap.size=w.heap.size+1:=by rw[b0];simp
 obtain⟨u0,bt⟩:=xe (snE d)
 have dn:f7 (CP 32 #[.agg #[I6 cv,I6 ce,I6 ct,Sl na nl nc,Sl aa al ac,Sl sa sl sc,Sl qa ql qc,Sl la ll lc,Sl pa pl pc]] W1 (Rt (I6 u0) W1)):=f8 (by
  rw[bt];exact uU ⟨cv,ce,ct,na,nl,nc,aa,al,ac,sa,sl,sc,qa,ql,qc,la,ll,lc,pa,pl,pc⟩ d W1 (hd.same λb hb=>⟨by omega,cc.block b hb⟩) (hT.below cc))
 obtain⟨ep,bi,ea,ey,HT,ci,HD⟩:=h_7 db cc b0 b9 hT hZ hd;obtain⟨a0,a1,a2,a3,a4,a5,a6,a7,a8⟩:=c_9 db;(try dsimp only at a0 a1 a2 a3 a4 a5 a6 a7 a8);clear db cc b0 b9 hT hZ hd;go_enter func8,ntmps8
 go_upto_region 1 with (fail)
 rw[<-ea.o];by_cases h0:u0=0
 ·have bg:=aGi (show snE d=0 by rw[<-bt];exact h0);have hz:=dj (show snE d=0 by rw[<-bt];exact h0);clear dj;obtain⟨m0,de⟩:∃m:Nat,cv=(m:Int):=⟨cv.toNat,by have h1:=HD.v;have h2:=bg.v;dsimp only at h1;omega⟩
  obtain⟨m1,dk⟩:∃m:Nat,ce=(m:Int):=⟨ce.toNat,by have h1:=HD.e;have h2:=bg.e;dsimp only at h1;omega⟩
  obtain⟨m2,bu⟩:∃m:Nat,ct=(m:Int):=⟨ct.toNat,by have h1:=HD.t;have h2:=bg.t;dsimp only at h1;omega⟩
  have az:f7 (m0<=999/\m1<=1048576/\m2<=17592186044416):=f8 (by have h1:=HD.v;have h2:=bg.v;have h3:=HD.e;have h4:=bg.e;have h5:=HD.t;have h6:=bg.t;dsimp only at h1 h3 h5;omega);obtain⟨s1,da⟩:=xe (aR (λ_ s=>(jQ s).2) 0 d.ns)
  obtain⟨s5,c7⟩:=xe (aR (λ_ l=>(iB l.m).2) 0 d.ls)
  obtain⟨s6,cu⟩:=xe (aR (λ_ x=>lW x) 0 d.ps)
  have bo:f7 (jL d=if orL [s1,s5,s6]≠0 then (⟨#[]⟩,orL [s1,s5,s6]) else (⟨(lF d).toArray⟩,0)):=f8 (by
   unfold jL;rw[f9 (by rw[<-bt,h0];simp)];unfold aJz;rw[<-da,<-c7,<-cu])
  obtain⟨b5,b1,b8⟩:=h_3 da c7 cu;obtain⟨P1,cw⟩:=xe (aHp d)
  obtain⟨P2,cp⟩:=xe (P1++d.ns.flatMap jD)
  obtain⟨P3,cl⟩:=xe (P2++d.ar.flatMap (cC pS))
  obtain⟨P4,cg⟩:=xe (P3++d.se.flatMap (cC jR))
  obtain⟨P5,cd⟩:=xe (P4++d.qs.flatMap iE)
  obtain⟨P6,cf⟩:=xe (P5++d.ls.flatMap iF)
  obtain⟨P7,co⟩:=xe (P6++d.ps.flatMap lA)
  have cx:lF d=P7++lnB [aG0]:=by unfold lF;rw[co,cf,cd,cg,cl,cp,cw]
  have dh:P7.length+4<=4000000000000000000:=by rw[cx,ik] at hz;have h4:(lnB [aG0]).length=4:=rfl;omega
  have d5:=f8 dh;have dl:f7 (P7.length<=4000000000000000000):=f8 ga;have du:f7 (P6.length<=4000000000000000000):=f8 (by have h:=dl.o;rw[co,ik] at h;omega);have dm:f7 (P5.length<=4000000000000000000):=f8 (by have h:=du.o;rw[cf,ik] at h;omega);have dg:f7 (P4.length<=4000000000000000000):=f8 (by have h:=dm.o;rw[cd,ik] at h;omega);have dp:f7 (P3.length<=4000000000000000000):=f8 (by have h:=dg.o;rw[cg,ik] at h;omega)
  have dq:f7 (P2.length<=4000000000000000000):=f8 (by have h:=dp.o;rw[cl,ik] at h;omega);have er:f7 (P1.length<=4000000000000000000):=f8 (by have h:=dq.o;rw[cp,ik] at h;omega);have ed:=f8 (λ(j:Nat) (h:j<d.ns.length)=>hs d.ns[j] (kc h));have ev:=f8 bg.ar;have es:=f8 bg.se;have eh:=f8 bg.qs;have d6:=f8 bg.ps;have eb:=f8 (λ(j:Nat) (h:j<d.ls.length)=>ie (bg.ls j h) (hl d.ls[j] (kc h)));obtain⟨ec,en,dy,dv,ds⟩:=h_5 cx cw cp cl cg;have dt:=f8 cd
  obtain⟨dz,dr⟩:=h_2 cf co;have c8:=f8 (show d.v=(m0:Int)/\d.e=(m1:Int)/\d.t=(m2:Int) from by have h1:=HD.v;have h3:=HD.e;have h5:=HD.t;dsimp only at h1 h3 h5;omega);have c3:=f8 (ie de (ie dk bu));clear bg da c7 cu cx dh bt hs hl hz de dk bu cw cp cl cg cd cf co;subst h0
  go_upto_region 4 with (go_at_call 32;refine dn.mono ?_;rintro e w1 ⟨rfl,bx⟩;have cj:=f8 bx;have c6:=aB bx ep.o;clear a0 a1 a2 a3 a4 a5 a6 a7 a8;obtain⟨a0,a1,a2,a3,a4,a5,a6,a7,a8⟩:=c_9 c6;(try dsimp only at a0 a1 a2 a3 a4 a5 a6 a7 a8);have el:=f8 c6;clear c6 bx)
  obtain⟨mb,ay⟩:=xe w1.heap.size
  obtain⟨WB,ch⟩:=xe (w1.alloc (.cells #[I6 cv,I6 ce,I6 ct,Sl na nl nc,Sl aa al ac,Sl sa sl sc,Sl qa ql qc,Sl la ll lc] 27))
  have cr:BB w1 WB:=by rw[ch];exact(gx _ w1).alloc lr _
  have gm:WB.heap[mb]?=some (.cells #[I6 cv,I6 ce,I6 ct,Sl na nl nc,Sl aa al ac,Sl sa sl sc,Sl qa ql qc,Sl la ll lc] 27):=by rw[ch,ay];exact ib w1 _
  have ao:=f8 (bi.trans ((cj.mono bi.size).trans (cr.mono (by have h1:=bi.size;have h2:=cj.size;omega))));have GX:f7 (WB.heap[w.heap.size]?=some (.cells #[I6 cv,I6 ce,I6 ct,Sl na nl nc,Sl aa al ac,Sl sa sl sc,Sl qa ql qc,Sl la ll lc,Sl pa pl pc] 30)):=f8 (aB cr el.o);have GM:=f8 gm;have HQ:=f8 (λ(w':World) (h:BB WB w') (b:Nat) (hb:b<w.heap.size)=>(show b<w'.heap.size/\w'.heap[b]?=w.heap[b]? from⟨by have h1:=h.size;have h2:=ao.size;omega,(h.block b (by have h2:=ao.size;omega)).trans (ao.block b hb)⟩))
  obtain⟨ej,d0⟩:=h_2 ch ay;clear cr gm ch ay;go_upto_region 5 with (fail)
  rw[<-ej.o,<-d0.o];clear a0 a1 a2 a3 a4 a5 a6 a7 a8;have bs:=f8 (λ(w':World) (h:BB WB w')=>(show Ce w' mb 0 (I6 m0)/\Ce w' mb 1 (I6 m1)/\Ce w' mb 2 (I6 m2) from by
   have h0:=aA (aB h GM.o) 0;have h1:=aA (aB h GM.o) 1;have h2:=aA (aB h GM.o) 2
   (try dsimp only at h0 h1 h2)
   rw[c3.1] at h0;rw[c3.2.1] at h1;rw[c3.2.2] at h2;exact⟨h0,h1,h2⟩))
  obtain⟨y0,dc⟩:=xe (⟨P1.toArray⟩:BA)
  have bk:=f8 (λ(g:Nat) (W':World) (hx:∀(k:Nat) x,[(⟨#[115,110,97,112,115,104,111,116]⟩:BA),(aV m0),(aV m1),(aV m2)][k]?=some x->W'.cell? ⟨g,0+k,none⟩=some (Sv x))=>(show CP 33 #[Sl (So g 0) 4 4] W' λe w2=>e=.returned (Sv y0)/\w2=W' from by
   have hP:P1=lnB [(⟨#[115,110,97,112,115,104,111,116]⟩:BA),(aV m0),(aV m1),(aV m2)]:=by rw[en.o];unfold aHp;rw[c8.1,c8.2.1,c8.2.2,cB,cB,cB];rfl
   rw[dc,hP];exact bW g 4 [(⟨#[115,110,97,112,115,104,111,116]⟩:BA),(aV m0),(aV m1),(aV m2)] W' hx ge (by rw[<-hP];have:=er.o;omega)))
  have d7:=f8 dc.symm;clear dc;refine iz (S:=(λw'=>BB WB w')) gd ((gx _ _).drew) (λhS=>?_);refine tC 0 bs ?_;refine tC 1 bs ?_;refine tC 3 bs ?_;refine tC 4 bs ?_;refine tC 6 bs ?_;refine tC 7 bs ?_;refine yr 2 λK hK=>?_;go_simp;go_at_call 34;refine(cH m0 (by have:=az.o;omega) _).mono ?_;rintro e w4 ⟨rfl,ag⟩;rw[ag];clear ag;refine kOQ hK (hS) λhS=>?_;clear hK K
  refine yr 5 λK hK=>?_;go_simp;go_at_call 34;refine(cH m1 (by have:=az.o;omega) _).mono ?_;rintro e w5 ⟨rfl,bh⟩;rw[bh];clear bh;refine kOQ hK (hS) λhS=>?_;clear hK K
  refine yr 8 λK hK=>?_;go_simp;go_at_call 34;refine(cH m2 (by have:=az.o;omega) _).mono ?_;rintro e w6 ⟨rfl,ap⟩;rw[ap];clear ap;refine kOQ hK (hS) λhS=>?_;clear hK K
  refine yr 9 λK hK=>?_;go_simp;refine kOQ hK (hS.alloc hS.size _) λhS=>?_;clear hK K
  refine yr 10 λK hK=>?_;go_simp;go_at_call 33;refine(bk.o WB.drew.heap.size (WB.drew.alloc (.cells #[.string (⟨#[115,110,97,112,115,104,111,116]⟩:BA),Sv (aV m0),Sv (aV m1),Sv (aV m2)] 9)) (bS WB.drew [(⟨#[115,110,97,112,115,104,111,116]⟩:BA),(aV m0),(aV m1),(aV m2)] _)).mono ?_;rintro e w7 ⟨rfl,av⟩;rw[av];clear av;refine kOQ hK (hS) λhS=>?_;clear hK K
  refine tC 11 bs ?_;refine iq gd ?_ _
  (try dsimp only)
  have em:=f8 hS;clear hS;go_wp2
  go_loopw [6,7] (λsv iv wr=>∃k:Nat,k<=nl/\sv=Sv ⟨(acc P1 jD d.ns k).toArray⟩/\iv=I6 k/\(∀j (h1:j<d.ns.length),j<k->(jQ d.ns[j]).2=0)/\BB WB wr) (λ_ iv _=>nl-(intOf iv).toNat)
  case atStart=>exact⟨0,ii _,by rw[eH];first|rfl|rw[d7.o],rfl,λj _ h=>absurd h (lj j),em.o⟩
  case round =>
   obtain⟨k,hk,rfl,rfl,af,ad⟩:=hrel;obtain⟨wp,rfl⟩:=xe (wr:World)
   obtain⟨A,hA⟩:=xe (⟨(acc P1 jD d.ns k).toArray⟩:BA)
   rw[<-hA];have b7:=f8 ad;have e1:=aA (aB ad GM.o) 3
   (try dsimp only at e1)
   have bj:(nl:Int)<=9223372036854775807:=by have h:=HD.ns.big;dsimp only at h;omega
   by_cases au:k<nl
   ·obtain⟨b,o,x,dx,ah,hb,aj,ae,⟨am,an⟩,aw,ai,bm⟩:=Row.roundL jD HD.ns dy.o dq.o au hA;have ak:=ed.o k am;rw[<-an] at ak;dsimp only at ah aj ae;rw[ah] at e1;obtain⟨br,HZ⟩:=qU (g:=λq=>(jQ q).2) b5.o am af an;have bl:(k:Int)<(nl:Int):=ga
    have b6:(0:Int)<=(k:Int):=ga
    clear hA;obtain⟨y,hy⟩:=xe ((jQ dx).1:BA)
    obtain⟨u,hu⟩:=xe ((jQ dx).2:Int)
    have HC:f7 (CP 35 #[.agg #[I6 x.n,I6 x.t,Sl x.a x.l x.c]] wp (Rt (.tuple #[Sv y,I6 u]) wp)):=f8 (by
     rw[hy,hu];exact tM x dx wp (ae.same λb hb=>HQ.o wp ad b hb) ((HT.below ao.o).below ad) ((ci.below ao.o).below ad) ak)
    obtain⟨x0,x1,x2⟩:=AtG.sta (aj.same (HQ.o wp ad b hb).2);have bc:y.size=(jD dx).length:=by rw[hy];show _=(jQ dx).1.data.toList.length;rw[lu];rfl
    have bn:f7 (A++y=⟨(acc P1 jD d.ns (k+1)).toArray⟩):=f8 (bm.o y (by rw[hy];apply kn;apply lk;simp[jD]));obtain⟨bb,a9,be,bf⟩:=szf (show A.size+y.size<=4000000000000000000 by omega);rw[<-hu] at br HZ;clear ah an aj ae hb ad am hy hu bc aw ai ak af;by_cases hz:u=0
    ·have b4:=f8 (HZ.o hz);subst hz;go_wp2_with (go_at_call 35;refine HC.mono ?_;rintro e w3 ⟨rfl,aq⟩;have ax:=f8 aq;clear aq)
     go_roundw
     case rel=>exact⟨k+1,by omega,by rw[bn.o],by go_num,b4.o,b7.trans (ax.mono b7.size)⟩
     case measure=>simp[intOf];omega
    ·have b9:(u != 0)=true:=by simp[hz]
     have cb:=f8 (br.o hz);have b3:=f8 hz;clear hz;go_wp2_with (go_at_call 35;refine HC.mono ?_;rintro e w3 ⟨rfl,aq⟩;have ax:=f8 aq;clear aq)
     exact ig (v:=.tuple #[.string ⟨#[]⟩,I6 u]) (by simp[results,results8,go_sem]) rfl ⟨by rw[bo.o];simp[orL,cb.o,b3.o],ao.trans ((b7.trans (ax.mono b7.size)).mono ao.size)⟩
   ·obtain rfl:k=nl:=ga
    have Z1:f7 (s1=0):=f8 (by rw[b5.o];exact fU _ _ λj h1=>af j h1 (by have h:=HD.ns.len;dsimp only at h;omega));have ee:f7 (A=⟨P2.toArray⟩):=f8 (by
     have h:=HD.ns.len;dsimp only at h;rw[hA,h,fO,dy.o])
    clear af ad au hk hA;go_wp2
    go_loopw [6,10] (λsv iv wr=>∃k:Nat,k<=al/\sv=Sv ⟨(acc P2 (cC pS) d.ar k).toArray⟩/\iv=I6 k/\BB WB wr) (λ_ iv _=>al-(intOf iv).toNat)
    case atStart=>exact⟨0,ii _,by rw[eH];first|rfl|rw[ee.o],rfl,b7.o⟩
    case round =>
     obtain⟨k,hk,rfl,rfl,ad⟩:=hrel;obtain⟨wp,rfl⟩:=xe (wr:World)
     obtain⟨A,hA⟩:=xe (⟨(acc P2 (cC pS) d.ar k).toArray⟩:BA)
     rw[<-hA];have c4:=f8 ad;have e2:=aA (aB ad GM.o) 4
     (try dsimp only at e2)
     have bj:(al:Int)<=9223372036854775807:=by have h:=HD.ar.big;dsimp only at h;omega
     by_cases au:k<al
     ·obtain⟨b,o,x,dx,ah,hb,aj,ae,⟨am,an⟩,aw,ai,bm⟩:=Row.roundL (cC pS) HD.ar dv.o dp.o au hA;have ak:=ev.o k am;rw[<-an] at ak;dsimp only at ah aj ae;rw[ah] at e2;have bl:(k:Int)<(al:Int):=ga
      have b6:(0:Int)<=(k:Int):=ga
      clear hA;obtain⟨m,hm⟩:∃m:Nat,x.nu=(m:Int):=⟨x.nu.toNat,by rw[ae.e];omega⟩
      have ay:m<=999999999999999:=by have:=ae.e;rw[<-this] at ak;omega
      have az:=f8 ay;obtain⟨y,hy⟩:=xe (⟨(cC pS dx).toArray⟩:BA)
      have bc:y.size=(cC pS dx).length:=by rw[hy];simp[ByteArray.size]
      have bk:=f8 (λ(g:Nat) (W':World) (hx:∀(k:Nat) z,[(⟨#[97,114,114,105,118,101,100]⟩:BA),x.nm,(aV m)][k]?=some z->W'.cell? ⟨g,0+k,none⟩=some (Sv z))=>(show CP 33 #[Sl (So g 0) 3 3] W' λe w2=>e=.returned (Sv y)/\w2=W' from by
       rw[hy];have h:=bW g 3 [(⟨#[97,114,114,105,118,101,100]⟩:BA),x.nm,(aV m)] W' hx ge (by
        have h1:=(show cC pS dx=lnB [(⟨#[97,114,114,105,118,101,100]⟩:BA),x.nm,(aV m)] by unfold cC;rw[<-ae.e,hm,cB];rfl)
        rw[<-h1];have:=aw;omega)
       rw[(show cC pS dx=lnB [(⟨#[97,114,114,105,118,101,100]⟩:BA),x.nm,(aV m)] by unfold cC;rw[<-ae.e,hm,cB];rfl)];exact h))
      have bn:=f8 (bm.o y hy);have ab:=f8 (λ(w':World) (h:BB wp w')=>(show Ce w' mb 4 (Sl (So b o) al ac)/\w'.cell? ⟨b,o+k * 2,none⟩=some (Sv x.nm)/\w'.cell? ⟨b,o+k * 2+1,none⟩=some (I6 m) from by
       obtain⟨x0,x1⟩:=AtG.cnt (aj.same (HQ.o w' (ad.trans (h.mono ad.size)) b hb).2);exact⟨(aA (aB (ad.trans (h.mono ad.size)) GM.o) 4).trans (by show some (Value.slice aa al ac)=_;rw[ah]),x0,by rw[<-hm];exact x1⟩))
      obtain⟨bb,a9,be,bf⟩:=szf (show A.size+y.size<=4000000000000000000 by omega);clear ah an aj ae hb ad am hy bc aw ai ak hm ay;go_upto_region 16 with (fail)
      clear e2;refine iz (S:=(λw'=>BB wp w')) gd ((gx _ _).drew) (λhS=>?_);refine tC 0 ab ?_;refine tC 1 ab ?_;refine tC 2 ab ?_;refine tC 3 ab ?_;refine tC 4 ab ?_;refine tC 5 ab ?_;refine tC 6 ab ?_;refine tC 7 ab ?_;refine tC 8 ab ?_;refine tC 9 ab ?_;refine tC 10 ab ?_;refine tC 11 ab ?_;refine tC 12 ab ?_;refine yr 13 λK hK=>?_;go_simp;go_at_call 34;refine(cH m (by have:=az.o;omega) _).mono ?_;rintro e w4 ⟨rfl,ag⟩;rw[ag];clear ag;refine kOQ hK (hS) λhS=>?_;clear hK K
      refine yr 14 λK hK=>?_;go_simp;refine kOQ hK (hS.alloc hS.size _) λhS=>?_;clear hK K
      refine yr 15 λK hK=>?_;go_simp;go_at_call 33;refine(bk.o wp.drew.heap.size (wp.drew.alloc (.cells #[.string (⟨#[97,114,114,105,118,101,100]⟩:BA),Sv x.nm,Sv (aV m)] 9)) (bS wp.drew [(⟨#[97,114,114,105,118,101,100]⟩:BA),x.nm,(aV m)] _)).mono ?_;rintro e w6 ⟨rfl,ap⟩;rw[ap];clear ap;refine kOQ hK (hS) λhS=>?_;clear hK K
      refine tC 16 ab ?_;refine tC 17 ab ?_;refine iq gd ?_ _
      (try dsimp only)
      have bv:=f8 hS;clear hS;go_wp2
      go_roundw
      case rel=>exact⟨k+1,by omega,by rw[bn.o],by go_num,c4.trans (bv.mono c4.size)⟩
      case measure=>simp[intOf];omega
     ·obtain rfl:k=al:=ga
      have ek:f7 (A=⟨P3.toArray⟩):=f8 (by
       have h:=HD.ar.len;dsimp only at h;rw[hA,h,fO,dv.o])
      clear ad au hk hA;go_wp2
      go_loopw [6,11] (λsv iv wr=>∃k:Nat,k<=sl/\sv=Sv ⟨(acc P3 (cC jR) d.se k).toArray⟩/\iv=I6 k/\BB WB wr) (λ_ iv _=>sl-(intOf iv).toNat)
      case atStart=>exact⟨0,ii _,by rw[eH];first|rfl|rw[ek.o],rfl,c4.o⟩
      case round =>
       obtain⟨k,hk,rfl,rfl,ad⟩:=hrel;obtain⟨wp,rfl⟩:=xe (wr:World)
       obtain⟨A,hA⟩:=xe (⟨(acc P3 (cC jR) d.se k).toArray⟩:BA)
       rw[<-hA];have dd:=f8 ad;have e3:=aA (aB ad GM.o) 5
       (try dsimp only at e3)
       have bj:(sl:Int)<=9223372036854775807:=by have h:=HD.se.big;dsimp only at h;omega
       by_cases au:k<sl
       ·obtain⟨b,o,x,dx,ah,hb,aj,ae,⟨am,an⟩,aw,ai,bm⟩:=Row.roundL (cC jR) HD.se ds.o dg.o au hA;have ak:=es.o k am;rw[<-an] at ak;dsimp only at ah aj ae;rw[ah] at e3;have bl:(k:Int)<(sl:Int):=ga
        have b6:(0:Int)<=(k:Int):=ga
        clear hA;obtain⟨m,hm⟩:∃m:Nat,x.nu=(m:Int):=⟨x.nu.toNat,by rw[ae.e];omega⟩
        have ay:m<=999999999999999:=by have:=ae.e;rw[<-this] at ak;omega
        have az:=f8 ay;obtain⟨y,hy⟩:=xe (⟨(cC jR dx).toArray⟩:BA)
        have bc:y.size=(cC jR dx).length:=by rw[hy];simp[ByteArray.size]
        have bk:=f8 (λ(g:Nat) (W':World) (hx:∀(k:Nat) z,[(⟨#[115,101,110,116]⟩:BA),x.nm,(aV m)][k]?=some z->W'.cell? ⟨g,0+k,none⟩=some (Sv z))=>(show CP 33 #[Sl (So g 0) 3 3] W' λe w2=>e=.returned (Sv y)/\w2=W' from by
         rw[hy];have h:=bW g 3 [(⟨#[115,101,110,116]⟩:BA),x.nm,(aV m)] W' hx ge (by
          have h1:=(show cC jR dx=lnB [(⟨#[115,101,110,116]⟩:BA),x.nm,(aV m)] by unfold cC;rw[<-ae.e,hm,cB];rfl)
          rw[<-h1];have:=aw;omega)
         rw[(show cC jR dx=lnB [(⟨#[115,101,110,116]⟩:BA),x.nm,(aV m)] by unfold cC;rw[<-ae.e,hm,cB];rfl)];exact h))
        have bn:=f8 (bm.o y hy);have ab:=f8 (λ(w':World) (h:BB wp w')=>(show Ce w' mb 5 (Sl (So b o) sl sc)/\w'.cell? ⟨b,o+k * 2,none⟩=some (Sv x.nm)/\w'.cell? ⟨b,o+k * 2+1,none⟩=some (I6 m) from by
         obtain⟨x0,x1⟩:=AtG.cnt (aj.same (HQ.o w' (ad.trans (h.mono ad.size)) b hb).2);exact⟨(aA (aB (ad.trans (h.mono ad.size)) GM.o) 5).trans (by show some (Value.slice sa sl sc)=_;rw[ah]),x0,by rw[<-hm];exact x1⟩))
        obtain⟨bb,a9,be,bf⟩:=szf (show A.size+y.size<=4000000000000000000 by omega);clear ah an aj ae hb ad am hy bc aw ai ak hm ay;go_upto_region 20 with (fail)
        clear e3;refine iz (S:=(λw'=>BB wp w')) gd ((gx _ _).drew) (λhS=>?_);refine tC 0 ab ?_;refine tC 1 ab ?_;refine tC 2 ab ?_;refine tC 3 ab ?_;refine tC 4 ab ?_;refine tC 5 ab ?_;refine tC 6 ab ?_;refine tC 7 ab ?_;refine tC 8 ab ?_;refine tC 9 ab ?_;refine tC 10 ab ?_;refine tC 11 ab ?_;refine tC 12 ab ?_;refine yr 13 λK hK=>?_;go_simp;go_at_call 34;refine(cH m (by have:=az.o;omega) _).mono ?_;rintro e w4 ⟨rfl,ag⟩;rw[ag];clear ag;refine kOQ hK (hS) λhS=>?_;clear hK K
        refine yr 14 λK hK=>?_;go_simp;refine kOQ hK (hS.alloc hS.size _) λhS=>?_;clear hK K
        refine yr 15 λK hK=>?_;go_simp;go_at_call 33;refine(bk.o wp.drew.heap.size (wp.drew.alloc (.cells #[.string (⟨#[115,101,110,116]⟩:BA),Sv x.nm,Sv (aV m)] 9)) (bS wp.drew [(⟨#[115,101,110,116]⟩:BA),x.nm,(aV m)] _)).mono ?_;rintro e w6 ⟨rfl,ap⟩;rw[ap];clear ap;refine kOQ hK (hS) λhS=>?_;clear hK K
        refine tC 16 ab ?_;refine tC 17 ab ?_;refine iq gd ?_ _
        (try dsimp only)
        have bv:=f8 hS;clear hS;go_wp2
        go_roundw
        case rel=>exact⟨k+1,by omega,by rw[bn.o],by go_num,dd.trans (bv.mono dd.size)⟩
        case measure=>simp[intOf];omega
       ·obtain rfl:k=sl:=ga
        have et:f7 (A=⟨P4.toArray⟩):=f8 (by
         have h:=HD.se.len;dsimp only at h;rw[hA,h,fO,ds.o])
        clear ad au hk hA;go_wp2
        go_loopw [6,12] (λsv iv wr=>∃k:Nat,k<=ql/\sv=Sv ⟨(acc P4 iE d.qs k).toArray⟩/\iv=I6 k/\BB WB wr) (λ_ iv _=>ql-(intOf iv).toNat)
        case atStart=>exact⟨0,ii _,by rw[eH];first|rfl|rw[et.o],rfl,dd.o⟩
        case round =>
         obtain⟨k,hk,rfl,rfl,ad⟩:=hrel;obtain⟨wp,rfl⟩:=xe (wr:World)
         obtain⟨A,hA⟩:=xe (⟨(acc P4 iE d.qs k).toArray⟩:BA)
         rw[<-hA];have cR:=f8 ad;have e4:=aA (aB ad GM.o) 6
         (try dsimp only at e4)
         have bj:(ql:Int)<=9223372036854775807:=by have h:=HD.qs.big;dsimp only at h;omega
         by_cases au:k<ql
         ·obtain⟨b,o,x,dx,ah,hb,aj,ae,⟨am,an⟩,aw,ai,bm⟩:=Row.roundL iE HD.qs dt.o dm.o au hA;have ak:=eh.o k am;rw[<-an] at ak;dsimp only at ah aj ae;rw[ah] at e4;have bl:(k:Int)<(ql:Int):=ga
          have b6:(0:Int)<=(k:Int):=ga
          clear hA;obtain⟨m,hm⟩:∃m:Nat,x.nu=(m:Int):=⟨x.nu.toNat,by rw[ae.e];omega⟩
          obtain⟨m2,bu⟩:∃m:Nat,x.vr=(m:Int):=⟨x.vr.toNat,by rw[ae.e];omega⟩
          have ay:m<=999999999999999/\m2<=999999999999999/\x.tx.size<=65536:=by have:=ae.e;rw[<-this] at ak;omega
          have az:=f8 ay;obtain⟨qx,cm⟩:=xe (qxT x.tx)
          have d1:=f8 (λ(w':World)=>(show CP 36 #[Sv x.tx] w' (Rt (Sv qx) w') from by rw[cm];exact jF x.tx w' (by have:=az.2.2;omega)));obtain⟨y,hy⟩:=xe (⟨(iE dx).toArray⟩:BA)
          have bc:y.size=(iE dx).length:=by rw[hy];simp[ByteArray.size]
          have bk:=f8 (λ(g:Nat) (W':World) (hx:∀(k:Nat) z,[(⟨#[113,117,101,117,101,100]⟩:BA),x.nm,(aV m),(aV m2),qx][k]?=some z->W'.cell? ⟨g,0+k,none⟩=some (Sv z))=>(show CP 33 #[Sl (So g 0) 5 5] W' λe w2=>e=.returned (Sv y)/\w2=W' from by
           rw[hy];have h:=bW g 5 [(⟨#[113,117,101,117,101,100]⟩:BA),x.nm,(aV m),(aV m2),qx] W' hx ge (by
            have h1:=(show iE dx=lnB [(⟨#[113,117,101,117,101,100]⟩:BA),x.nm,(aV m),(aV m2),qx] by unfold iE;rw[<-ae.e,hm,bu,cB,cB,cm];rfl)
            rw[<-h1];have:=aw;omega)
           rw[(show iE dx=lnB [(⟨#[113,117,101,117,101,100]⟩:BA),x.nm,(aV m),(aV m2),qx] by unfold iE;rw[<-ae.e,hm,bu,cB,cB,cm];rfl)];exact h))
          have bn:=f8 (bm.o y hy);obtain⟨x0,x1,x2,x3⟩:=AtG.que (aj.same (HQ.o wp ad b hb).2);rw[hm] at x1;rw[bu] at x2;obtain⟨ei,c2⟩:=xe x.nm
          obtain⟨wq,bp⟩:=xe (wp.alloc (.cells #[Sv x.nm,I6 m,I6 m2,Sv x.tx] 60))
          have bw:BB wp wq:=by rw[bp];exact(gx _ _).alloc lr _
          have gq:wq.heap[wp.heap.size]?=some (.cells #[Sv x.nm,I6 m,I6 m2,Sv x.tx] 60):=by rw[bp];exact ib wp _
          have ab:=f8 (λ(w':World) (h:BB wq w')=>(show Ce w' wp.heap.size 0 (Sv x.nm)/\Ce w' wp.heap.size 1 (I6 m)/\Ce w' wp.heap.size 2 (I6 m2)/\Ce w' wp.heap.size 3 (Sv x.tx) from⟨aA (aB h gq) 0,aA (aB h gq) 1,aA (aB h gq) 2,aA (aB h gq) 3⟩));obtain⟨bb,a9,be,bf⟩:=szf (show A.size+y.size<=4000000000000000000 by omega);obtain⟨bq,cz⟩:=h_2 bw bp;clear ah an aj ae hb ad am hy bc aw ai ak hm bu ay cm bw gq bp c2 ei;go_upto_region 25 with (fail)
          rw[<-cz.o];clear e4 x0 x1 x2 x3;refine iz (S:=(λw'=>BB wq w')) gd ((gx _ _).drew) (λhS=>?_);refine tC 0 ab ?_;refine tC 1 ab ?_;refine tC 2 ab ?_;refine tC 3 ab ?_;refine tC 4 ab ?_;refine tC 6 ab ?_;refine tC 7 ab ?_;refine tC 9 ab ?_;refine tC 10 ab ?_;refine yr 5 λK hK=>?_;go_simp;go_at_call 34;refine(cH m (by have:=az.o;omega) _).mono ?_;rintro e w4 ⟨rfl,ag⟩;rw[ag];clear ag;refine kOQ hK (hS) λhS=>?_;clear hK K
          refine yr 8 λK hK=>?_;go_simp;go_at_call 34;refine(cH m2 (by have:=az.o;omega) _).mono ?_;rintro e w5 ⟨rfl,bh⟩;rw[bh];clear bh;refine kOQ hK (hS) λhS=>?_;clear hK K
          refine yr 11 λK hK=>?_;go_simp;go_at_call 36;refine(d1.o _).mono ?_;rintro e w6 ⟨rfl,c9⟩;refine kOQ hK (hS.trans (c9.mono hS.size)) λhS=>?_;clear hK K
          refine yr 12 λK hK=>?_;go_simp;refine kOQ hK (hS.alloc hS.size _) λhS=>?_;clear hK K
          refine yr 13 λK hK=>?_;go_simp;go_at_call 33;refine(bk.o w6.heap.size (w6.alloc (.cells #[.string (⟨#[113,117,101,117,101,100]⟩:BA),Sv x.nm,Sv (aV m),Sv (aV m2),Sv qx] 9)) (bS w6 [(⟨#[113,117,101,117,101,100]⟩:BA),x.nm,(aV m),(aV m2),qx] _)).mono ?_;rintro e w7 ⟨rfl,av⟩;rw[av];clear av;refine kOQ hK (hS) λhS=>?_;clear hK K
          refine tC 14 ab ?_;refine tC 15 ab ?_;refine iq gd ?_ _
          (try dsimp only)
          have bv:=f8 hS;clear hS;go_wp2
          go_roundw
          case rel=>exact⟨k+1,by omega,by rw[bn.o],by go_num,cR.trans ((bq.trans (bv.mono bq.size)).mono cR.size)⟩
          case measure=>simp[intOf];omega
         ·obtain rfl:k=ql:=ga
          have eu:f7 (A=⟨P5.toArray⟩):=f8 (by
           have h:=HD.qs.len;dsimp only at h;rw[hA,h,fO,dt.o])
          clear ad au hk hA;go_wp2
          go_loopw [6,14] (λsv iv wr=>∃k:Nat,k<=ll/\sv=Sv ⟨(acc P5 iF d.ls k).toArray⟩/\iv=I6 k/\(∀j (h1:j<d.ls.length),j<k->(iB d.ls[j].m).2=0)/\BB WB wr) (λ_ iv _=>ll-(intOf iv).toNat)
          case atStart=>exact⟨0,ii _,by rw[eH];first|rfl|rw[eu.o],rfl,λj _ h=>absurd h (lj j),cR.o⟩
          case round =>
           obtain⟨k,hk,rfl,rfl,af,ad⟩:=hrel;obtain⟨wp,rfl⟩:=xe (wr:World)
           obtain⟨A,hA⟩:=xe (⟨(acc P5 iF d.ls k).toArray⟩:BA)
           rw[<-hA];have b2:=f8 ad;have e5:=aA (aB ad GM.o) 7
           (try dsimp only at e5)
           have bj:(ll:Int)<=9223372036854775807:=by have h:=HD.ls.big;dsimp only at h;omega
           by_cases au:k<ll
           ·obtain⟨b,o,x,dx,ah,hb,aj,ae,⟨am,an⟩,aw,ai,bm⟩:=Row.roundL iF HD.ls dz.o du.o au hA;have ak:=eb.o k am;rw[<-an] at ak;dsimp only at ah aj ae;rw[ah] at e5;obtain⟨br,HZ⟩:=qU (g:=λq=>(iB q.m).2) b1.o am af an;have bl:(k:Int)<(ll:Int):=ga
            have b6:(0:Int)<=(k:Int):=ga
            clear hA;obtain⟨m,hm⟩:∃m:Nat,x.vr=(m:Int):=⟨x.vr.toNat,by rw[ae.vr];omega⟩
            have ay:m<=999999999999999/\x.tx.size<=1000000:=by have h1:=ae.vr;have h2:=ae.tx;rw[<-h1,<-h2] at ak;omega
            have az:=f8 ay;obtain⟨qt,cq⟩:=xe (⟨(aQ x.tx.data.toList).toArray⟩:BA)
            obtain⟨mt,cn⟩:=xe ((iB dx.m).1)
            obtain⟨u,hu⟩:=xe ((iB dx.m).2)
            obtain⟨wq,bp⟩:=xe (wp.alloc (.cells #[I6 x.m.st.e,Sl x.m.st.a x.m.st.n x.m.st.c,I6 x.m.m,Sl x.m.a x.m.n x.m.c,I6 x.m.b.k,I6 x.m.b.i,I6 x.m.b.s,Sv x.m.b.t,Sl x.m.b.la x.m.b.ll x.m.b.lc,Sl x.m.b.fa x.m.b.fl x.m.b.fc,Sv x.nd,Sv x.tx,I6 m] 71))
            have bw:BB wp wq:=by rw[bp];exact(gx _ _).alloc lr _
            have gq:wq.heap[wp.heap.size]?=some (.cells #[I6 x.m.st.e,Sl x.m.st.a x.m.st.n x.m.st.c,I6 x.m.m,Sl x.m.a x.m.n x.m.c,I6 x.m.b.k,I6 x.m.b.i,I6 x.m.b.s,Sv x.m.b.t,Sl x.m.b.la x.m.b.ll x.m.b.lc,Sl x.m.b.fa x.m.b.fl x.m.b.fc,Sv x.nd,Sv x.tx,I6 m] 71):=by rw[bp];exact ib wp _
            have ba:BB WB wq:=ad.trans (bw.mono ad.size);have ew:=f8 (λ(w':World) (h:BB wq w')=>(show CP 38 #[Sv x.tx] w' (Rt (Sv qt) w') from by rw[cq];exact jG x.tx w' (by have:=az.2;omega) (((HT.below ao.o).below ba).below h) (((ci.below ao.o).below ba).below h)));have HC:f7 (CP 37 #[x.m.v] wq (Rt (.tuple #[Sv mt,I6 u]) wq)):=f8 (by
             rw[cn,hu];exact mZ x.m dx.m wq (ae.m.same λb hb=>HQ.o wq ba b hb) ((HT.below ao.o).below ba) ((ci.below ao.o).below ba))
            dsimp only[MC.v] at HC;rw[<-hu] at br HZ;obtain⟨y,hy⟩:=xe (⟨(iF dx).toArray⟩:BA)
            have bc:y.size=(iF dx).length:=by rw[hy];simp[ByteArray.size]
            have bk:=f8 (λ(g:Nat) (W':World) (hx:∀(k:Nat) z,[(⟨#[108,101,116,116,101,114]⟩:BA),(aV m),x.nd,qt,mt][k]?=some z->W'.cell? ⟨g,0+k,none⟩=some (Sv z))=>(show CP 33 #[Sl (So g 0) 5 5] W' λe w2=>e=.returned (Sv y)/\w2=W' from by
             rw[hy];have h:=bW g 5 [(⟨#[108,101,116,116,101,114]⟩:BA),(aV m),x.nd,qt,mt] W' hx ge (by
              have h1:=(show iF dx=lnB [(⟨#[108,101,116,116,101,114]⟩:BA),(aV m),x.nd,qt,mt] by unfold iF;rw[<-ae.vr,<-ae.nd,<-ae.tx,hm,cB,cq,cn];rfl)
              rw[<-h1];have:=aw;omega)
             rw[(show iF dx=lnB [(⟨#[108,101,116,116,101,114]⟩:BA),(aV m),x.nd,qt,mt] by unfold iF;rw[<-ae.vr,<-ae.nd,<-ae.tx,hm,cB,cq,cn];rfl)];exact h))
            have bn:=f8 (bm.o y hy);obtain⟨x0,x1,x2,x3,x4,x5,x6,x7,x8,x9,d2,eg,dw⟩:=AtG.let' (aj.same (HQ.o wp ad b hb).2);rw[hm] at dw;obtain⟨g0,g1,g2,g3,g4,g5,g6,g7,g8,g9⟩:=c_10 gq;(try dsimp only at g0 g1 g2 g3 g4 g5 g6 g7 g8 g9);obtain⟨bb,a9,be,bf⟩:=szf (show A.size+y.size<=4000000000000000000 by omega);obtain⟨bq,cz,GQ⟩:=h_3 bw bp gq;clear ah an aj ae hb ad am hy bc aw ai ak hm ay cq cn hu bw gq bp ba af
            go_upto_region 30 with (fail)
            rw[<-cz.o];clear e5 x0 x1 x2 x3 x4 x5 x6 x7 x8 x9 d2 eg dw;by_cases hz:u=0
            ·have b4:=f8 (HZ.o hz);subst hz;go_upto_region 33 with (go_at_call 37;refine HC.mono ?_;rintro e w3 ⟨rfl,aq⟩;have ax:=f8 aq;clear aq)
             clear g0 g1 g2 g3 g4 g5 g6 g7 g8 g9;have ck:=aB ax.o GQ.o;have ab:=f8 (λ(w':World) (h:BB w3 w')=>(show Ce w' wp.heap.size 10 (Sv x.nd)/\Ce w' wp.heap.size 11 (Sv x.tx)/\Ce w' wp.heap.size 12 (I6 m) from⟨aA (aB h ck) 10,aA (aB h ck) 11,aA (aB h ck) 12⟩));clear ck;refine iz (S:=(λw'=>BB w3 w')) gd ((gx _ _).drew) (λhS=>?_);refine tC 0 ab ?_;refine tC 1 ab ?_;refine tC 2 ab ?_;refine tC 4 ab ?_;refine tC 5 ab ?_;refine tC 6 ab ?_;refine tC 7 ab ?_;refine tC 9 ab ?_;refine yr 3 λK hK=>?_;go_simp;go_at_call 34;refine(cH m (by have:=az.o;omega) _).mono ?_;rintro e w4 ⟨rfl,ag⟩;rw[ag];clear ag;refine kOQ hK (hS) λhS=>?_;clear hK K
             refine yr 8 λK hK=>?_;go_simp;go_at_call 38;refine(ew.o _ (ax.trans (hS.mono ax.size))).mono ?_;rintro e w6 ⟨rfl,c9⟩;refine kOQ hK (hS.trans (c9.mono hS.size)) λhS=>?_;clear hK K
             refine yr 10 λK hK=>?_;go_simp;refine kOQ hK (hS.alloc hS.size _) λhS=>?_;clear hK K
             refine yr 11 λK hK=>?_;go_simp;go_at_call 33;refine(bk.o w6.heap.size (w6.alloc (.cells #[.string (⟨#[108,101,116,116,101,114]⟩:BA),Sv (aV m),Sv x.nd,Sv qt,Sv mt] 9)) (bS w6 [(⟨#[108,101,116,116,101,114]⟩:BA),(aV m),x.nd,qt,mt] _)).mono ?_;rintro e w7 ⟨rfl,av⟩;rw[av];clear av;refine kOQ hK (hS) λhS=>?_;clear hK K
             refine tC 12 ab ?_;refine tC 13 ab ?_;refine iq gd ?_ _
             (try dsimp only)
             have bv:=f8 hS;clear hS;go_wp2
             go_roundw
             case rel=>exact⟨k+1,by omega,by rw[bn.o],by go_num,b4.o,b2.trans (((bq.trans (ax.mono bq.size)).trans (bv.mono (bq.trans (ax.mono bq.size)).size)).mono b2.size)⟩
             case measure=>simp[intOf];omega
            ·have b9:(u != 0)=true:=by simp[hz]
             have cb:=f8 (br.o hz);have b3:=f8 hz;clear hz;go_wp2_with (go_at_call 37;refine HC.mono ?_;rintro e w3 ⟨rfl,aq⟩;have ax:=f8 aq;clear aq)
             exact ig (v:=.tuple #[.string ⟨#[]⟩,I6 u]) (by simp[results,results8,go_sem]) rfl ⟨by rw[bo.o];simp[orL,Z1.o,cb.o,b3.o],ao.trans ((b2.trans ((bq.trans (ax.mono bq.size)).mono b2.size)).mono ao.size)⟩
           ·obtain rfl:k=ll:=ga
            have Z5:f7 (s5=0):=f8 (by rw[b1.o];exact fU _ _ λj h1=>af j h1 (by have h:=HD.ls.len;dsimp only at h;omega));have eo:f7 (A=⟨P6.toArray⟩):=f8 (by
             have h:=HD.ls.len;dsimp only at h;rw[hA,h,fO,dz.o])
            clear af ad au hk hA;go_wp2
            go_loopw [6,18] (λsv iv wr=>∃k:Nat,k<=pl/\sv=Sv ⟨(acc P6 lA d.ps k).toArray⟩/\iv=I6 k/\(∀j (h1:j<d.ps.length),j<k->lW d.ps[j]=0)/\BB WB wr) (λ_ iv _=>pl-(intOf iv).toNat)
            case atStart=>exact⟨0,ii _,by rw[eH];first|rfl|rw[eo.o],rfl,λj _ h=>absurd h (lj j),b2.o⟩
            case round =>
             obtain⟨k,hk,rfl,rfl,af,ad⟩:=hrel;obtain⟨wp,rfl⟩:=xe (wr:World)
             obtain⟨A,hA⟩:=xe (⟨(acc P6 lA d.ps k).toArray⟩:BA)
             rw[<-hA];have bz:=f8 ad;have e6:=aA (aB ad GX.o) 8
             (try dsimp only at e6)
             have bj:(pl:Int)<=9223372036854775807:=by have h:=HD.ps.big;dsimp only at h;omega
             by_cases au:k<pl
             ·obtain⟨b,o,x,dx,ah,hb,aj,ae,⟨am,an⟩,aw,ai,bm⟩:=Row.roundL lA HD.ps dr.o dl.o au hA;have ak:=d6.o k am;rw[<-an] at ak;dsimp only at ah aj ae;rw[ah] at e6;obtain⟨br,HZ⟩:=qU (g:=λq=>lW q) b8.o am af an;have bl:(k:Int)<(pl:Int):=ga
              have b6:(0:Int)<=(k:Int):=ga
              clear hA;obtain⟨y,hy⟩:=xe ((pZ dx).1:BA)
              obtain⟨u,hu⟩:=xe (lW dx:Int)
              have c5:(pZ dx).2=u:=by
               unfold pZ;by_cases h:lW dx≠0
               ·rw[gw h];exact hu.symm
               ·rw[f9 h,hu];exact(Decidable.byContradiction λh2=>h h2).symm
              have HC:f7 (CP 39 #[.agg #[I6 x.k,Sv x.nm,I6 x.nu,Sv x.tx,I6 x.st.e,Sl x.st.a x.st.n x.st.c,I6 x.rs.e,Sl x.rs.a x.rs.n x.rs.c,Sv x.sv,I6 x.ca,.bool x.un,I6 x.bd.k,I6 x.bd.i,I6 x.bd.s,Sv x.bd.t,Sl x.bd.la x.bd.ll x.bd.lc,Sl x.bd.fa x.bd.fl x.bd.fc,Sv x.nd]] wp (Rt (.tuple #[Sv y,I6 u]) wp)):=f8 (by
               rw[hy,<-c5];exact xA x dx wp (ae.same λb hb=>HQ.o wp ad b hb) ((HT.below ao.o).below ad) ((ci.below ao.o).below ad) ak)
              have d3:=aJ2 (o:=o+k * 18) (aj.same (HQ.o wp ad b hb).2);dsimp only[EfC.cs] at d3;rw[<-hu] at br HZ;by_cases hz:u=0
              ·have cL:y=⟨(lA dx).toArray⟩:=by rw[hy];unfold pZ;rw[f9 (by rw[<-hu,hz];simp)]
               have bc:y.size=(lA dx).length:=by rw[cL];simp[ByteArray.size]
               have bn:=f8 (bm.o y cL);have b4:=f8 (HZ.o hz);obtain⟨bb,a9,be,bf⟩:=szf (show A.size+y.size<=4000000000000000000 by omega);clear ah an aj ae hb ad am hy hu c5 bc aw ai ak af cL;subst hz;go_wp2_with (go_at_call 39;refine HC.mono ?_;rintro e w3 ⟨rfl,aq⟩;have ax:=f8 aq;clear aq)
               go_roundw
               case rel=>exact⟨k+1,by omega,by rw[bn.o],by go_num,b4.o,bz.trans (ax.mono bz.size)⟩
               case measure=>simp[intOf];omega
              ·have b9:(u != 0)=true:=by simp[hz]
               have cb:=f8 (br.o hz);have b3:=f8 hz;clear ah an aj ae hb ad am hy hu c5 aw ai ak af hz;go_wp2_with (go_at_call 39;refine HC.mono ?_;rintro e w3 ⟨rfl,aq⟩;have ax:=f8 aq;clear aq)
               exact ig (v:=.tuple #[.string ⟨#[]⟩,I6 u]) (by simp[results,results8,go_sem]) rfl ⟨by rw[bo.o];simp[orL,Z1.o,Z5.o,cb.o,b3.o],ao.trans ((bz.trans (ax.mono bz.size)).mono ao.size)⟩
             ·obtain rfl:k=pl:=ga
              have Z6:f7 (s6=0):=f8 (by rw[b8.o];exact fU _ _ λj h1=>af j h1 (by have h:=HD.ps.len;dsimp only at h;omega));have di:f7 (A=⟨P7.toArray⟩):=f8 (by
               have h:=HD.ps.len;dsimp only at h;rw[hA,h,fO,dr.o])
              clear af ad au hk hA;obtain⟨y,hy⟩:=xe (⟨(lnB [aG0]).toArray⟩:BA)
              have bc:y.size=4:=by rw[hy];rfl
              have bk:=f8 (λ(g:Nat) (W':World) (hx:∀(k:Nat) x,[(⟨#[101,110,100]⟩:BA)][k]?=some x->W'.cell? ⟨g,0+k,none⟩=some (Sv x))=>(show CP 33 #[Sl (So g 0) 1 1] W' λe w2=>e=.returned (Sv y)/\w2=W' from by
               rw[hy];exact bW g 1 [(⟨#[101,110,100]⟩:BA)] W' hx ge gb))
              have d9:A.size=P7.length:=by rw[di.o];simp[ByteArray.size]
              have d8:=d5.o;have cy:f7 (A++y=⟨(lF d).toArray⟩):=f8 (by
               rw[di.o,hy,ec.o];apply kn;apply lk;simp)
              obtain⟨bb,a9,be,bf⟩:=szf (show A.size+y.size<=4000000000000000000 by omega);clear hy bc d9 d8;go_wp2_with (go_at_call 33;refine(bk.o wp.heap.size (wp.alloc (.cells #[.string (⟨#[101,110,100]⟩:BA)] 9)) (bS wp [(⟨#[101,110,100]⟩:BA)] _)).mono ?_;rintro e w7 ⟨rfl,df⟩;rw[df];clear df)
              exact ig (v:=.tuple #[Sv (A++y),I6 0]) (by simp[results,results8,go_sem]) rfl ⟨by rw[bo.o,cy.o];simp[orL,Z1.o,Z5.o,Z6.o],ao.trans (((bz.alloc bz.size _)).mono ao.size)⟩
 ·have ex:(u0 != 0)=true:=by simp[h0]
  have HR:f7 (jL d=(⟨#[]⟩,u0)):=f8 (by unfold jL;rw[<-bt,gw h0]);clear bt h0;go_wp2_with (go_at_call 32;refine dn.mono ?_;rintro e w1 ⟨rfl,bx⟩;have cj:=f8 bx;clear bx)
  exact ig (v:=.tuple #[.string ⟨#[]⟩,I6 u0]) (by simp[results,results8,go_sem]) rfl ⟨by rw[HR.o],bi.trans (cj.mono bi.size)⟩
end
end Go.Proofs.YtoodnaghjpkjfaaGreatDoor
