/- A part. -/
import Derived.Test.YtoodnaghjpkjfaaGreatDoorSE44Mrg
namespace Go.Proofs.YtoodnaghjpkjfaaGreatDoor
open Tryz
set_option linter.unusedVariables false
set_option maxRecDepth 100000
set_option maxHeartbeats 64000000
set_option linter.unusedSimpArgs false
open Go Go.RowKit Go.Shelf
def foE {D:Type} (g:D->Int) (l:List D) (k:Nat) (e:Int):Int:=(l.take k).foldl (λe x=>orL [e,g x]) e
theorem xK {D:Type} (g:D->Int) (l:List D) (e:Int):foE g l 0 e=e:=rfl
theorem xL {D:Type} (g:D->Int) (l:List D) (k:Nat) (e:Int) (h:k<l.length):foE g l (k+1) e=orL [foE g l k e,g l[k]]:=by
 unfold foE;rw[mh h,List.foldl_append];rfl
theorem aKe (a b c:Int):orL [orL [orL [0,a],b],c]=orL [a,b,c]:=by
 by_cases h1:a=0<;>by_cases h2:b=0<;>by_cases h3:c=0<;>simp[orL,h1,h2,h3]
theorem xM {D:Type} (g:D->Int):∀(l:List D) (e:Int) (m:Nat),l.foldl (λe x=>orL [e,g x]) e=orL [e,aR (λ_ x=>g x) m l]
 | [],e,m=>by show e=orL [e,0];rw[aH8]
 | x :: r,e,m=>by
   show r.foldl (λe x=>orL [e,g x]) (orL [e,g x])=orL [e,if g x=0 then aR (λ_ x=>g x) (m+1) r else g x];rw[xM g r _ (m+1)];by_cases h1:e=0<;>by_cases h2:g x=0<;>simp[orL,h1,h2]
theorem aCz {D:Type} (g:D->Int) (l:List D) (e:Int):foE g l l.length e=orL [e,aR (λ_ x=>g x) 0 l]:=by
 unfold foE;rw[List.take_length];exact xM g l e 0
theorem Row.round {C D:Type} {K:Kit C D} {S:Nat->Prop} {w0 wp:World} {a:Option Addr} {n c k b WR:Nat} {l:List D} {P P':List UInt8} {E:Nat->Int} (f:Int->D->Int) (fn:D->List UInt8) (hD:IsRow K S w0 a n c l) (hP:P'=P++l.flatMap fn) (hT:P'.length<=100000000000000) (hE:∀j (h:j<l.length),E (j+1)=f (E j) l[j]) (hk:k<n) (hj:IsJw WR b b ⟨acc P fn l k,E k⟩ wp) :
 ∃(rb ro:Nat) (x:C) (dx:D) (A:List UInt8) (ea:Int),a=some ⟨rb,ro,none⟩/\S rb/\AtG K w0 rb (ro+k * K.n) x/\K.Is S w0 x dx/\(∃h:k<l.length,dx=l[k])/\IsJw WR b b ⟨A,ea⟩ wp/\f7 (A.length+(fn dx).length<=140737488355328)/\f7 (∀w',IsJw WR b b ⟨A++fn dx,f ea dx⟩ w'->IsJw WR b b ⟨acc P fn l (k+1),E (k+1)⟩ w'):=by
 have aa:k<l.length:=by have:=hD.len;omega
 obtain⟨rb,ro,ha,hb,hx⟩:=hD.slot (show 0<n by omega);obtain⟨x,h1,h2⟩:=hx k aa;have ab:=aFt P fn l k aa;have ac:=aOp P fn l (k+1);refine⟨rb,ro,x,l[k],_,_,ha,hb,h1,h2,⟨aa,rfl⟩,hj,f8 (by
  have:=congrArg List.length ab;rw[ik] at this;rw[hP] at hT;omega),f8 (λw' h=>by rw[ab,hE k aa];exact h)⟩
def SB (O MO:Obj) (b p:Nat) (W w':World):Prop:=w'.heap[p]?=some O/\w'.heap[b+1]?=some MO/\Below b W w'/\p<w'.heap.size
theorem SB.xt {O MO:Obj} {b p:Nat} {W w' w2:World} (h:SB O MO b p W w') (hb:b<W.heap.size) (hx:BB w' w2):SB O MO b p W w2 :=
 ⟨aB hx h.1,aB hx h.2.1,h.2.2.1.trans (hx.mono (by have:=h.2.2.1.size;omega)),by have:=hx.size;have:=h.2.2.2;omega⟩
theorem SB.xa {O MO:Obj} {b p:Nat} {W w':World} (h:SB O MO b p W w') (hb:b<W.heap.size) (o:Obj):SB O MO b p W (w'.alloc o) :=
 ⟨aC _ h.1,aC _ h.2.1,h.2.2.1.alloc (by have:=h.2.2.1.size;omega) _,by have:=h.2.2.2;simp;omega⟩
theorem aBk {wp W:World} {b WR:Nat} {MO:Obj} {j:JW} (O:Obj) (aa:wp.heap[b+1]?=some MO) (ac:Below b W wp) (ab:IsJw WR b b j wp):∃wq,f7 (wq=wp.alloc O)/\f7 (wq.heap[wp.heap.size]?=some O/\wq.heap[b+1]?=some MO/\Below b W wq/\wp.heap.size<wq.heap.size)/\f7 (IsJw WR b b j wq.drew)/\f7 (Below b W wq.drew)/\f7 (IsJw WR b b j wq):=by
 have hb:BB wp (wp.alloc O):=(gx _ _).alloc lr _;have h:=ac.trans (hb.mono (by have:=ltOf aa;omega));exact⟨_,f8 rfl,f8 ⟨ib wp _,aB hb aa,h,by simp⟩,f8 (ab.ext hb.drew),f8 h.drew,f8 (ab.ext hb)⟩
section
attribute [-go_sem] loadCellsFrom storeCells
attribute [local go_sem] mG mF pT tF tE sY aHm aHl lcf8 lcf9 aNi aNh aNg aNf mB mA stc2 stc3 stc4 stc5 stc6 stc7 stc8 stc9 stc10 stc11 stc12 stc13
theorem pX (c:SnC) (d:Snp) (w:World) (hd:IsSn (· < w.heap.size) w c d) (hT:Tabs w) (hZ:ZTab w) (hs:∀s∈d.ns,Sz 2000 s.l) (hl:∀s∈d.ls,s.tx.size<=1000000) (d6:snE d=0->(lF d).length<=100000000000000) :
 CP 27 #[c.w] w (Rt (.tuple #[Sv (jL d).1,I6 (jL d).2]) w):=by
 obtain⟨cv,ce,ct,na,nl,nc,aa,al,ac,sa,sl,sc,qa,ql,qc,la,ll,lc,pa,pl,pc⟩:=c;dsimp only[SnC.w];obtain⟨W1,ci⟩:=xe (w.alloc (.cells #[I6 cv,I6 ce,I6 ct,Sl na nl nc,Sl aa al ac,Sl sa sl sc,Sl qa ql qc,Sl la ll lc,Sl pa pl pc] 30))
 have c2:BB w W1:=by rw[ci];exact(bR w).alloc lr _
 have dy:W1.heap[w.heap.size]?=some (.cells #[I6 cv,I6 ce,I6 ct,Sl na nl nc,Sl aa al ac,Sl sa sl sc,Sl qa ql qc,Sl la ll lc,Sl pa pl pc] 30):=by rw[ci];exact ib w _
 have db:W1.heap.size=w.heap.size+1:=by rw[ci];simp
 obtain⟨u0,b4⟩:=xe (snE d)
 have ed:f7 (CP 62 #[.agg #[I6 cv,I6 ce,I6 ct,Sl na nl nc,Sl aa al ac,Sl sa sl sc,Sl qa ql qc,Sl la ll lc,Sl pa pl pc]] W1 (Rt (I6 u0) W1)):=f8 (by
  rw[b4];exact aC4 ⟨cv,ce,ct,na,nl,nc,aa,al,ac,sa,sl,sc,qa,ql,qc,la,ll,lc,pa,pl,pc⟩ d W1 (hd.same λb hb=>⟨by omega,c2.block b hb⟩) (hT.below c2))
 obtain⟨fh,bk,e5,fw,HT,e4,HD⟩:=h_7 dy c2 ci db hT hZ hd;obtain⟨a0,a1,a2,a3,a4,a5,a6,a7,a8⟩:=c_9 dy;(try dsimp only at a0 a1 a2 a3 a4 a5 a6 a7 a8);clear dy c2 ci db hT hZ hd;go_enter func27,ntmps27
 go_upto_region 1 with (fail)
 rw[<-e5.o];by_cases h0:u0=0
 ·have b8:=aGi (show snE d=0 by rw[<-b4];exact h0);have hz:=d6 (show snE d=0 by rw[<-b4];exact h0);clear d6;have HR:f7 (I64 cv/\I64 ce/\I64 ct):=f8 ⟨HD.rv,HD.re,HD.rt⟩;obtain⟨s1,dw⟩:=xe (aR (λ_ s=>(jQ s).2) 0 d.ns)
  obtain⟨s5,dt⟩:=xe (aR (λ_ l=>(iB l.m).2) 0 d.ls)
  obtain⟨s6,dh⟩:=xe (aR (λ_ x=>lW x) 0 d.ps)
  have ch:f7 (jL d=if orL [s1,s5,s6]≠0 then (⟨#[]⟩,orL [s1,s5,s6]) else (⟨(lF d).toArray⟩,0)):=f8 (by
   unfold jL;rw[f9 (by rw[<-b4,h0];simp)];unfold aJz;rw[<-dw,<-dt,<-dh])
  obtain⟨dm,di,dr⟩:=h_3 dw dt dh;obtain⟨P1,c8⟩:=xe (aHp d)
  obtain⟨P2,dd⟩:=xe (P1++d.ns.flatMap jD)
  obtain⟨P3,da⟩:=xe (P2++d.ar.flatMap (cC pS))
  obtain⟨P4,c6⟩:=xe (P3++d.se.flatMap (cC jR))
  obtain⟨P5,c3⟩:=xe (P4++d.qs.flatMap iE)
  obtain⟨P6,c5⟩:=xe (P5++d.ls.flatMap iF)
  obtain⟨P7,dc⟩:=xe (P6++d.ps.flatMap lA)
  have dk:lF d=P7++lnB [aG0]:=by unfold lF;rw[dc,c5,c3,c6,da,dd,c8]
  have d5:P7.length+4<=100000000000000:=by rw[dk,ik] at hz;have h4:(lnB [aG0]).length=4:=rfl;omega
  have e0:=f8 d5;have d8:f7 (P7.length<=100000000000000):=f8 ga;have em:f7 (P6.length<=100000000000000):=f8 (by have h:=d8.o;rw[dc,ik] at h;omega);have eb:f7 (P5.length<=100000000000000):=f8 (by have h:=em.o;rw[c5,ik] at h;omega);have d2:f7 (P4.length<=100000000000000):=f8 (by have h:=eb.o;rw[c3,ik] at h;omega);have ee:f7 (P3.length<=100000000000000):=f8 (by have h:=d2.o;rw[c6,ik] at h;omega)
  have eg:f7 (P2.length<=100000000000000):=f8 (by have h:=ee.o;rw[da,ik] at h;omega);have fk:f7 (P1.length<=100000000000000):=f8 (by have h:=eg.o;rw[dd,ik] at h;omega);have e8:=f8 (λ(j:Nat) (h:j<d.ns.length)=>hs d.ns[j] (kc h));have fr:=f8 b8.ar;have fm:=f8 b8.se;have fe:=f8 b8.qs;have e1:=f8 b8.ps;have e6:=f8 (λ(j:Nat) (h:j<d.ls.length)=>ie (b8.ls j h) (hl d.ls[j] (kc h)));obtain⟨e7,fu,er,eo,ei⟩:=h_5 dk c8 dd da c6;have el:=f8 c3
  obtain⟨es,eh⟩:=h_2 c5 dc;have cu:f7 (P1=lnB [(⟨#[115,110,97,112,115,104,111,116]⟩:BA),(aE cv),(aE ce),(aE ct)]):=f8 (by rw[c8];unfold aHp;have h1:=HD.v;have h3:=HD.e;have h5:=HD.t;dsimp only at h1 h3 h5;rw[<-h1,<-h3,<-h5];rfl);have dp:f7 ((⟨[],0⟩:JW).b.length+(lnB [(⟨#[115,110,97,112,115,104,111,116]⟩:BA),(aE cv),(aE ce),(aE ct)]).length<=140737488355328):=f8 (by rw[<-cu.o];show 0+_<=_;have:=fk.o;omega);clear b8 dw dt dh dk d5 b4 hs hl hz c8 dd da c6 c3 c5 dc;subst h0
  go_upto_region 6 with (go_at_call 62;refine ed.mono ?_;rintro e w1 ⟨rfl,b6⟩;have c9:=f8 b6;have q1:=aB b6 fh.o;have q:=aC (.cells #[.pointer none,Z0,I6 0] 126) q1;clear a0 a1 a2 a3 a4 a5 a6 a7 a8;obtain⟨a0,a1,a2,a3,a4,a5,a6,a7,a8⟩:=c_9 q;(try dsimp only at a0 a1 a2 a3 a4 a5 a6 a7 a8);have ej:=f8 q1;clear q q1 b6)
  clear a0 a1 a2 a3 a4 a5 a6 a7 a8;obtain⟨b,hb⟩:=xe w1.heap.size
  obtain⟨W,hW⟩:=xe ((w1.alloc (.cells #[.pointer none,Z0,I6 0] 126)).alloc (.cells #[I6 cv,I6 ce,I6 ct,Sl na nl nc,Sl aa al ac,Sl sa sl sc,Sl qa ql qc,Sl la ll lc] 27))
  rw[<-hW,<-hb];have dl:BB w1 W:=by rw[hW];exact((gx _ w1).alloc lr _).alloc ge _
  have g1:W.heap[b]?=some (.cells #[.pointer none,Z0,I6 0] 126):=by rw[hW,hb];exact aC _ (ib w1 _)
  obtain⟨MO,c7⟩:=xe ((.cells #[I6 cv,I6 ce,I6 ct,Sl na nl nc,Sl aa al ac,Sl sa sl sc,Sl qa ql qc,Sl la ll lc] 27):Obj)
  have g2:W.heap[b+1]?=some MO:=by rw[c7,hW,hb];exact aN _ _ _ ge
  have bb:=f8 c7;have fo:W.heap.size=b+2:=by rw[hW,hb];simp
  have fj:f7 (W.drew.heap[b+1]?=some MO):=f8 g2;have b7:=f8 (bk.trans ((c9.mono bk.size).trans (dl.mono (io bk.size c9.size))));have GX:f7 (W.heap[w.heap.size]?=some (.cells #[I6 cv,I6 ce,I6 ct,Sl na nl nc,Sl aa al ac,Sl sa sl sc,Sl qa ql qc,Sl la ll lc,Sl pa pl pc] 30)):=f8 (aB dl ej.o);have eu:f7 (w.heap.size<b):=f8 (by rw[hb];exact ltOf ej.o);have b5:f7 (w.heap.size<=b):=f8 (ou eu.o);have ab:f7 (b<W.heap.size):=f8 ga
  have bf:f7 (IsJw 126 b b ⟨[],0⟩ W.drew):=f8 ⟨gy _,_,_,g1,.inl rfl,World.ownsRowF_nil _ _ _ _,by simp[Value.ownBlock]⟩;have ck:=f8 (λ(w':World) (h:Below b W w')=>HT.below (b7.trans (h.mono b5.o)));have c4:=f8 (λ(w':World) (h:Below b W w')=>e4.below (b7.trans (h.mono b5.o)));have b0:=f8 (λ(x:Int) (hx:I64 x) (w':World) (h:Below b W w')=>bM x hx w' (ck.o w' h))
  have HQ:=f8 (λ(w':World) (h:Below b W w') (k:Nat) (hk:k<w.heap.size)=>(show k<w'.heap.size/\w'.heap[k]?=w.heap[k]? from⟨by have h1:=h.size;have h2:=b7.size;omega,(h.block k (by have:=b5.o;omega)).trans (b7.block k hk)⟩));have b1:=f8 (λ(w':World) (h:w'.heap[b+1]?=some MO/\Below b W w')=>(show w'.cell? ⟨b+1,0,none⟩=some (I6 cv)/\w'.cell? ⟨b+1,1,none⟩=some (I6 ce)/\w'.cell? ⟨b+1,2,none⟩=some (I6 ct) from by
   have h1:=h.1;rw[c7] at h1;exact⟨aA h1 0,aA h1 1,aA h1 2⟩))
  clear hW hb dl g1 g2 fo c7;refine iz (S:=(λw'=>w'.heap[b+1]?=some MO/\Below b W w')) gd (⟨fj.o,(gx _ _).drew⟩) (λhS=>?_);refine tC 0 b1 ?_;refine tC 1 b1 ?_;refine tC 2 b1 ?_;refine tC 4 b1 ?_;refine tC 5 b1 ?_;refine tC 7 b1 ?_;refine tC 8 b1 ?_;refine yr 3 λK hK=>?_;go_simp;go_at_call 64;refine(b0.o cv HR.1 _ hS.2).mono ?_;rintro e w4 ⟨rfl,ai⟩;have bo:=f8 (bf.ext ai);refine kOQ hK (⟨aB ai hS.1,hS.2.trans (ai.mono (by have:=ab.o;have:=hS.2.size;omega))⟩) λhS=>?_;clear hK K
  refine yr 6 λK hK=>?_;go_simp;go_at_call 64;refine(b0.o ce HR.2.1 _ hS.2).mono ?_;rintro e w5 ⟨rfl,ak⟩;have bj:=f8 (bo.ext ak);refine kOQ hK (⟨aB ak hS.1,hS.2.trans (ak.mono (by have:=ab.o;have:=hS.2.size;omega))⟩) λhS=>?_;clear hK K
  refine yr 9 λK hK=>?_;go_simp;go_at_call 64;refine(b0.o ct HR.2.2 _ hS.2).mono ?_;rintro e w6 ⟨rfl,ae⟩;have cz:=f8 (bj.ext ae);refine kOQ hK (⟨aB ae hS.1,hS.2.trans (ae.mono (by have:=ab.o;have:=hS.2.size;omega))⟩) λhS=>?_;clear hK K
  refine yr 10 λK hK=>?_;go_simp;have cR:=f8 (cz.ext ((gx _ w6).alloc lr (.cells #[.string (⟨#[115,110,97,112,115,104,111,116]⟩:BA),Sv (aE cv),Sv (aE ce),Sv (aE ct)] 9)));refine kOQ hK (⟨aC _ hS.1,hS.2.alloc (by have:=ab.o;have:=hS.2.size;omega) _⟩) λhS=>?_;clear hK K
  refine yr 11 λK hK=>?_;have HL:=f8 (dI b b ⟨[],0⟩ w6.heap.size 4 [(⟨#[115,110,97,112,115,104,111,116]⟩:BA),(aE cv),(aE ce),(aE ct)] (w6.alloc (.cells #[.string (⟨#[115,110,97,112,115,104,111,116]⟩:BA),Sv (aE cv),Sv (aE ce),Sv (aE ct)] 9)) (bS w6 [(⟨#[115,110,97,112,115,104,111,116]⟩:BA),(aE cv),(aE ce),(aE ct)] _) ge ge ge dp.o cR.o (by have:=ab.o;have:=hS.2.size;omega));go_simp;go_at_call 63;refine HL.mono ?_;rintro e w8 ⟨rfl,bi,bz,bx⟩;have bc:=f8 bi;clear HL bi
  refine kOQ hK (⟨bx _ _ hS.1 ge (by intro c fz;rw[bb.o];simp),hS.2.trans bz⟩) λhS=>?_;clear hK K
  refine iq gd ?_ _
  (try dsimp only)
  have bt:f7 (IsJw 126 b b ⟨P1,0⟩ w8/\w8.heap[b+1]?=some MO/\Below b W w8):=f8 ⟨by rw[cu.o];exact bc.o,hS.1,hS.2⟩;clear hS;have f1:=aA (show w8.heap[b+1]?=some (.cells #[I6 cv,I6 ce,I6 ct,Sl na nl nc,Sl aa al ac,Sl sa sl sc,Sl qa ql qc,Sl la ll lc] 27) from by rw[<-bb.o];exact bt.2.1) 3
  (try dsimp only at f1)
  go_wp2;clear f1
  go_loopw [43] (λiv wr=>∃k:Nat,k<=nl/\iv=I6 k/\IsJw 126 b b ⟨acc P1 jD d.ns k,(foE (λs:Sta=>(jQ s).2) d.ns k 0)⟩ wr/\wr.heap[b+1]?=some MO/\Below b W wr) (λiv _=>nl-(intOf iv).toNat)
  case atStart=>exact⟨0,ii _,rfl,by rw[eH];rw[xK];exact bt.1,bt.2.1,bt.2.2⟩
  case round =>
   obtain⟨k,hk,rfl,ad,ah,ag⟩:=hrel;obtain⟨wp,rfl⟩:=xe (wr:World)
   have bl:(nl:Int)<=9223372036854775807:=by have h:=HD.ns.big;dsimp only at h;omega
   have be:f7 (b+1<wp.heap.size):=f8 (ltOf ah);by_cases aw:k<nl
   ·obtain⟨rb,ro,x,dx,A,ea,ay,az,am,aj,⟨av,a9⟩,ad,ba,aq⟩:=Row.round (E:=λk=>foE (λs:Sta=>(jQ s).2) d.ns k 0) (λe x=>orL [e,(λs:Sta=>(jQ s).2) x]) jD HD.ns er.o eg.o (λj h=>xL (λs:Sta=>(jQ s).2) d.ns j 0 h) aw ad;have au:=e8.o k av;rw[<-a9] at au;dsimp only at ay am aj aq;subst ay;have bq:(k:Int)<(nl:Int):=ga
    have cn:(0:Int)<=(k:Int):=ga
    obtain⟨cl,cd⟩:=h_2 ah ag;obtain⟨x0,x1,x2⟩:=AtG.sta (am.same (HQ.o wp ag rb az).2);obtain⟨y,hy⟩:=xe ((jQ dx).1:BA)
    obtain⟨u,hu⟩:=xe ((jQ dx).2:Int)
    have fd:=f8 (λ(w':World) (h:Below b W w')=>(show CP 35 #[.agg #[I6 x.n,I6 x.t,Sl x.a x.l x.c]] w' (Rt (.tuple #[Sv y,I6 u]) w') from by
     rw[hy,hu];exact tM x dx w' (aj.same λk hk=>HQ.o w' h k hk) (ck.o w' h) (c4.o w' h) au))
    have dj:y.data.toList=jD dx:=by rw[hy];rfl
    have ev:y.size=(jD dx).length:=by rw[<-dj,lu];rfl
    rw[<-hu,<-dj] at aq;have dq:f7 (A.length+y.size<=140737488355328):=f8 (by rw[ev];exact ba.o);obtain⟨wq,bg,an,bf,br,b9⟩:=aBk (.cells #[I6 x.n,I6 x.t,Sl x.a x.l x.c] 85) ah ag ad;clear a9 av am aj az ag ad ah hy hu dj ev au;have af:=f8 (λ(w':World) (h:SB (.cells #[I6 x.n,I6 x.t,Sl x.a x.l x.c] 85) MO b wp.heap.size W w')=>(show Ce w' wp.heap.size 0 (I6 x.n)/\Ce w' wp.heap.size 1 (I6 x.t)/\Ce w' wp.heap.size 2 (Sl x.a x.l x.c) from⟨aA h.1 0,aA h.1 1,aA h.1 2⟩));go_upto_region 10 with (fail)
    rw[<-bg.o];clear x0 x1 x2;refine iz (S:=(SB (.cells #[I6 x.n,I6 x.t,Sl x.a x.l x.c] 85) MO b wp.heap.size W)) gd (⟨an.1,an.2.1,br.o,an.2.2.2⟩) (λhS=>?_);refine tC 0 af ?_;refine tC 1 af ?_;refine tC 2 af ?_;refine tC 3 af ?_;refine tC 4 af ?_;refine yr 5 λK hK=>?_;go_simp;go_at_call 35;refine(fd.o _ hS.2.2.1).mono ?_;rintro e w4 ⟨rfl,ai⟩;have bo:=f8 (bf.ext ai);refine kOQ hK ((hS.xt ab.o ai)) λhS=>?_;clear hK K
    refine tC 6 af ?_;refine tC 7 af ?_;refine yr 8 λK hK=>?_;have cr:=f8 (lG b b ⟨A,ea⟩ y u _ bo.o (by have:=ab.o;have:=hS.2.2.1.size;omega));go_simp;go_at_call 66;refine cr.mono ?_;rintro r w5 ⟨rfl,cf,ak,cp⟩;have bj:=f8 cf;clear cr cf;refine kOQ hK (⟨cp _ _ hS.1 (by simp;have:=ab.o;have:=be.o;omega) (by intro c fz;simp),cp _ _ hS.2.1 ge (by intro c fz;rw[bb.o];simp),hS.2.2.1.trans ak,by have:=ak.size;have:=hS.2.2.2;omega⟩) λhS=>?_;clear hK K
    refine yr 9 λK hK=>?_;have HL:=f8 (vC 126 snwT b b ⟨A,orL [ea,u]⟩ y _ bj.o dq.o (by have:=ab.o;have:=hS.2.2.1.size;omega));go_simp;go_at_call 65;refine HL.mono ?_;rintro e w6 ⟨rfl,ap,ae,ao⟩;have bc:=f8 ap;clear HL ap;refine kOQ hK (⟨ao _ _ hS.1 (by simp;have:=ab.o;have:=be.o;omega) (by intro c fz;simp),ao _ _ hS.2.1 ge (by intro c fz;rw[bb.o];simp),hS.2.2.1.trans ae,by have:=ae.size;have:=hS.2.2.2;omega⟩) λhS=>?_;clear hK K
    refine iq gd ?_ _
    (try dsimp only)
    have ax:=f8 hS;clear hS;go_wp2
    go_roundw
    case rel=>exact⟨k+1,by omega,by go_num,aq.o _ bc.o,ax.2.1,ax.2.2.1⟩
    case measure=>simp[intOf];omega
   ·obtain rfl:nl=k:=ga
    have bn:f7 (IsJw 126 b b ⟨P2,orL [0,aR (λ_ x=>(λs:Sta=>(jQ s).2) x) 0 d.ns]⟩ wp/\wp.heap[b+1]?=some MO/\Below b W wp):=f8 (by
     have h:=HD.ns.len;dsimp only at h;rw[h,fO,<-er.o,aCz] at ad;exact⟨ad,ah,ag⟩)
    clear ad ah ag aw hk;rw[<-dm.o] at bn;have f2:=aA (show wp.heap[b+1]?=some (.cells #[I6 cv,I6 ce,I6 ct,Sl na nl nc,Sl aa al ac,Sl sa sl sc,Sl qa ql qc,Sl la ll lc] 27) from by rw[<-bb.o];exact bn.2.1) 4
    (try dsimp only at f2)
    go_wp2;clear f2
    go_loopw [61] (λiv wr=>∃k:Nat,k<=al/\iv=I6 k/\IsJw 126 b b ⟨acc P2 (cC pS) d.ar k,(orL [0,s1])⟩ wr/\wr.heap[b+1]?=some MO/\Below b W wr) (λiv _=>al-(intOf iv).toNat)
    case atStart=>exact⟨0,ii _,rfl,by rw[eH];exact bn.1,bn.2.1,bn.2.2⟩
    case round =>
     obtain⟨k,hk,rfl,ad,ah,ag⟩:=hrel;obtain⟨wp,rfl⟩:=xe (wr:World)
     have bl:(al:Int)<=9223372036854775807:=by have h:=HD.ar.big;dsimp only at h;omega
     have be:f7 (b+1<wp.heap.size):=f8 (ltOf ah);by_cases aw:k<al
     ·obtain⟨rb,ro,x,dx,A,ea,ay,az,am,aj,⟨av,a9⟩,ad,ba,aq⟩:=Row.round (E:=λ_=>(orL [0,s1])) (λe _=>e) (cC pS) HD.ar eo.o ee.o (λ_ _=>rfl) aw ad;have au:=fr.o k av;rw[<-a9] at au;dsimp only at ay am aj aq;subst ay;have bq:(k:Int)<(al:Int):=ga
      have cn:(0:Int)<=(k:Int):=ga
      obtain⟨cl,cd⟩:=h_2 ah ag;obtain⟨x0,x1⟩:=AtG.cnt (am.same (HQ.o wp ag rb az).2);have bh:cC pS dx=lnB [(⟨#[97,114,114,105,118,101,100]⟩:BA),x.nm,(aE x.nu)]:=by unfold cC;rw[<-aj.e];rfl
      have bs:=f8 (show I64 x.nu by rw[aj.e];unfold I64;omega);rw[bh] at aq ba;obtain⟨wq,bg,an,bf,br,b9⟩:=aBk (.cells #[Sv x.nm,I6 x.nu] 87) ah ag ad;clear a9 av am aj az ag ad ah bh au;have af:=f8 (λ(w':World) (h:SB (.cells #[Sv x.nm,I6 x.nu] 87) MO b wp.heap.size W w')=>(show Ce w' wp.heap.size 0 (Sv x.nm)/\Ce w' wp.heap.size 1 (I6 x.nu) from⟨aA h.1 0,aA h.1 1⟩));go_upto_region 15 with (fail)
      rw[<-bg.o];clear x0 x1;refine iz (S:=(SB (.cells #[Sv x.nm,I6 x.nu] 87) MO b wp.heap.size W)) gd (⟨an.1,an.2.1,br.o,an.2.2.2⟩) (λhS=>?_);refine tC 0 af ?_;refine tC 1 af ?_;refine tC 2 af ?_;refine tC 3 af ?_;refine tC 4 af ?_;refine yr 5 λK hK=>?_;go_simp;go_at_call 64;refine(b0.o x.nu bs.o _ hS.2.2.1).mono ?_;rintro e w4 ⟨rfl,ai⟩;have bo:=f8 (bf.ext ai);refine kOQ hK ((hS.xt ab.o ai)) λhS=>?_;clear hK K
      refine yr 6 λK hK=>?_;go_simp;have bj:=f8 (bo.ext ((gx _ w4).alloc lr (.cells #[.string (⟨#[97,114,114,105,118,101,100]⟩:BA),Sv x.nm,Sv (aE x.nu)] 9)));refine kOQ hK ((hS.xa ab.o _)) λhS=>?_;clear hK K
      refine yr 7 λK hK=>?_;have HL:=f8 (dI b b ⟨A,ea⟩ w4.heap.size 3 [(⟨#[97,114,114,105,118,101,100]⟩:BA),x.nm,(aE x.nu)] (w4.alloc (.cells #[.string (⟨#[97,114,114,105,118,101,100]⟩:BA),Sv x.nm,Sv (aE x.nu)] 9)) (bS w4 [(⟨#[97,114,114,105,118,101,100]⟩:BA),x.nm,(aE x.nu)] _) ge ge ge ba.o bj.o (by have:=ab.o;have:=hS.2.2.1.size;omega));go_simp;go_at_call 63;refine HL.mono ?_;rintro e w6 ⟨rfl,ap,ae,ao⟩;have bc:=f8 ap;clear HL ap
      refine kOQ hK (⟨ao _ _ hS.1 (by simp;have:=ab.o;have:=be.o;omega) (by intro c fz;simp),ao _ _ hS.2.1 ge (by intro c fz;rw[bb.o];simp),hS.2.2.1.trans ae,by have:=ae.size;have:=hS.2.2.2;omega⟩) λhS=>?_;clear hK K
      refine iq gd ?_ _
      (try dsimp only)
      have ax:=f8 hS;clear hS;go_wp2
      go_roundw
      case rel=>exact⟨k+1,by omega,by go_num,aq.o _ bc.o,ax.2.1,ax.2.2.1⟩
      case measure=>simp[intOf];omega
     ·obtain rfl:al=k:=ga
      have bv:f7 (IsJw 126 b b ⟨P3,(orL [0,s1])⟩ wp/\wp.heap[b+1]?=some MO/\Below b W wp):=f8 (by
       have h:=HD.ar.len;dsimp only at h;rw[h,fO,<-eo.o] at ad;exact⟨ad,ah,ag⟩)
      clear ad ah ag aw hk;have f3:=aA (show wp.heap[b+1]?=some (.cells #[I6 cv,I6 ce,I6 ct,Sl na nl nc,Sl aa al ac,Sl sa sl sc,Sl qa ql qc,Sl la ll lc] 27) from by rw[<-bb.o];exact bv.2.1) 5
      (try dsimp only at f3)
      go_wp2;clear f3
      go_loopw [77] (λiv wr=>∃k:Nat,k<=sl/\iv=I6 k/\IsJw 126 b b ⟨acc P3 (cC jR) d.se k,(orL [0,s1])⟩ wr/\wr.heap[b+1]?=some MO/\Below b W wr) (λiv _=>sl-(intOf iv).toNat)
      case atStart=>exact⟨0,ii _,rfl,by rw[eH];exact bv.1,bv.2.1,bv.2.2⟩
      case round =>
       obtain⟨k,hk,rfl,ad,ah,ag⟩:=hrel;obtain⟨wp,rfl⟩:=xe (wr:World)
       have bl:(sl:Int)<=9223372036854775807:=by have h:=HD.se.big;dsimp only at h;omega
       have be:f7 (b+1<wp.heap.size):=f8 (ltOf ah);by_cases aw:k<sl
       ·obtain⟨rb,ro,x,dx,A,ea,ay,az,am,aj,⟨av,a9⟩,ad,ba,aq⟩:=Row.round (E:=λ_=>(orL [0,s1])) (λe _=>e) (cC jR) HD.se ei.o d2.o (λ_ _=>rfl) aw ad;have au:=fm.o k av;rw[<-a9] at au;dsimp only at ay am aj aq;subst ay;have bq:(k:Int)<(sl:Int):=ga
        have cn:(0:Int)<=(k:Int):=ga
        obtain⟨cl,cd⟩:=h_2 ah ag;obtain⟨x0,x1⟩:=AtG.cnt (am.same (HQ.o wp ag rb az).2);have bh:cC jR dx=lnB [(⟨#[115,101,110,116]⟩:BA),x.nm,(aE x.nu)]:=by unfold cC;rw[<-aj.e];rfl
        have bs:=f8 (show I64 x.nu by rw[aj.e];unfold I64;omega);rw[bh] at aq ba;obtain⟨wq,bg,an,bf,br,b9⟩:=aBk (.cells #[Sv x.nm,I6 x.nu] 87) ah ag ad;clear a9 av am aj az ag ad ah bh au;have af:=f8 (λ(w':World) (h:SB (.cells #[Sv x.nm,I6 x.nu] 87) MO b wp.heap.size W w')=>(show Ce w' wp.heap.size 0 (Sv x.nm)/\Ce w' wp.heap.size 1 (I6 x.nu) from⟨aA h.1 0,aA h.1 1⟩));go_upto_region 20 with (fail)
        rw[<-bg.o];clear x0 x1;refine iz (S:=(SB (.cells #[Sv x.nm,I6 x.nu] 87) MO b wp.heap.size W)) gd (⟨an.1,an.2.1,br.o,an.2.2.2⟩) (λhS=>?_);refine tC 0 af ?_;refine tC 1 af ?_;refine tC 2 af ?_;refine tC 3 af ?_;refine tC 4 af ?_;refine yr 5 λK hK=>?_;go_simp;go_at_call 64;refine(b0.o x.nu bs.o _ hS.2.2.1).mono ?_;rintro e w4 ⟨rfl,ai⟩;have bo:=f8 (bf.ext ai);refine kOQ hK ((hS.xt ab.o ai)) λhS=>?_;clear hK K
        refine yr 6 λK hK=>?_;go_simp;have bj:=f8 (bo.ext ((gx _ w4).alloc lr (.cells #[.string (⟨#[115,101,110,116]⟩:BA),Sv x.nm,Sv (aE x.nu)] 9)));refine kOQ hK ((hS.xa ab.o _)) λhS=>?_;clear hK K
        refine yr 7 λK hK=>?_;have HL:=f8 (dI b b ⟨A,ea⟩ w4.heap.size 3 [(⟨#[115,101,110,116]⟩:BA),x.nm,(aE x.nu)] (w4.alloc (.cells #[.string (⟨#[115,101,110,116]⟩:BA),Sv x.nm,Sv (aE x.nu)] 9)) (bS w4 [(⟨#[115,101,110,116]⟩:BA),x.nm,(aE x.nu)] _) ge ge ge ba.o bj.o (by have:=ab.o;have:=hS.2.2.1.size;omega));go_simp;go_at_call 63;refine HL.mono ?_;rintro e w6 ⟨rfl,ap,ae,ao⟩;have bc:=f8 ap;clear HL ap
        refine kOQ hK (⟨ao _ _ hS.1 (by simp;have:=ab.o;have:=be.o;omega) (by intro c fz;simp),ao _ _ hS.2.1 ge (by intro c fz;rw[bb.o];simp),hS.2.2.1.trans ae,by have:=ae.size;have:=hS.2.2.2;omega⟩) λhS=>?_;clear hK K
        refine iq gd ?_ _
        (try dsimp only)
        have ax:=f8 hS;clear hS;go_wp2
        go_roundw
        case rel=>exact⟨k+1,by omega,by go_num,aq.o _ bc.o,ax.2.1,ax.2.2.1⟩
        case measure=>simp[intOf];omega
       ·obtain rfl:sl=k:=ga
        have bw:f7 (IsJw 126 b b ⟨P4,(orL [0,s1])⟩ wp/\wp.heap[b+1]?=some MO/\Below b W wp):=f8 (by
         have h:=HD.se.len;dsimp only at h;rw[h,fO,<-ei.o] at ad;exact⟨ad,ah,ag⟩)
        clear ad ah ag aw hk;have f4:=aA (show wp.heap[b+1]?=some (.cells #[I6 cv,I6 ce,I6 ct,Sl na nl nc,Sl aa al ac,Sl sa sl sc,Sl qa ql qc,Sl la ll lc] 27) from by rw[<-bb.o];exact bw.2.1) 6
        (try dsimp only at f4)
        go_wp2;clear f4
        go_loopw [93] (λiv wr=>∃k:Nat,k<=ql/\iv=I6 k/\IsJw 126 b b ⟨acc P4 iE d.qs k,(orL [0,s1])⟩ wr/\wr.heap[b+1]?=some MO/\Below b W wr) (λiv _=>ql-(intOf iv).toNat)
        case atStart=>exact⟨0,ii _,rfl,by rw[eH];exact bw.1,bw.2.1,bw.2.2⟩
        case round =>
         obtain⟨k,hk,rfl,ad,ah,ag⟩:=hrel;obtain⟨wp,rfl⟩:=xe (wr:World)
         have bl:(ql:Int)<=9223372036854775807:=by have h:=HD.qs.big;dsimp only at h;omega
         have be:f7 (b+1<wp.heap.size):=f8 (ltOf ah);by_cases aw:k<ql
         ·obtain⟨rb,ro,x,dx,A,ea,ay,az,am,aj,⟨av,a9⟩,ad,ba,aq⟩:=Row.round (E:=λ_=>(orL [0,s1])) (λe _=>e) iE HD.qs el.o eb.o (λ_ _=>rfl) aw ad;have au:=fe.o k av;rw[<-a9] at au;dsimp only at ay am aj aq;subst ay;have bq:(k:Int)<(ql:Int):=ga
          have cn:(0:Int)<=(k:Int):=ga
          obtain⟨cl,cd⟩:=h_2 ah ag;obtain⟨x0,x1,x2,x3⟩:=AtG.que (am.same (HQ.o wp ag rb az).2);obtain⟨qx,du⟩:=xe (qxT x.tx)
          have bh:iE dx=lnB [(⟨#[113,117,101,117,101,100]⟩:BA),x.nm,(aE x.nu),(aE x.vr),qx]:=by unfold iE;rw[<-aj.e,du];rfl
          have bs:=f8 (show I64 x.nu/\I64 x.vr/\x.tx.size<=65536 by have:=aj.e;rw[<-this] at au;unfold I64;omega);have ew:=f8 (λ(w':World)=>(show CP 36 #[Sv x.tx] w' (Rt (Sv qx) w') from by rw[du];exact jF x.tx w' (by have:=bs.2.2;omega)));rw[bh] at aq ba;obtain⟨wq,bg,an,bf,br,b9⟩:=aBk (.cells #[Sv x.nm,I6 x.nu,I6 x.vr,Sv x.tx] 60) ah ag ad;clear a9 av am aj az ag ad ah bh au du
          have af:=f8 (λ(w':World) (h:SB (.cells #[Sv x.nm,I6 x.nu,I6 x.vr,Sv x.tx] 60) MO b wp.heap.size W w')=>(show Ce w' wp.heap.size 0 (Sv x.nm)/\Ce w' wp.heap.size 1 (I6 x.nu)/\Ce w' wp.heap.size 2 (I6 x.vr)/\Ce w' wp.heap.size 3 (Sv x.tx) from⟨aA h.1 0,aA h.1 1,aA h.1 2,aA h.1 3⟩));go_upto_region 25 with (fail)
          rw[<-bg.o];clear x0 x1 x2 x3;refine iz (S:=(SB (.cells #[Sv x.nm,I6 x.nu,I6 x.vr,Sv x.tx] 60) MO b wp.heap.size W)) gd (⟨an.1,an.2.1,br.o,an.2.2.2⟩) (λhS=>?_);refine tC 0 af ?_;refine tC 1 af ?_;refine tC 2 af ?_;refine tC 3 af ?_;refine tC 4 af ?_;refine tC 6 af ?_;refine tC 7 af ?_;refine tC 9 af ?_;refine tC 10 af ?_;refine yr 5 λK hK=>?_;go_simp;go_at_call 64;refine(b0.o x.nu bs.1 _ hS.2.2.1).mono ?_;rintro e w4 ⟨rfl,ai⟩;have bo:=f8 (bf.ext ai);refine kOQ hK ((hS.xt ab.o ai)) λhS=>?_;clear hK K
          refine yr 8 λK hK=>?_;go_simp;go_at_call 64;refine(b0.o x.vr bs.2.1 _ hS.2.2.1).mono ?_;rintro e w5 ⟨rfl,ak⟩;have bj:=f8 (bo.ext ak);refine kOQ hK ((hS.xt ab.o ak)) λhS=>?_;clear hK K
          refine yr 11 λK hK=>?_;go_simp;go_at_call 36;refine(ew.o _).mono ?_;rintro e w6 ⟨rfl,ae⟩;have cz:=f8 (bj.ext ae);refine kOQ hK ((hS.xt ab.o ae)) λhS=>?_;clear hK K
          refine yr 12 λK hK=>?_;go_simp;have cR:=f8 (cz.ext ((gx _ w6).alloc lr (.cells #[.string (⟨#[113,117,101,117,101,100]⟩:BA),Sv x.nm,Sv (aE x.nu),Sv (aE x.vr),Sv qx] 9)));refine kOQ hK ((hS.xa ab.o _)) λhS=>?_;clear hK K
          refine yr 13 λK hK=>?_;have HL:=f8 (dI b b ⟨A,ea⟩ w6.heap.size 5 [(⟨#[113,117,101,117,101,100]⟩:BA),x.nm,(aE x.nu),(aE x.vr),qx] (w6.alloc (.cells #[.string (⟨#[113,117,101,117,101,100]⟩:BA),Sv x.nm,Sv (aE x.nu),Sv (aE x.vr),Sv qx] 9)) (bS w6 [(⟨#[113,117,101,117,101,100]⟩:BA),x.nm,(aE x.nu),(aE x.vr),qx] _) ge ge ge ba.o cR.o (by have:=ab.o;have:=hS.2.2.1.size;omega));go_simp;go_at_call 63;refine HL.mono ?_;rintro e w8 ⟨rfl,bi,bz,bx⟩;have bc:=f8 bi;clear HL bi
          refine kOQ hK (⟨bx _ _ hS.1 (by simp;have:=ab.o;have:=be.o;omega) (by intro c fz;simp),bx _ _ hS.2.1 ge (by intro c fz;rw[bb.o];simp),hS.2.2.1.trans bz,by have:=bz.size;have:=hS.2.2.2;omega⟩) λhS=>?_;clear hK K
          refine iq gd ?_ _
          (try dsimp only)
          have ax:=f8 hS;clear hS;go_wp2
          go_roundw
          case rel=>exact⟨k+1,by omega,by go_num,aq.o _ bc.o,ax.2.1,ax.2.2.1⟩
          case measure=>simp[intOf];omega
         ·obtain rfl:ql=k:=ga
          have bu:f7 (IsJw 126 b b ⟨P5,(orL [0,s1])⟩ wp/\wp.heap[b+1]?=some MO/\Below b W wp):=f8 (by
           have h:=HD.qs.len;dsimp only at h;rw[h,fO,<-el.o] at ad;exact⟨ad,ah,ag⟩)
          clear ad ah ag aw hk;have f5:=aA (show wp.heap[b+1]?=some (.cells #[I6 cv,I6 ce,I6 ct,Sl na nl nc,Sl aa al ac,Sl sa sl sc,Sl qa ql qc,Sl la ll lc] 27) from by rw[<-bb.o];exact bu.2.1) 7
          (try dsimp only at f5)
          go_wp2;clear f5
          go_loopw [115] (λiv wr=>∃k:Nat,k<=ll/\iv=I6 k/\IsJw 126 b b ⟨acc P5 iF d.ls k,(foE (λl:Let=>(iB l.m).2) d.ls k (orL [0,s1]))⟩ wr/\wr.heap[b+1]?=some MO/\Below b W wr) (λiv _=>ll-(intOf iv).toNat)
          case atStart=>exact⟨0,ii _,rfl,by rw[eH];rw[xK];exact bu.1,bu.2.1,bu.2.2⟩
          case round =>
           obtain⟨k,hk,rfl,ad,ah,ag⟩:=hrel;obtain⟨wp,rfl⟩:=xe (wr:World)
           have bl:(ll:Int)<=9223372036854775807:=by have h:=HD.ls.big;dsimp only at h;omega
           have be:f7 (b+1<wp.heap.size):=f8 (ltOf ah);by_cases aw:k<ll
           ·obtain⟨rb,ro,x,dx,A,ea,ay,az,am,aj,⟨av,a9⟩,ad,ba,aq⟩:=Row.round (E:=λk=>foE (λl:Let=>(iB l.m).2) d.ls k (orL [0,s1])) (λe x=>orL [e,(λl:Let=>(iB l.m).2) x]) iF HD.ls es.o em.o (λj h=>xL (λl:Let=>(iB l.m).2) d.ls j (orL [0,s1]) h) aw ad;have au:=e6.o k av;rw[<-a9] at au;dsimp only at ay am aj aq;subst ay;have bq:(k:Int)<(ll:Int):=ga
            have cn:(0:Int)<=(k:Int):=ga
            obtain⟨cl,cd⟩:=h_2 ah ag;obtain⟨x0,x1,x2,x3,x4,x5,x6,x7,x8,x9,ex,e9,fg⟩:=AtG.let' (am.same (HQ.o wp ag rb az).2);obtain⟨qt,dz⟩:=xe (⟨(aQ x.tx.data.toList).toArray⟩:BA)
            obtain⟨mt,dv⟩:=xe ((iB dx.m).1)
            obtain⟨u,hu⟩:=xe ((iB dx.m).2)
            have bh:iF dx=lnB [(⟨#[108,101,116,116,101,114]⟩:BA),(aE x.vr),x.nd,qt,mt]:=by unfold iF;rw[<-aj.vr,<-aj.nd,<-aj.tx,dz,dv];rfl
            have bs:=f8 (show I64 x.vr/\x.tx.size<=1000000 by have h1:=aj.vr;have h2:=aj.tx;rw[<-h1,<-h2] at au;unfold I64;omega);have fs:=f8 (λ(w':World) (h:Below b W w')=>(show CP 38 #[Sv x.tx] w' (Rt (Sv qt) w') from by rw[dz];exact jG x.tx w' bs.2 (ck.o w' h) (c4.o w' h)));have d9:=f8 (λ(w':World) (h:Below b W w')=>(show CP 37 #[x.m.v] w' (Rt (.tuple #[Sv mt,I6 u]) w') from by
             rw[dv,hu];exact mZ x.m dx.m w' (aj.m.same λk hk=>HQ.o w' h k hk) (ck.o w' h) (c4.o w' h)))
            dsimp only[MC.v] at d9;rw[bh,<-hu] at aq;rw[bh] at ba;obtain⟨wq,bg,an,bf,br,b9⟩:=aBk (Ol x 71) ah ag ad;clear a9 av am aj az ag ad ah bh au dz dv hu
            have af:=f8 (λ(w':World) (h:SB (Ol x 71) MO b wp.heap.size W w')=>(show Ce w' wp.heap.size 0 (I6 x.m.st.e)/\Ce w' wp.heap.size 1 (Sl x.m.st.a x.m.st.n x.m.st.c)/\Ce w' wp.heap.size 2 (I6 x.m.m)/\Ce w' wp.heap.size 3 (Sl x.m.a x.m.n x.m.c)/\Ce w' wp.heap.size 4 (I6 x.m.b.k)/\Ce w' wp.heap.size 5 (I6 x.m.b.i)/\Ce w' wp.heap.size 6 (I6 x.m.b.s)/\Ce w' wp.heap.size 7 (Sv x.m.b.t)/\Ce w' wp.heap.size 8 (Sl x.m.b.la x.m.b.ll x.m.b.lc)/\Ce w' wp.heap.size 9 (Sl x.m.b.fa x.m.b.fl x.m.b.fc)/\Ce w' wp.heap.size 10 (Sv x.nd)/\Ce w' wp.heap.size 11 (Sv x.tx)/\Ce w' wp.heap.size 12 (I6 x.vr) from⟨aA h.1 0,aA h.1 1,aA h.1 2,aA h.1 3,aA h.1 4,aA h.1 5,aA h.1 6,aA h.1 7,aA h.1 8,aA h.1 9,aA h.1 10,aA h.1 11,aA h.1 12⟩))
            go_upto_region 30 with (fail)
            rw[<-bg.o];clear x0 x1 x2 x3 x4 x5 x6 x7 x8 x9 ex e9 fg;refine iz (S:=(SB (Ol x 71) MO b wp.heap.size W)) gd (⟨an.1,an.2.1,br.o,an.2.2.2⟩) (λhS=>?_);refine tC 0 af ?_;refine tC 1 af ?_;refine tC 2 af ?_;refine tC 4 af ?_;refine tC 5 af ?_;refine tC 6 af ?_;refine tC 7 af ?_;refine tC 9 af ?_;refine tC 10 af ?_;refine tC 11 af ?_;refine yr 3 λK hK=>?_;go_simp;go_at_call 64;refine(b0.o x.vr bs.1 _ hS.2.2.1).mono ?_;rintro e w4 ⟨rfl,ai⟩;have bo:=f8 (bf.ext ai);refine kOQ hK ((hS.xt ab.o ai)) λhS=>?_;clear hK K
            refine yr 8 λK hK=>?_;go_simp;go_at_call 38;refine(fs.o _ hS.2.2.1).mono ?_;rintro e w5 ⟨rfl,ak⟩;have bj:=f8 (bo.ext ak);refine kOQ hK ((hS.xt ab.o ak)) λhS=>?_;clear hK K
            refine yr 12 λK hK=>?_;go_simp;go_at_call 37;refine(d9.o _ hS.2.2.1).mono ?_;rintro e w6 ⟨rfl,ae⟩;have cz:=f8 (bj.ext ae);refine kOQ hK ((hS.xt ab.o ae)) λhS=>?_;clear hK K
            refine tC 13 af ?_;refine tC 14 af ?_;refine yr 15 λK hK=>?_;have cr:=f8 (lG b b ⟨A,ea⟩ mt u _ cz.o (by have:=ab.o;have:=hS.2.2.1.size;omega));go_simp;go_at_call 66;refine cr.mono ?_;rintro r w7 ⟨rfl,cw,cm,cg⟩;have cR:=f8 cw;clear cr cw;refine kOQ hK (⟨cg _ _ hS.1 (by simp;have:=ab.o;have:=be.o;omega) (by intro c fz;simp),cg _ _ hS.2.1 ge (by intro c fz;rw[bb.o];simp),hS.2.2.1.trans cm,by have:=cm.size;have:=hS.2.2.2;omega⟩) λhS=>?_;clear hK K
            refine yr 16 λK hK=>?_;go_simp;have fq:=f8 (cR.ext ((gx _ w7).alloc lr (.cells #[.string (⟨#[108,101,116,116,101,114]⟩:BA),Sv (aE x.vr),Sv x.nd,Sv qt,Sv mt] 9)));refine kOQ hK ((hS.xa ab.o _)) λhS=>?_;clear hK K
            refine yr 17 λK hK=>?_;have HL:=f8 (dI b b ⟨A,orL [ea,u]⟩ w7.heap.size 5 [(⟨#[108,101,116,116,101,114]⟩:BA),(aE x.vr),x.nd,qt,mt] (w7.alloc (.cells #[.string (⟨#[108,101,116,116,101,114]⟩:BA),Sv (aE x.vr),Sv x.nd,Sv qt,Sv mt] 9)) (bS w7 [(⟨#[108,101,116,116,101,114]⟩:BA),(aE x.vr),x.nd,qt,mt] _) ge ge ge ba.o fq.o (by have:=ab.o;have:=hS.2.2.1.size;omega));go_simp;go_at_call 63;refine HL.mono ?_;rintro e w9 ⟨rfl,cx,cq,cc⟩;have bc:=f8 cx;clear HL cx
            refine kOQ hK (⟨cc _ _ hS.1 (by simp;have:=ab.o;have:=be.o;omega) (by intro c fz;simp),cc _ _ hS.2.1 ge (by intro c fz;rw[bb.o];simp),hS.2.2.1.trans cq,by have:=cq.size;have:=hS.2.2.2;omega⟩) λhS=>?_;clear hK K
            refine iq gd ?_ _
            (try dsimp only)
            have ax:=f8 hS;clear hS;go_wp2
            go_roundw
            case rel=>exact⟨k+1,by omega,by go_num,aq.o _ bc.o,ax.2.1,ax.2.2.1⟩
            case measure=>simp[intOf];omega
           ·obtain rfl:ll=k:=ga
            have bm:f7 (IsJw 126 b b ⟨P6,orL [(orL [0,s1]),aR (λ_ x=>(λl:Let=>(iB l.m).2) x) 0 d.ls]⟩ wp/\wp.heap[b+1]?=some MO/\Below b W wp):=f8 (by
             have h:=HD.ls.len;dsimp only at h;rw[h,fO,<-es.o,aCz] at ad;exact⟨ad,ah,ag⟩)
            clear ad ah ag aw hk;rw[<-di.o] at bm;have f6:=aA ((bm.2.2.block _ eu.o).trans GX.o) 8
            (try dsimp only at f6)
            go_wp2;clear f6
            go_loopw [141] (λiv wr=>∃k:Nat,k<=pl/\iv=I6 k/\IsJw 126 b b ⟨acc P6 lA d.ps k,(foE (λx:Ef=>lW x) d.ps k (orL [orL [0,s1],s5]))⟩ wr/\wr.heap[b+1]?=some MO/\Below b W wr) (λiv _=>pl-(intOf iv).toNat)
            case atStart=>exact⟨0,ii _,rfl,by rw[eH];rw[xK];exact bm.1,bm.2.1,bm.2.2⟩
            case round =>
             obtain⟨k,hk,rfl,ad,ah,ag⟩:=hrel;obtain⟨wp,rfl⟩:=xe (wr:World)
             have bl:(pl:Int)<=9223372036854775807:=by have h:=HD.ps.big;dsimp only at h;omega
             have be:f7 (b+1<wp.heap.size):=f8 (ltOf ah);by_cases aw:k<pl
             ·obtain⟨rb,ro,x,dx,A,ea,ay,az,am,aj,⟨av,a9⟩,ad,ba,aq⟩:=Row.round (E:=λk=>foE (λx:Ef=>lW x) d.ps k (orL [orL [0,s1],s5])) (λe x=>orL [e,(λx:Ef=>lW x) x]) lA HD.ps eh.o d8.o (λj h=>xL (λx:Ef=>lW x) d.ps j (orL [orL [0,s1],s5]) h) aw ad;have au:=e1.o k av;rw[<-a9] at au;dsimp only at ay am aj aq;subst ay;have bq:(k:Int)<(pl:Int):=ga
              have cn:(0:Int)<=(k:Int):=ga
              obtain⟨cl,cd⟩:=h_2 ah ag;have ey:=aJ2 (o:=ro+k * 18) (am.same (HQ.o wp ag rb az).2);have fb:=λz hz=>st_ef wp z hz x;have e2:=aNe wp x;dsimp only[EfC.cs] at ey fb e2;have fp:=f8 (λ(w':World) (h:Below b W w') (hi:IsJw 126 b b ⟨A,ea⟩ w')=>aBr b ⟨A,ea⟩ x dx w' hi (aj.same λk hk=>⟨by have:=b5.o;omega,(HQ.o w' h k hk).2⟩) (λw2 h2=>ck.o w2 (h.trans h2)) (λw2 h2=>c4.o w2 (h.trans h2)) au ba.o)
              obtain⟨wq,bg,an,bf,br,b9⟩:=aBk (Oe x 94) ah ag ad;clear a9 av am aj az ag ad ah au;have d3:=f8 (fp.o wq an.2.2.1 b9.o);rw[bg.o] at d3
              go_wp2_with (go_at_call 67;refine d3.mono ?_;rintro e w6 ⟨rfl,ap,ae,ao⟩;obtain⟨bc,et,ep⟩:=h_3 ap ae ao;clear ap ae ao)
              rw[<-bg.o] at et ep;have ax:f7 (True/\w6.heap[b+1]?=some MO/\Below b W w6/\True):=f8 ⟨trivial,ep.o _ _ an.2.1 ge (by intro c fz;rw[bb.o];simp),an.2.2.1.trans et.o,trivial⟩
              go_roundw
              case rel=>exact⟨k+1,by omega,by go_num,aq.o _ bc.o,ax.2.1,ax.2.2.1⟩
              case measure=>simp[intOf];omega
             ·obtain rfl:pl=k:=ga
              have bp:f7 (IsJw 126 b b ⟨P7,orL [(orL [orL [0,s1],s5]),aR (λ_ x=>(λx:Ef=>lW x) x) 0 d.ps]⟩ wp/\wp.heap[b+1]?=some MO/\Below b W wp):=f8 (by
               have h:=HD.ps.len;dsimp only at h;rw[h,fO,<-eh.o,aCz] at ad;exact⟨ad,ah,ag⟩)
              clear ad ah ag aw hk;rw[<-dr.o] at bp;have ff:=bp.2.2;have d1:=f8 (bp.1.ext ((gx wp.heap.size wp).alloc lr (.cells #[.string (⟨#[101,110,100]⟩:BA)] 9)));have co:(⟨P7,orL [orL [orL [0,s1],s5],s6]⟩:JW).b.length+(lnB [(⟨#[101,110,100]⟩:BA)]).length<=140737488355328:=by
               have h4:(lnB [(⟨#[101,110,100]⟩:BA)]).length=4:=by kernel_rfl
               have:=e0.o;rw[h4];show P7.length+4<=_;omega
              have fi:=f8 (dI b b ⟨P7,orL [orL [orL [0,s1],s5],s6]⟩ wp.heap.size 1 [(⟨#[101,110,100]⟩:BA)] (wp.alloc (.cells #[.string (⟨#[101,110,100]⟩:BA)] 9)) (bS wp [(⟨#[101,110,100]⟩:BA)] _) ge ge ge co d1.o (by have:=d1.lt;omega));clear ff co;go_upto_region 38 with (go_at_call 63;refine fi.mono ?_;rintro r cj ⟨rfl,b3,cL,dg⟩;have e3:=b3.eCell;obtain⟨b2,dn⟩:=h_2 b3 cL;clear b3 cL dg)
              obtain⟨ec,ef⟩:=e3;obtain⟨en,d0⟩:=xe (orL [orL [orL [0,s1],s5],s6])
              rw[<-d0] at ec b2;have cy:en=orL [s1,s5,s6]:=by rw[d0];exact aKe _ _ _
              have ek:=f8 cy;have d7:f7 (Below b W cj):=f8 ((bp.2.2.alloc (by have:=bp.1.lt;omega) _).trans dn.o);clear d0 cy;by_cases hz:en=0
              ·have ds:=f8 hz;have db:(en != 0)=false:=by simp[hz]
               clear hz;have de:(⟨P7++lnB [(⟨#[101,110,100]⟩:BA)],en⟩:JW).b≠[]:=by
                show P7++lnB [(⟨#[101,110,100]⟩:BA)]≠[];unfold lnB;simp
               have ez:=f8 (aJr 126 b b _ cj b2.o de (by have:=b2.lt;omega));go_wp2_with (go_at_call 54;refine ez.mono ?_;rintro r fv ⟨rfl,df,fn⟩)
               exact ig (v:=.tuple #[.string ⟨(P7++lnB [(⟨#[101,110,100]⟩:BA)]).toArray⟩,I6 0]) (by simp[results,results27,go_sem]) rfl ⟨by rw[ch.o,<-ek.o,ds.o,e7.o];rfl,b7.trans ((d7.trans df).mono b5.o)⟩
              ·have db:(en != 0)=true:=by simp[hz]
               have ds:=f8 hz;clear hz;go_upto_region 39 with (fail)
               have cb:=f8 (λ(w':World) (h:w'.heap[b]?=cj.heap[b]?)=>(show Ce w' b 2 (I6 en) from(jg (w:=cj) (a:=⟨b,2,none⟩) h).trans ec));refine iz (S:=(λw'=>w'.heap[b]?=cj.heap[b]?)) gd (rfl) (λhS=>?_);refine tC 0 cb ?_;refine tC 1 cb ?_;refine tC 2 cb ?_;refine tC 3 cb ?_;refine tC 4 cb ?_;refine tC 5 cb ?_;refine iq gd ?_ _
               (try dsimp only)
               clear hS;go_wp2;exact ig (v:=.tuple #[.string ⟨#[]⟩,I6 en]) (by simp[results,results27,go_sem]) rfl ⟨by rw[ch.o,<-ek.o,gw ds.o],(b7.trans (d7.mono b5.o)).drew⟩
 ·have ft:(u0 != 0)=true:=by simp[h0]
  have HR:f7 (jL d=(⟨#[]⟩,u0)):=f8 (by unfold jL;rw[<-b4,gw h0]);clear b4 h0;go_wp2_with (go_at_call 62;refine ed.mono ?_;rintro e w1 ⟨rfl,b6⟩;have c9:=f8 b6;clear b6)
  exact ig (v:=.tuple #[.string ⟨#[]⟩,I6 u0]) (by simp[results,results27,go_sem]) rfl ⟨by rw[HR.o],bk.trans (c9.mono bk.size)⟩
end
end Go.Proofs.YtoodnaghjpkjfaaGreatDoor
