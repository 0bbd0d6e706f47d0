/- A part. -/
import Derived.Test.YtoodnaghjpkjfaaGreatDoorSE32Mrg
namespace Go.Proofs.YtoodnaghjpkjfaaGreatDoor
open Tryz
set_option linter.unusedVariables false
set_option maxRecDepth 100000
set_option maxHeartbeats 64000000
set_option linter.unusedSimpArgs false
open Go Go.RowKit Go.Shelf
theorem kM {b B:Nat} {w w':World} (hbB:b<B) (hb:b<=w.heap.size) (h:Turn (λk=>k=b\/B<=k) w w'):Below b w w' :=
 ⟨h.os,h.tape,h.output,h.size,λk hk=>h.block k ga ga⟩
theorem row6 {w:World} {B T g n cap Q:Nat} {l:List Value} {z0 z1 z2 z3 z4 z5:Value} (h:w.ownsRow B T 6 (Sl (So g 0) n cap) n (l++[z0,z1,z2,z3,z4,z5])) (hl:l.length=Q) :
 Ce w g Q z0/\w.cell? ⟨g,Q+1,none⟩=some z1/\w.cell? ⟨g,Q+2,none⟩=some z2/\w.cell? ⟨g,Q+3,none⟩=some z3/\w.cell? ⟨g,Q+4,none⟩=some z4/\w.cell? ⟨g,Q+5,none⟩=some z5/\∀j,w.frozen? ⟨g,j,none⟩=false:=by
 have hn:n * 6=Q+6:=by have:=h.1;simp at this;omega
 have c:∀i,i<6->w.cell? ⟨g,Q+i,none⟩=[z0,z1,z2,z3,z4,z5][i]?:=λi hi=>by
  rw[h.cellAt (Q+i) ga,List.getElem?_append_right ga,hl,show Q+i-Q=i by omega]
 exact⟨c 0 gb,c 1 gb,c 2 gb,c 3 gb,c 4 gb,c 5 gb,λj=>h.frozenAt j⟩
theorem aB4:∀l:List VC,(l.flatMap VC.cs).length=l.length * 6
 | []=>rfl
 | c :: l=>by rw[nh,ik,aB4 l,im];show 6+l.length * 6=_;omega
theorem wp_region_two' {P:Program} {ops:Array Oper} {Q:Exit->Act->World->Prop} {id:Nat} {a:Act} {w:World} (st:Nat) {S:World->Prop} (hm:P.follows .mixedOrders=true) (hS:SL st S (Array.replicate ops.size false) w.drew)
 (h:gI P .any ops Q st S ops.size (Array.replicate ops.size false) a w.drew):(Code.region id ops true).wp P Q a w :=
 wp_region_any hm (qD _ _ _ _ h)
theorem dF {w w':World} {a:Addr} (h:w'.heap[a.block]?=w.heap[a.block]?):w'.frozen? a=w.frozen? a:=by
 simp only[World.frozen?,h]
theorem LastO.lastCell {B:Nat} {w:World} {gs scap:Nat} {ls:List Slot} {x:Slot} {cs:List SlC} {c:SlC} (h:LastO B w (Sl (So gs 0) (ls.length+1) scap) ls x cs c) :
 w.cell? ⟨gs,ls.length * 10+8,none⟩=some (Sl c.ia c.il c.ic)/\w.cell? ⟨gs,ls.length * 10+9,none⟩=some (Sl c.va c.vl c.vc)/\∀j,w.frozen? ⟨gs,ls.length * 10+j,none⟩=false:=by
 have hr:=h.row;rw[h.len] at hr;have q:=AtG.ofRow (K:=slK) hr ls.length (by simp[h.len]);have e:(cs++[c])[ls.length]'(by simp[h.len])=c:=by
  rw[li (by rw[h.len];exact gy _)];simp[h.len]
 rw[e] at q;obtain⟨_,_,_,_,_,_,_,_,q8,q9⟩:=q.slot;exact⟨q8,q9,λj=>hr.frozenAt _⟩
theorem LastO.lastCell' {B:Nat} {w:World} {gs scap aa:Nat} {ls:List Slot} {x:Slot} {cs:List SlC} {c:SlC} (h:LastO B w (Sl (So gs 0) aa scap) ls x cs c) :
 w.cell? ⟨gs,ls.length * 10+8,none⟩=some (Sl c.ia c.il c.ic)/\w.cell? ⟨gs,ls.length * 10+9,none⟩=some (Sl c.va c.vl c.vc)/\∀j,w.frozen? ⟨gs,ls.length * 10+j,none⟩=false:=by
 have e:aa=ls.length+1:=by
  rcases h.row.2 with ⟨_,h0⟩|⟨g,cap,cur,hv,_⟩
  ·omega
  ·simp only[lz] at hv;have:=h.len;omega
 subst e;exact h.lastCell
def zMc0:MC:=⟨⟨0,none,0,0⟩,0,none,0,0,⟨0,0,0,⟨#[]⟩,none,0,0,none,0,0⟩⟩
def zMs0:Msg:=⟨⟨0,[]⟩,0,[],eS⟩
theorem aFv (S:Nat->Prop) (w:World):IsInts S w none 0 0 []:=⟨rfl,gy _,by decide,λx h=>by(cases h),.inl rfl⟩
theorem zMs0_is (S:Nat->Prop) (w:World):IsMsg S w zMc0 zMs0 :=
 ⟨⟨rfl,⟨by decide,by decide⟩,aFv S w⟩,rfl,⟨by decide,by decide⟩,aFv S w,⟨⟨rfl,rfl,rfl,rfl,⟨⟨by decide,by decide⟩,⟨by decide,by decide⟩,⟨by decide,by decide⟩,by decide,by decide,by decide,by decide,by decide⟩,rfl,rfl,rfl⟩,.inl rfl,.inl rfl⟩⟩
theorem aN8 (s:BA) (w:World) (hs:s.size<=120000) (h4:∀a b c e,kO 4 s=[a,b,c,e]->e.size<=65536) (hT:Tabs w) (hZ:ZTab w) (hNV:NumVars w) :
 CP 25 #[Sv s] w λx w'=>∃(c:MC) (d:Msg) (E:Int),x=.returned (.tuple #[.agg #[I6 c.st.e,Sl c.st.a c.st.n c.st.c,I6 c.m,Sl c.a c.n c.c,I6 c.b.k,I6 c.b.i,I6 c.b.s,Sv c.b.t,Sl c.b.la c.b.ll c.b.lc,Sl c.b.fa c.b.fl c.b.fc],I6 E])/\IsMsg (λb=>w.heap.size<=b/\b<w'.heap.size) w' c d /\
  ((E=0/\uV s=some d)\/(E=3/\uV s=none))/\BB w w' :=
 (aCp s w hs h4 hT hZ hNV).mono λx w' h=>by
   rcases h.1 with ⟨c,d,h1,h2,h3⟩|⟨h1,h2⟩
   ·exact⟨c,d,0,h2,h3,.inl ⟨rfl,h1⟩,h.2⟩
   ·exact⟨zMc0,zMs0,3,h2,zMs0_is _ _,.inr ⟨rfl,h1⟩,h.2⟩
def mM (B b:Nat) (d:Sta) (word rest:BA) (w:World) (e:Ending) (w':World):Prop :=
 ∃bb:Bool,e=.returned (.bool bb)/\Turn (λk=>k=b\/B<=k) w w'/\((bb=true/\∃d',eV d word rest=some d'/\StOwn B b w' d')\/(bb=false/\eV d word rest=none))
theorem oX (s:BA) (hs:s.size<=1000000) (w:World) (hN:NumVars w) :
 CP 152 #[Sv s] w (Rt (.tuple #[I6 (eR s).1,Sv (eR s).2.1,.bool (eR s).2.2]) w):=by
 obtain⟨m,hm⟩:=hN.2.2;obtain⟨fl,ac⟩:=xe ((Lib.cut s.data.toList [32]).2.2)
 obtain⟨a,ha⟩:=xe ((cI s).1)
 obtain⟨r,hr⟩:=xe ((cI s).2)
 have ab:f7 (CP 50 #[Sv s,.string ⟨#[32]⟩] w (Rt (.tuple #[Sv a,Sv r,.bool fl]) w)):=f8 ((Tryz.strings_Cut s ⟨#[32]⟩ m w ga hm).mono λe w' ⟨he,k,hw⟩=>⟨by rw[he,ha,hr,ac];rfl,by rw[hw];exact below_drewN _ _⟩);have ag:a.size<=1000000:=by rw[ha];have:=(aM s).1;omega
 have ah:=f8 (λ(w':World) (h:BB w w')=>kL a ag w' (hN.below h));have HR:=f8 (show eR s=(dD a.data.toList,r,dE a.data.toList) by rw[ha,hr];rfl);clear hm ac ha hr ag hN;go_enter func152,ntmps152
 go_upto_region 3 with (first
  | (go_at_call 45;refine(ah.o w1 aa.o).mono ?_;rintro e w2 ⟨ev,rfl,ai,ae⟩;have ad:=f8 ae;clear ae;rcases ai with ⟨hok,rfl⟩|⟨hok,p,rfl⟩)
  | (go_at_call 50;refine ab.mono ?_;rintro e w1 ⟨rfl,af⟩;have aa:=f8 af;clear af))
 ·refine iz (S:=(λ_=>True)) gd (trivial) (λhS=>?_);refine tA 0 ?_;refine tA 1 ?_;refine tA 2 ?_;refine tA 3 ?_;refine tA 4 ?_;refine tA 5 ?_;refine tA 6 ?_;refine iq gd ?_ _
  (try dsimp only)
  go_wp2;refine ig (v:=.tuple #[I6 (dD a.data.toList),Sv r,.bool true]) (by simp[results,results152,go_sem]) rfl ?_;exact⟨by rw[HR.o,hok],(aa.trans (ad.mono aa.size)).drew⟩
 ·refine iz (S:=(λ_=>True)) gd (trivial) (λhS=>?_);refine tA 0 ?_;refine tA 1 ?_;refine tA 2 ?_;refine tA 3 ?_;refine tA 4 ?_;refine tA 5 ?_;refine tA 6 ?_;refine iq gd ?_ _
  (try dsimp only)
  go_wp2;refine ig (v:=.tuple #[I6 (dD a.data.toList),Sv r,.bool false]) (by simp[results,results152,go_sem]) rfl ?_;exact⟨by rw[HR.o,hok],(aa.trans (ad.mono aa.size)).drew⟩
theorem wJ (B b:Nat) (d:Sta) (word rest:BA) (w:World) (hd:StOwn B b w d) (ba:b<B) (hB:B<=w.heap.size) (n:Nat) (hz:Sz n d.l) (hn:n<=2000) (hT:∀w',Below b w w'->Tabs w'/\ZTab w'/\NumVars w') (ay:LnOK word rest) (hw:word=wState) :
 CP 96 #[Pt b 0,Sv word,Sv rest] w (mM B b d word rest w):=by
 obtain⟨sv,hb,aw,az,ac⟩:=hd;have a4:=ltOf hb;have HZ:=f8 hz;have HT:f7 (∀w',Turn (λk=>k=b\/B<=k) w w'->Tabs w'/\ZTab w'/\NumVars w'):=f8 λw' h=>hT w' (kM ba (ou a4) h);have av:=f8 ay;have HI:=f8 (ie aw az);have q1:(word.toList==[115,116,97,116,101])=true:=sJ _ _ hw;have a7:=f8 hw;clear hw;have a8:=f8 ac;obtain⟨pa,l0,sc,rfl,aq,ad⟩:∃pa l0 sc,sv=Sl pa l0 sc/\d.l.length=l0/\(l0≠0->∃gs,pa=some ⟨gs,0,none⟩):=by
  rcases ac with ⟨hdl,ac⟩|⟨ls,x,cs,c,hdl,hl⟩
  ·rcases ac.2 with ⟨rfl,_⟩|⟨g,cap,cur,rfl,_⟩
   ·exact⟨_,_,_,rfl,by rw[hdl];rfl,λh=>absurd rfl h⟩
   ·exact⟨_,_,_,rfl,by rw[hdl];rfl,λh=>absurd rfl h⟩
  ·have ao:=hl.len;rcases hl.row.2 with ⟨_,h0⟩|⟨g,cap,cur,rfl,h1,h2,_⟩
   ·omega
   ·exact⟨_,_,_,rfl,by rw[hdl,ao];simp,λ_=>⟨_,rfl⟩⟩
 have a5:l0<=2000:=by have:=hz.1;omega
 have k3:(0:Int)<=(l0:Int):=ga
 have an:=f8 ad;obtain⟨c0,c1,c2⟩:=c_3 hb;have f0:=aF hb 0;have f1:=aF hb 1;have f2:=aF hb 2
 (try dsimp only at c0 c1 c2)
 obtain⟨HB,bb⟩:=h_2 hb aq;clear ac aq hb hz ay hT aw az ad;obtain⟨n1,ae⟩:=xe ((eR rest).1)
 obtain⟨r1,af⟩:=xe ((eR rest).2.1)
 obtain⟨o1,ah⟩:=xe ((eR rest).2.2)
 obtain⟨n2,ag⟩:=xe ((eR r1).1)
 obtain⟨r2,ar⟩:=xe ((eR r1).2.1)
 obtain⟨o2,aj⟩:=xe ((eR r1).2.2)
 have a3:f7 (CP 152 #[Sv rest] w (Rt (.tuple #[I6 n1,Sv r1,.bool o1]) w)):=f8 (by rw[ae,af,ah];exact oX rest (by have:=av.z;omega) w (HT.o w (Turn.refl _ _)).2.2);have a9:f7 (∀w',NumVars w'->CP 152 #[Sv r1] w' (Rt (.tuple #[I6 n2,Sv r2,.bool o2]) w')):=f8 λw' h=>by rw[ag,ar,aj];exact oX r1 (by have:=av.z;have:=pD rest;rw[af];omega) w' h
 have am:=f8 (show eV d word rest=if o1=true/\o2=true then some ⟨n1,n2,d.l⟩ else none by
  rw[a7.o];unfold eV;rw[gw rfl,ae,ag,ah,aj,af])
 have a6:=f8 (show I64 n1 by rw[ae];exact eC _);have a2:=f8 (show I64 n2 by rw[ag];exact eC _);clear ae af ah ag ar aj;go_enter func96,ntmps96
 go_upto_if 21 with (fail)
 go_cut [7] (λv wz=>(∃p,v=.pointer p)/\wz=w)
 case first =>
  by_cases h0:l0=0
  ·subst h0;go_wp2
   go_meet
   exact⟨⟨_,rfl⟩,rfl⟩
  ·obtain⟨gs,au⟩:=an.o h0;rw[au] at c2;obtain⟨ln,a1⟩:=xe (l0-1)
   have k1:(l0:Int)-1=(ln:Int):=ga
   have k2:(0:Int)<(l0:Int):=ga
   have k4:(ln:Int)<(l0:Int):=ga
   have k5:(0:Int)<=(ln:Int):=ga
   have k6:IntKind.i64.wrap ((l0:Int)-1)=(ln:Int):=ip _ ga |>.trans ga;clear au a1;go_wp2
   go_meet
   exact⟨⟨_,rfl⟩,rfl⟩
 case rest =>
 obtain⟨⟨p7,rfl⟩,ap⟩:=hcut;rw[ap];clear ap;go_upto_region 7 with (fail)
 clear c0 c1 c2 f0 f1 f2;go_upto_region 8 with (go_at_call 152;refine a3.mono ?_;rintro e w1 ⟨rfl,ai⟩;have g1:=aB ai HB.o;obtain⟨ax,G1⟩:=h_2 ai g1;have c0:=aA g1 0;have f0:=aF g1 0;(try dsimp only at c0);clear g1 ai)
 clear c0 f0;obtain⟨w2,aa⟩:=xe (w1.setCell ⟨b,0,none⟩ (I6 n1))
 rw[<-aa];have T2:=f8 (show Turn (λk=>k=b\/B<=k) w w2 by rw[aa];exact(Turn.of_below ax.o).trans (Turn.setCell ⟨b,0,none⟩ _ (.inl rfl)));have g2:=aG (o:=0) (I6 n1) G1.o;rw[<-aa] at g2;simp only[jm,jn,jo] at g2;have G2:=f8 g2;have K2:=f8 (show ∀k,B<=k->k<w.heap.size->w2.heap[k]?=w.heap[k]? from λk h1 h2=>by rw[aa];exact(ij _ _ _ _ gl).trans (ax.block k h2));clear aa g2;cases o1
 ·go_wp2;go_ret;exact⟨false,rfl,T2.o,.inr ⟨rfl,by rw[am.o,f9 ge]⟩⟩
 have al:=f8 (a9.o w2 (HT.o w2 T2.o).2.2);go_upto_region 10 with (go_at_call 152;refine al.mono ?_;rintro e w3 ⟨rfl,ak⟩;have g3:=aB ak G2.o;obtain⟨a0,G3⟩:=h_2 ak g3;have c1:=aA g3 1;have f1:=aF g3 1;(try dsimp only at c1);clear g3 ak)
 clear c1 f1;obtain⟨w4,ab⟩:=xe (w3.setCell ⟨b,1,none⟩ (I6 n2))
 rw[<-ab];have T4:=f8 (show Turn (λk=>k=b\/B<=k) w w4 by rw[ab];exact(T2.trans (Turn.of_below a0.o)).trans (Turn.setCell ⟨b,1,none⟩ _ (.inl rfl)));have g4:=aG (o:=1) (I6 n2) G3.o;rw[<-ab] at g4;simp only[jm,jn,jo] at g4;have G4:=f8 g4;have K4:=f8 (show ∀k,B<=k->k<w.heap.size->w4.heap[k]?=w.heap[k]? from λk h1 h2=>by rw[ab];exact(ij _ _ _ _ gl).trans ((a0.block k (by have:=T2.size;omega)).trans (K2.o k h1 h2)));clear ab g4;go_wp2;go_ret;cases o2
 ·exact⟨false,rfl,T4.o,.inr ⟨rfl,by rw[am.o,f9 ge]⟩⟩
 ·exact⟨true,rfl,T4.o,.inl ⟨rfl,⟨n1,n2,d.l⟩,by rw[am.o,gw ge],_,G4.o,a6.o,a2.o,a8.move K4.o T4.size⟩⟩
theorem zB (B b:Nat) (d:Sta) (word rest:BA) (w:World) (hd:StOwn B b w d) (cd:b<B) (hB:B<=w.heap.size) (n:Nat) (hz:Sz n d.l) (hn:n<=2000) (hT:∀w',Below b w w'->Tabs w'/\ZTab w'/\NumVars w') (b4:LnOK word rest) (hw:word=wSlot) :
 CP 96 #[Pt b 0,Sv word,Sv rest] w (mM B b d word rest w):=by
 obtain⟨sv,hb,b3,b5,aw⟩:=hd;have ch:=ltOf hb;have HZ:=f8 hz;have HT:f7 (∀w',Turn (λk=>k=b\/B<=k) w w'->Tabs w'/\ZTab w'/\NumVars w'):=f8 λw' h=>hT w' (kM cd (ou ch) h);have bm:=f8 b4;have HI:=f8 (ie b3 b5);have q1:(word.toList==[115,116,97,116,101])=false:=jT _ _ (by rw[hw];decide);have q2:(word.toList==[115,108,111,116])=true:=sJ _ _ hw;have b1:=f8 hw;clear hw;have b2:=f8 aw;obtain⟨pa,l0,sc,rfl,bx,ay⟩:∃pa l0 sc,sv=Sl pa l0 sc/\d.l.length=l0/\(l0≠0->∃gs,pa=some ⟨gs,0,none⟩):=by
  rcases aw with ⟨hdl,aw⟩|⟨ls,x,cs,c,hdl,hl⟩
  ·rcases aw.2 with ⟨rfl,_⟩|⟨g,cap,cur,rfl,_⟩
   ·exact⟨_,_,_,rfl,by rw[hdl];rfl,λh=>absurd rfl h⟩
   ·exact⟨_,_,_,rfl,by rw[hdl];rfl,λh=>absurd rfl h⟩
  ·have ai:=hl.len;rcases hl.row.2 with ⟨_,h0⟩|⟨g,cap,cur,rfl,h1,h2,_⟩
   ·omega
   ·exact⟨_,_,_,rfl,by rw[hdl,ai];simp,λ_=>⟨_,rfl⟩⟩
 have cc:l0<=2000:=by have:=hz.1;omega
 have k3:(0:Int)<=(l0:Int):=ga
 have bo:=f8 ay;obtain⟨c0,c1,c2⟩:=c_3 hb;have f0:=aF hb 0;have f1:=aF hb 1;have f2:=aF hb 2
 (try dsimp only at c0 c1 c2)
 obtain⟨HB,ck⟩:=h_2 hb bx;clear aw bx hb hz b4 hT b3 b5 ay;obtain⟨n1,a7⟩:=xe ((eR rest).1)
 obtain⟨r1,au⟩:=xe ((eR rest).2.1)
 obtain⟨o1,bd⟩:=xe ((eR rest).2.2)
 obtain⟨n2,a3⟩:=xe ((eR r1).1)
 obtain⟨r2,a2⟩:=xe ((eR r1).2.1)
 obtain⟨o2,be⟩:=xe ((eR r1).2.2)
 obtain⟨pv,bp⟩:=xe ((fK r2).1)
 obtain⟨pp,bz⟩:=xe ((fK r2).2.1)
 obtain⟨pe,bh⟩:=xe ((fK r2).2.2)
 have b9:f7 (∀w',NumVars w'->CP 152 #[Sv rest] w' (Rt (.tuple #[I6 n1,Sv r1,.bool o1]) w')):=f8 λw' h=>by rw[a7,au,bd];exact oX rest (by have:=bm.z;omega) w' h
 have cr:f7 (∀w',NumVars w'->CP 152 #[Sv r1] w' (Rt (.tuple #[I6 n2,Sv r2,.bool o2]) w')):=f8 λw' h=>by rw[a3,a2,be];exact oX r1 (by have:=bm.z;have:=pD rest;rw[au];omega) w' h
 have cn:f7 (∀w',Tabs w'->NumVars w'->CP 58 #[Sv r2] w' λx w2=>∃c:VC,x=.returned (.tuple #[c.v,I6 pp,I6 pe])/\IsVal (λi=>w'.heap.size<=i/\i<w2.heap.size) w2 c pv/\BB w' w2):=f8 λw' h1 h2=>by rw[bp,bz,bh];exact mY r2 w' (by rw[a2,au];exact bm.slot b1.o) h1 h2
 have a4:=f8 (show eV d word rest=if o1=true/\o2=true/\pe=0 then some ⟨d.n,d.t,d.l++[⟨pv,n1,n2,[],[]⟩]⟩ else none by
  rw[b1.o];unfold eV;rw[f9 gb,gw rfl,a7,a3,bd,be,bp,bh,a2,au])
 have cm:=f8 (show I64 n1 by rw[a7];exact eC _);have co:=f8 (show I64 n2 by rw[a3];exact eC _);have av:=f8 (show d.l.length=l0 by exact ck.o);have bw:=f8 (show ∀r,Value.ownBlock (Sl pa l0 sc)=some r->r<w.heap.size from λr e=>(b2.own r e).2);clear a7 au bd a3 a2 be bp bz bh;go_enter func96,ntmps96
 go_upto_if 21 with (fail)
 go_cut [7] (λv wz=>(∃p,v=.pointer p)/\wz=w)
 case first =>
  by_cases h0:l0=0
  ·subst h0;go_wp2
   go_meet
   exact⟨⟨_,rfl⟩,rfl⟩
  ·obtain⟨gs,bu⟩:=bo.o h0;rw[bu] at c2;obtain⟨ln,ce⟩:=xe (l0-1)
   have k1:(l0:Int)-1=(ln:Int):=ga
   have k2:(0:Int)<(l0:Int):=ga
   have k4:(ln:Int)<(l0:Int):=ga
   have k5:(0:Int)<=(ln:Int):=ga
   have k6:IntKind.i64.wrap ((l0:Int)-1)=(ln:Int):=ip _ ga |>.trans ga;clear bu ce;go_wp2
   go_meet
   exact⟨⟨_,rfl⟩,rfl⟩
 case rest =>
 obtain⟨⟨p7,rfl⟩,bt⟩:=hcut;rw[bt];clear bt;go_upto_region 13 with (fail)
 clear c0 c1 c2 f0 f1 f2;obtain⟨X,hX⟩:=xe w.heap.size
 obtain⟨w0,a1⟩:=xe (w.alloc (.cells #[I6 0,I6 0,I6 0,.string ⟨#[]⟩,Z0,Z0,I6 0,I6 0,Z0,Z0] 144))
 rw[<-a1,<-hX];have T0:=f8 (show Turn (λk=>k=b\/B<=k) w w0 by rw[a1];exact Turn.of_below ((bR w).alloc lr _));have af:=f8 (show w.heap.size<=X/\b<X by omega);have G0:=f8 (show w0.heap[b]?=some (.cells #[I6 d.n,I6 d.t,Sl pa l0 sc] 85)/\w0.heap[X]?=some (.cells #[I6 0,I6 0,I6 0,.string ⟨#[]⟩,Z0,Z0,I6 0,I6 0,Z0,Z0] 144) by rw[a1,hX];exact⟨aC _ HB.o,ib w _⟩);have bs:=f8 hB;have K0:=f8 (show ∀k,B<=k->k<w.heap.size->w0.heap[k]?=w.heap[k]? from λk _ h=>by rw[a1];exact iy _ _ _ h);clear a1 hX
 have bf:=f8 (b9.o w0 (HT.o w0 T0.o).2.2);go_upto_region 14 with (go_at_call 152;refine bf.mono ?_;rintro e w1 ⟨rfl,a8⟩;have g1:=aB a8 G0.2;obtain⟨bk,G1⟩:=h_2 a8 g1;have x6:=aA g1 6;have y6:=aF g1 6;(try dsimp only at x6);clear g1 a8)
 clear x6 y6;obtain⟨w2,aq⟩:=xe (w1.setCell ⟨X,6,none⟩ (I6 n1))
 rw[<-aq];have T2:=f8 (show Turn (λk=>k=b\/B<=k) w w2 by rw[aq];exact(T0.trans (Turn.of_below bk.o)).trans (Turn.setCell ⟨X,6,none⟩ _ (.inr (by dsimp only;have:=af.o;omega))));have g2:=aG (o:=6) (I6 n1) G1.o;rw[<-aq] at g2;simp only[jm,jn,jo] at g2
 have G2:=f8 (show w2.heap[b]?=some (.cells #[I6 d.n,I6 d.t,Sl pa l0 sc] 85)/\w2.heap[X]?=some (.cells #[I6 0,I6 0,I6 0,.string ⟨#[]⟩,Z0,Z0,I6 n1,I6 0,Z0,Z0] 144) from⟨by rw[aq];exact(ij _ _ _ _ (by have:=af.o;dsimp only;omega)).trans (aB bk.o G0.1),g2⟩);have K2:=f8 (show ∀k,B<=k->k<w.heap.size->w2.heap[k]?=w.heap[k]? from λk h1 h2=>by rw[aq];exact(ij _ _ _ _ (by have:=af.o;dsimp only;omega)).trans ((bk.block k (by have:=T0.size;omega)).trans (K0.o k h1 h2)));clear aq g2;cases o1
 ·go_wp2;go_ret;exact⟨false,rfl,T2.o,.inr ⟨rfl,by rw[a4.o,f9 ge]⟩⟩
 have bn:=f8 (cr.o w2 (HT.o w2 T2.o).2.2);go_upto_region 17 with (go_at_call 152;refine bn.mono ?_;rintro e w3 ⟨rfl,a9⟩;have g3:=aB a9 G2.2;obtain⟨bq,G3⟩:=h_2 a9 g3;have x7:=aA g3 7;have y7:=aF g3 7;(try dsimp only at x7);clear g3 a9)
 clear x7 y7;obtain⟨w4,ap⟩:=xe (w3.setCell ⟨X,7,none⟩ (I6 n2))
 rw[<-ap];have T4:=f8 (show Turn (λk=>k=b\/B<=k) w w4 by rw[ap];exact(T2.trans (Turn.of_below bq.o)).trans (Turn.setCell ⟨X,7,none⟩ _ (.inr (by dsimp only;have:=af.o;omega))));have g4:=aG (o:=7) (I6 n2) G3.o;rw[<-ap] at g4;simp only[jm,jn,jo] at g4
 have G4:=f8 (show w4.heap[b]?=some (.cells #[I6 d.n,I6 d.t,Sl pa l0 sc] 85)/\w4.heap[X]?=some (.cells #[I6 0,I6 0,I6 0,.string ⟨#[]⟩,Z0,Z0,I6 n1,I6 n2,Z0,Z0] 144) from⟨by rw[ap];exact(ij _ _ _ _ (by have:=af.o;dsimp only;omega)).trans (aB bq.o G2.1),g4⟩);have K4:=f8 (show ∀k,B<=k->k<w.heap.size->w4.heap[k]?=w.heap[k]? from λk h1 h2=>by rw[ap];exact(ij _ _ _ _ (by have:=af.o;dsimp only;omega)).trans ((bq.block k (by have:=T2.size;omega)).trans (K2.o k h1 h2)));clear ap g4
 cases o2
 ·go_wp2;go_ret;exact⟨false,rfl,T4.o,.inr ⟨rfl,by rw[a4.o,f9 ge]⟩⟩
 have bi:=f8 (cn.o w4 (HT.o w4 T4.o).1 (HT.o w4 T4.o).2.2);go_upto_region 20 with (go_at_call 58;refine bi.mono ?_;rintro e w5 ⟨c,rfl,b6,bl⟩;have g5:=aB bl G4.2;obtain⟨bc,b7,G5⟩:=h_3 bl b6 g5;have x0:=aA g5 0;have y0:=aF g5 0;have x1:=aA g5 1;have y1:=aF g5 1;have x2:=aA g5 2;have y2:=aF g5 2;have x3:=aA g5 3;have y3:=aF g5 3;have x4:=aA g5 4;have y4:=aF g5 4;have x5:=aA g5 5;have y5:=aF g5 5;(try dsimp only at x0 x1 x2 x3 x4 x5);clear g5 bl b6)
 clear x0 y0 x1 y1 x2 y2 x3 y3 x4 y4 x5 y5;obtain⟨w6,am⟩:=xe ((((((w5.setCell ⟨X,0,none⟩ (I6 c.k)).setCell ⟨X,1,none⟩ (I6 c.i)).setCell ⟨X,2,none⟩ (I6 c.s)).setCell ⟨X,3,none⟩ (Sv c.t)).setCell ⟨X,4,none⟩ (Sl c.la c.ll c.lc)).setCell ⟨X,5,none⟩ (Sl c.fa c.fl c.fc))
 rw[<-am];have g6:=aG (o:=5) (Sl c.fa c.fl c.fc) (aG (o:=4) (Sl c.la c.ll c.lc) (aG (o:=3) (Sv c.t) (aG (o:=2) (I6 c.s) (aG (o:=1) (I6 c.i) (aG (o:=0) (I6 c.k) G5.o)))));rw[<-am] at g6;simp only[jm,jn,jo] at g6;have ah:∀k,k≠X->w6.heap[k]?=w5.heap[k]?:=λk hk=>by
  rw[am];exact(ij _ _ _ _ hk).trans ((ij _ _ _ _ hk).trans ((ij _ _ _ _ hk).trans ((ij _ _ _ _ hk).trans ((ij _ _ _ _ hk).trans (ij _ _ _ _ hk)))))
 have cb:w6.heap.size=w5.heap.size:=by rw[am];simp[World.setCell]
 have ao:B<=X:=by have:=af.o;omega
 have T6:=f8 (show Turn (λk=>k=b\/B<=k) w w6 by
  rw[am];exact(((((((T4.trans (Turn.of_below bc.o)).trans (Turn.setCell ⟨X,0,none⟩ _ (.inr ao))).trans (Turn.setCell ⟨X,1,none⟩ _ (.inr ao))).trans (Turn.setCell ⟨X,2,none⟩ _ (.inr ao))).trans (Turn.setCell ⟨X,3,none⟩ _ (.inr ao))).trans (Turn.setCell ⟨X,4,none⟩ _ (.inr ao))).trans (Turn.setCell ⟨X,5,none⟩ _ (.inr ao))))
 have G6:=f8 (show w6.heap[b]?=some (.cells #[I6 d.n,I6 d.t,Sl pa l0 sc] 85)/\w6.heap[X]?=some (.cells #[I6 c.k,I6 c.i,I6 c.s,Sv c.t,Sl c.la c.ll c.lc,Sl c.fa c.fl c.fc,I6 n1,I6 n2,Z0,Z0] 144) from⟨(ah b (by have:=af.o;omega)).trans (aB bc.o G4.1),g6⟩);have K6:=f8 (show ∀k,B<=k->k<w.heap.size->w6.heap[k]?=w.heap[k]? from λk h1 h2=>(ah k (by have:=af.o;omega)).trans ((bc.block k (by have:=T4.size;omega)).trans (K4.o k h1 h2)))
 have cf:=f8 (show IsVal (λi=>w.heap.size<=i/\i<w6.heap.size) w6 c pv from b7.same λi hi=>⟨⟨by have:=T4.size;omega,by omega⟩,ah i (λe=>by have:=ltOf G4.2;omega)⟩);clear am g6 ah cb
 have ad:f7 (∀w':World,(w'.heap[b]?=some (.cells #[I6 d.n,I6 d.t,Sl pa l0 sc] 85)/\w'.heap[X]?=some (.cells #[I6 c.k,I6 c.i,I6 c.s,Sv c.t,Sl c.la c.ll c.lc,Sl c.fa c.fl c.fc,I6 n1,I6 n2,Z0,Z0] 144))->(Ce w' b 2 (Sl pa l0 sc)/\w'.frozen? ⟨b,2,none⟩=false)/\(Ce w' X 0 (I6 c.k)/\Ce w' X 1 (I6 c.i)/\Ce w' X 2 (I6 c.s)/\Ce w' X 3 (Sv c.t)/\Ce w' X 4 (Sl c.la c.ll c.lc)/\Ce w' X 5 (Sl c.fa c.fl c.fc)/\Ce w' X 6 (I6 n1)/\Ce w' X 7 (I6 n2)/\Ce w' X 8 Z0/\Ce w' X 9 Z0)):=f8 λw' h=>⟨⟨aA h.1 2,aF h.1 2⟩,aA h.2 0,aA h.2 1,aA h.2 2,aA h.2 3,aA h.2 4,aA h.2 5,aA h.2 6,aA h.2 7,aA h.2 8,aA h.2 9⟩
 obtain⟨ba,ax,ae,az⟩:=(b2.move K6.o T6.size).built HZ.o ga;rw[av.o] at ae;obtain⟨ti,hi,ci,cq,cl⟩:=jr aL5;refine bK 8 (λw'=>w'.heap[b]?=some (.cells #[I6 d.n,I6 d.t,Sl pa l0 sc] 85)/\w'.heap[X]?=some (.cells #[I6 c.k,I6 c.i,I6 c.s,Sv c.t,Sl c.la c.ll c.lc,Sl c.fa c.fl c.fc,I6 n1,I6 n2,Z0,Z0] 144)) gd gd gd gb (⟨G6.1,G6.2⟩) (λhS=>?_);simp only[zdm,zdn,zdp,zdq]
 refine tC 0 ad ?_;refine tC 1 ad ?_;refine tC 2 ad ?_;refine tC 3 ad ?_;refine tC 4 ad ?_;refine tC 5 ad ?_;refine yr 6 λK hK=>?_;generalize hw7:World.drew _=w7 at hS ⊢;have a5:w7.heap.size=w6.heap.size:=by rw[<-hw7];rfl
 have ar:w7.ownsRow B 144 10 (Sl pa l0 sc) l0 (ba.flatMap SlC.cs):=gJ ae (λk o _ ho=>by rw[<-hw7];exact ho);have ab:∀j:Nat,w7.heap[j]?=w6.heap[j]?:=λj=>by rw[<-hw7];rfl
 have ac:w7.os=w6.os/\w7.tape=w6.tape/\w7.output=w6.output:=by rw[<-hw7];exact⟨rfl,rfl,rfl⟩
 obtain⟨b0,al,bg,br⟩:=h_4 a5 ab ac ar;clear hw7 a5 ab ac ar;go_simp;refine kOQ hK (⟨aC _ ((al.o b).trans G6.1),aC _ ((al.o X).trans G6.2)⟩) λhS=>?_;clear hK K
 refine yr 7 λK hK=>?_;refine step_append_lies _ gh _ _ _ gh B 144 ti _ 10 152 underlying83 hi ci cq cl rfl ga (Sl pa l0 sc) l0 (ba.flatMap SlC.cs) gh (br.alloc _) ⟨w7.heap.size,0,none⟩ 1 1 (SlC.cs ⟨c,n1,n2,none,0,0,none,0,0⟩) gh gh (World.news_of_block (ib w7 _)) (by simp[SlC.cs,Value.oneCell']) ga (by unfold maxLen;omega) ga (by have:=T6.size;have:=bs.o;have:=b0.o;simp;omega) (w7.heap.size+1) ge ?_;intro gg ag w8 ak aa bv bb
 have a5:=b0.o;have ab:=al.o;have ac:=bg.o;have ar:=br.o;have a6:∀j,j<w7.heap.size->(Value.ownBlock (Sl pa l0 sc)=some j->False)->w8.heap[j]?=w7.heap[j]?:=λj hj hn=>(aa.block j gi (λe=>hn e.symm)).trans (iy _ _ _ hj);have a0:w8.heap[b]?=some (.cells #[I6 d.n,I6 d.t,Sl pa l0 sc] 85)/\w8.heap[X]?=some (.cells #[I6 c.k,I6 c.i,I6 c.s,Sv c.t,Sl c.la c.ll c.lc,Sl c.fa c.fl c.fc,I6 n1,I6 n2,Z0,Z0] 144):=by
  have hx:=af.o;have q1:=ltOf G6.1;have q2:=ltOf G6.2;refine⟨(a6 b ga (λe=>by have:=(ar.lt b e).1;omega)).trans ((ab b).trans G6.1),(a6 X ga (λe=>?_)).trans ((ab X).trans G6.2)⟩;have:=bw.o X e;omega
 refine kOQ hK (a0) λhS=>?_;clear hK K
 refine iq gd ?_ _
 (try dsimp only)
 have T8:Turn (λk=>k=b\/B<=k) w6 w8:=by
  refine⟨aa.os.trans ac.1,aa.tape.trans ac.2.1,aa.output.trans ac.2.2,by have:=aa.size;simp at this;omega,λj hj hR=>?_⟩;exact(a6 j ga (λe=>hR (.inr (ar.lt j e).1))).trans (ab j)
 have aj:SlotsO B w8 (Sl (So gg 0) (l0+1) ag) (d.l++[⟨pv,n1,n2,[],[]⟩]):=by
  have ai:=av.o;have b8:(w7.alloc (.cells #[I6 c.k,I6 c.i,I6 c.s,Sv c.t,Sl c.la c.ll c.lc,Sl c.fa c.fl c.fc,I6 n1,I6 n2,Z0,Z0] 144)).grownBy w8 (Value.ownBlock (Sl pa l0 sc)):=aa;have q:=SlotsO.push (B:=B) (N:=w.heap.size) (w1:=w7) (w2:=w8) (sv:=(Sl pa l0 sc)) (l:=d.l) (cs:=ba) (k:=c) (dk:=pv) (n:=n1) (t:=n2) (g:=gg) (cap:=ag) ax
   (λj h1 h2=>(az j h1 h2).same λi hi=>⟨⟨hi.1,by have:=hi.2.1;omega,hi.2.2⟩,ab i⟩) (cf.same λi hi=>⟨⟨hi.1,by have:=hi.2;omega⟩,ab i⟩) cm.o co.o bs.o
   (λr e=>bw.o r e) (by rw[ai];exact ak) b8 bv
  rw[ai] at q;exact q
 obtain⟨cp,cg,cj⟩:=h_3 T8 aj a0;have z2:=aA a0.1 2;have ca:=aF a0.1 2
 (try dsimp only at z2)
 clear hS T8 aj a0 a6 ak aa bv bb ar ab ac a5 ax ae az;go_upto_region 21 with (fail)
 clear z2 ca;obtain⟨w9,an⟩:=xe (w8.setCell ⟨b,2,none⟩ (Sl (So gg 0) (l0+1) ag))
 have T9:=f8 (show Turn (λk=>k=b\/B<=k) w w9 by rw[an];exact(T6.trans cp.o).trans (Turn.setCell ⟨b,2,none⟩ _ (.inl rfl)));have bj:=f8 (show StOwn B b w9 ⟨d.n,d.t,d.l++[⟨pv,n1,n2,[],[]⟩]⟩ by
  have g9:=aG (o:=2) (Sl (So gg 0) (l0+1) ag) cj.1;rw[<-an] at g9;simp only[jm,jn,jo] at g9;exact⟨_,g9,HI.1,HI.2,cg.move (λj h1 h2=>by rw[an];exact ij _ _ _ _ gl) (by rw[an];simp[World.setCell])⟩)
 try rw[<-an]
 clear an;by_cases he:pe=0
 ·subst he;go_wp2;go_ret;exact⟨true,rfl,T9.o,.inl ⟨rfl,⟨d.n,d.t,d.l++[⟨pv,n1,n2,[],[]⟩]⟩,by rw[a4.o,gw ge],bj.o⟩⟩
 ·have ct:(pe==0)=false:=by simp;exact he
  have HE:=f8 he;clear he;go_wp2;go_ret;exact⟨false,rfl,T9.o,.inr ⟨rfl,by rw[a4.o,f9 (λh=>HE.o h.2.2)]⟩⟩
theorem zE (B b:Nat) (d:Sta) (word rest:BA) (w:World) (hd:StOwn B b w d) (b8:b<B) (hB:B<=w.heap.size) (n:Nat) (hz:Sz n d.l) (hn:n<=2000) (hT:∀w',Below b w w'->Tabs w'/\ZTab w'/\NumVars w') (b0:LnOK word rest) (hw:word=wItem) (al:d.l≠[]) :
 CP 96 #[Pt b 0,Sv word,Sv rest] w (mM B b d word rest w):=by
 obtain⟨sv,hb,bz,b1,bp⟩:=hd;have bo:=ltOf hb;have HZ:=f8 hz;have HT:f7 (∀w',Turn (λk=>k=b\/B<=k) w w'->Tabs w'/\ZTab w'/\NumVars w'):=f8 λw' h=>hT w' (kM b8 (ou bo) h);have bw:=f8 b0;have HI:=f8 (ie bz b1);have q1:(word.toList==[115,116,97,116,101])=false:=jT _ _ (by rw[hw];decide);have q2:(word.toList==[115,108,111,116])=false:=jT _ _ (by rw[hw];decide);have q3:(word.toList==[105,116,101,109])=true:=sJ _ _ hw;have bt:=f8 hw;clear hw;have cg:=f8 bp;have bn:=f8 (show eV d word rest=match uV rest with
  | some m=>some ⟨d.n,d.t,fG (jA m) d.l⟩
  | none=>none by
  rw[bt.o];unfold eV;rw[f9 gb,f9 gb,f9 al,gw rfl];cases uV rest<;>rfl)
 rcases bp with ⟨hdl,_⟩|⟨ls,x,cs,c,hdl,hl⟩
 ·exact absurd hdl al
 clear al;obtain⟨gs,scap,rfl,b5,cc⟩:∃gs scap,sv=Sl (So gs 0) (ls.length+1) scap/\B<=gs/\gs<w.heap.size:=by
  have bg:=hl.len;rcases hl.row.2 with ⟨_,h0⟩|⟨g,cap,cur,rfl,h1,h2,_⟩
  ·omega
  ·exact⟨g,cap,by rw[bg],h1,ltOf h2⟩
 have a3:ls.length+1<=2000:=by have:=hz.1;rw[hdl] at this;simp at this;omega
 have k1:(((ls.length+1:Nat):Int))-1=(ls.length:Int):=ga
 have k2:(0:Int)<((ls.length+1:Nat):Int):=ga
 have k3:(0:Int)<=(ls.length:Int):=ga
 have k4:(ls.length:Int)<((ls.length+1:Nat):Int):=ga
 obtain⟨ln,a6⟩:=xe ls.length
 obtain⟨ah,ai⟩:=xe (ls.length+1)
 rw[<-ai] at k1 k2 k4 a3;rw[<-a6] at k1 k3 k4;have k5:wrap64 ((ah:Int)-1)=(ln:Int):=by unfold wrap64;omega
 have k6:IntKind.i64.wrap ((ah:Int)-1)=(ln:Int):=ip _ ga |>.trans ga;obtain⟨c0,c1,c2⟩:=c_3 hb;have f0:=aF hb 0;have f1:=aF hb 1;have f2:=aF hb 2
 (try dsimp only at c0 c1 c2)
 rw[<-ai] at c2 cg hb;have HB:=f8 hb;have ak:=f8 (ie a6 ai);obtain⟨be,bs⟩:=h_2 hl hdl;clear hl hdl hb hz b0 hT bz b1 a6 ai;obtain⟨Y,hY⟩:=xe w.heap.size
 obtain⟨O,hO⟩:=xe (ln * 10)
 have ay:=f8 hO;go_enter func96,ntmps96
 go_upto_region 26 with (fail)
 clear c0 c1 c2 f0 f1 f2;obtain⟨w0,av⟩:=xe (w.alloc (.cells #[I6 0,Z0,I6 0,Z0,I6 0,I6 0,I6 0,.string ⟨#[]⟩,Z0,Z0] 69))
 rw[<-av,<-hY,<-hO];have T0:=f8 (show Turn (λk=>k=b\/B<=k) w w0 by rw[av];exact Turn.of_below ((bR w).alloc lr _));have a0:=f8 (show w.heap.size<=Y/\b<Y/\gs<Y by omega);have G0:=f8 (show w0.heap[b]?=some (.cells #[I6 d.n,I6 d.t,Sl (So gs 0) ah scap] 85)/\w0.heap[Y]?=some (.cells #[I6 0,Z0,I6 0,Z0,I6 0,I6 0,I6 0,.string ⟨#[]⟩,Z0,Z0] 69) by rw[av,hY];exact⟨aC _ HB.o,ib w _⟩);have bi:=f8 hB;have a1:=f8 cc
 have K0:=f8 (show ∀k,k<w.heap.size->w0.heap[k]?=w.heap[k]? from λk h=>by rw[av];exact iy _ _ _ h);clear av hY hO;have cj:=f8 (aN8 rest w0 bw.z (bw.item bt.o) (HT.o w0 T0.o).1 (HT.o w0 T0.o).2.1 (HT.o w0 T0.o).2.2)
 go_upto_region 27 with (go_at_call 25;refine cj.mono ?_;rintro e w5 ⟨m,dm,E,rfl,b3,hE,bc⟩;have g5:=aB bc G0.2;obtain⟨bj,b4,HE,G5⟩:=h_4 bc b3 hE g5;have x0:=aA g5 0;have y0:=aF g5 0;have x1:=aA g5 1;have y1:=aF g5 1;have x2:=aA g5 2;have y2:=aF g5 2;have x3:=aA g5 3;have y3:=aF g5 3;have x4:=aA g5 4;have y4:=aF g5 4;have x5:=aA g5 5;have y5:=aF g5 5;have x6:=aA g5 6;have y6:=aF g5 6;have x7:=aA g5 7;have y7:=aF g5 7;have x8:=aA g5 8;have y8:=aF g5 8;have x9:=aA g5 9;have y9:=aF g5 9;(try dsimp only at x0 x1 x2 x3 x4 x5 x6 x7 x8 x9);clear g5 bc b3 hE)
 clear x0 y0 x1 y1 x2 y2 x3 y3 x4 y4 x5 y5 x6 y6 x7 y7 x8 y8 x9 y9;obtain⟨w6,ap⟩:=xe ((((((((((w5.setCell ⟨Y,0,none⟩ (I6 m.st.e)).setCell ⟨Y,1,none⟩ (Sl m.st.a m.st.n m.st.c)).setCell ⟨Y,2,none⟩ (I6 m.m)).setCell ⟨Y,3,none⟩ (Sl m.a m.n m.c)).setCell ⟨Y,4,none⟩ (I6 m.b.k)).setCell ⟨Y,5,none⟩ (I6 m.b.i)).setCell ⟨Y,6,none⟩ (I6 m.b.s)).setCell ⟨Y,7,none⟩ (Sv m.b.t)).setCell ⟨Y,8,none⟩ (Sl m.b.la m.b.ll m.b.lc)).setCell ⟨Y,9,none⟩ (Sl m.b.fa m.b.fl m.b.fc))
 rw[<-ap];have g6:=aG (o:=9) (Sl m.b.fa m.b.fl m.b.fc) (aG (o:=8) (Sl m.b.la m.b.ll m.b.lc) (aG (o:=7) (Sv m.b.t) (aG (o:=6) (I6 m.b.s) (aG (o:=5) (I6 m.b.i) (aG (o:=4) (I6 m.b.k) (aG (o:=3) (Sl m.a m.n m.c) (aG (o:=2) (I6 m.m) (aG (o:=1) (Sl m.st.a m.st.n m.st.c) (aG (o:=0) (I6 m.st.e) (G5.o))))))))));rw[<-ap] at g6;simp only[jm,jn,jo] at g6;have ao:∀k,k≠Y->w6.heap[k]?=w5.heap[k]?:=λk hk=>by
  rw[ap];exact(ij _ _ _ _ hk).trans ((ij _ _ _ _ hk).trans ((ij _ _ _ _ hk).trans ((ij _ _ _ _ hk).trans ((ij _ _ _ _ hk).trans ((ij _ _ _ _ hk).trans ((ij _ _ _ _ hk).trans ((ij _ _ _ _ hk).trans ((ij _ _ _ _ hk).trans (ij _ _ _ _ hk)))))))))
 have b6:w6.heap.size=w5.heap.size:=by rw[ap];simp[World.setCell]
 have ag:B<=Y:=by have:=a0.o;omega
 have T6:=f8 (show Turn (λk=>k=b\/B<=k) w w6 by
  rw[ap];exact(((((((((((T0.trans (Turn.of_below bj.o)).trans (Turn.setCell ⟨Y,0,none⟩ _ (.inr ag))).trans (Turn.setCell ⟨Y,1,none⟩ _ (.inr ag))).trans (Turn.setCell ⟨Y,2,none⟩ _ (.inr ag))).trans (Turn.setCell ⟨Y,3,none⟩ _ (.inr ag))).trans (Turn.setCell ⟨Y,4,none⟩ _ (.inr ag))).trans (Turn.setCell ⟨Y,5,none⟩ _ (.inr ag))).trans (Turn.setCell ⟨Y,6,none⟩ _ (.inr ag))).trans (Turn.setCell ⟨Y,7,none⟩ _ (.inr ag))).trans (Turn.setCell ⟨Y,8,none⟩ _ (.inr ag))).trans (Turn.setCell ⟨Y,9,none⟩ _ (.inr ag))))
 have K6:=f8 (show ∀k,k<w.heap.size->w6.heap[k]?=w.heap[k]? from λk h=>(ao k (by have:=a0.o;omega)).trans ((bj.block k (by have:=T0.size;omega)).trans (K0.o k h)));have br:=f8 (show w6.heap[b]?=some (.cells #[I6 d.n,I6 d.t,Sl (So gs 0) ah scap] 85) from(K6.o b bo).trans HB.o);have G6:=f8 (show w6.heap[b]?=some (.cells #[I6 d.n,I6 d.t,Sl (So gs 0) ah scap] 85)/\w6.heap[Y]?=some (oM m 69) from⟨br.o,g6⟩)
 have ca:=f8 (show IsMsg (λi=>w.heap.size<=i/\i<w6.heap.size) w6 m dm from b4.same λi hi=>⟨⟨by have:=T0.size;omega,by omega⟩,ao i (λe=>by have:=ltOf G0.2;omega)⟩);clear ap g6 ao b6;have bf:=f8 (show LastO B w6 (Sl (So gs 0) ah scap) ls x cs c by have h:=be.o;rw[<-ak.2] at h;exact h.move (λk _ h2=>K6.o k h2) T6.size);have ba:=f8 (show ∀r,c.iv.ownBlock=some r\/c.vv.ownBlock=some r->r<w.heap.size from λr e=>e.elim (λe=>(be.items.own r e).2) (λe=>(be.vals.own r e).2))
 have bu:=f8 (show x.items.length<=2000 from by have:=(HZ.2 x (by rw[bs.o];simp)).1;omega);have ae:f7 (∀w':World,(w'.heap[gs]?=w6.heap[gs]?/\w'.heap[Y]?=some (oM m 69))->(w'.cell? ⟨gs,O+8,none⟩=some (Sl c.ia c.il c.ic)/\w'.frozen? ⟨gs,O+8,none⟩=false)/\(Ce w' Y 0 (I6 m.st.e)/\Ce w' Y 1 (Sl m.st.a m.st.n m.st.c)/\Ce w' Y 2 (I6 m.m)/\Ce w' Y 3 (Sl m.a m.n m.c)/\Ce w' Y 4 (I6 m.b.k)/\Ce w' Y 5 (I6 m.b.i)/\Ce w' Y 6 (I6 m.b.s)/\Ce w' Y 7 (Sv m.b.t)/\Ce w' Y 8 (Sl m.b.la m.b.ll m.b.lc)/\Ce w' Y 9 (Sl m.b.fa m.b.fl m.b.fc))):=f8 λw' h=>by
  have hq:=bf.lastCell';rw[<-ak.1,<-ay.o] at hq;refine⟨⟨(jg (w:=w6) (a:=⟨gs,O+8,none⟩) h.1).trans hq.1,(dF h.1).trans (hq.2.2 8)⟩,aA h.2 0,aA h.2 1,aA h.2 2,aA h.2 3,aA h.2 4,aA h.2 5,aA h.2 6,aA h.2 7,aA h.2 8,aA h.2 9⟩
 obtain⟨ti,hi,cd,ci,cf⟩:=jr aJ5;refine bK 8 (λw'=>w'.heap[gs]?=w6.heap[gs]?/\w'.heap[Y]?=some (oM m 69)) gd gd gd gb (⟨rfl,G6.2⟩) (λhS=>?_);simp only[zdm,zdn,zdp,zdq];refine tC 0 ae ?_;refine tC 1 ae ?_;refine tC 2 ae ?_;refine tC 3 ae ?_;refine tC 4 ae ?_;refine tC 5 ae ?_;refine yr 6 λK hK=>?_;generalize hw7:World.drew _=w7 at hS ⊢;have ax:w7.heap.size=w6.heap.size:=by rw[<-hw7];rfl
 have ab:∀j:Nat,w7.heap[j]?=w6.heap[j]?:=λj=>by rw[<-hw7];rfl
 have ad:w7.os=w6.os/\w7.tape=w6.tape/\w7.output=w6.output:=by rw[<-hw7];exact⟨rfl,rfl,rfl⟩
 have bb:LastO B w7 (Sl (So gs 0) ah scap) ls x cs c:=bf.move (λj _ _=>ab j) ga;obtain⟨xs,bx,aq,bh⟩:=bb.items;obtain⟨bd,bk,bm,a8,an,a7,b2⟩:=h_7 bb bx bh ax ab ad aq;clear hw7 bb bx bh ax ab ad aq;go_simp;refine kOQ hK (⟨(dA w7 _ gs (by have:=a1.o;have:=T6.size;have:=a8.o;omega)).trans (an.o gs),aC _ ((an.o Y).trans G6.2)⟩) λhS=>?_;clear hK K
 refine yr 7 λK hK=>?_;refine step_append_lies _ gh _ _ _ gh B 69 ti _ 10 152 underlying142 hi cd ci cf rfl ga (Sl c.ia c.il c.ic) x.items.length (xs.flatMap MC.cs) gh (b2.alloc _) ⟨w7.heap.size,0,none⟩ 1 1 (MC.cs m) gh gh (World.news_of_block (ib w7 _)) (by simp[MC.cs,Value.oneCell']) ga (by have:=bu.o;unfold maxLen;omega) (by have:=bu.o;omega) (by have:=T6.size;have:=bi.o;have:=a8.o;simp;omega) (w7.heap.size+1) ge ?_;intro gg ar w8 am af bl a4
 have ax:=a8.o;have ab:=an.o;have ad:=a7.o;have aq:=b2.o;have al:∀j,j<w7.heap.size->(c.iv.ownBlock=some j->False)->w8.heap[j]?=w7.heap[j]?:=λj hj hn=>(af.block j gi (λe=>hn e.symm)).trans (iy _ _ _ hj);have aw:c.iv.ownBlock≠some gs:=λe=>(bd.d1 gs e).1 rfl;have bv:c.iv.ownBlock≠some Y:=λe=>by have:=ba.o Y (.inl e);have:=a0.o;omega
 have az:w8.heap[gs]?=w6.heap[gs]?/\w8.heap[Y]?=some (oM m 69):=by
  have q1:=ltOf G6.1;have q2:=ltOf G6.2;have q3:=a1.o;have q4:=T6.size;exact⟨(al gs ga aw).trans (ab gs),(al Y ga bv).trans ((ab Y).trans G6.2)⟩
 refine kOQ hK (az) λhS=>?_;clear hK K
 refine iq gd ?_ _
 (try dsimp only)
 have aj:=am;have aa:(w7.alloc (oM m 69)).grownBy w8 c.iv.ownBlock:=af;have bq:w8.heap[b]?=some (.cells #[I6 d.n,I6 d.t,Sl (So gs 0) ah scap] 85):=(al b (by have:=ltOf HB.o;have:=T6.size;omega) (λe=>by have:=(aq.lt b e).1;omega)).trans ((ab b).trans br.o);have T8:Turn (λk=>k=b\/B<=k) w6 w8:=by
  refine⟨aa.os.trans ad.1,aa.tape.trans ad.2.1,aa.output.trans ad.2.2,by have:=aa.size;simp at this;omega,λj hj hR=>?_⟩;exact((aa.block j gi (λe=>hR (.inr (aq.lt j e.symm).1))).trans (iy _ _ _ ga)).trans (ab j)
 have ac:=LastO.pushI (N:=w.heap.size) (w1:=w7) (w2:=w8) (gs:=gs) (scap:=scap) (ls:=ls) (x:=x) (cs:=cs) (c:=c) (xs:=xs) (m:=m) (dm:=dm) (g:=gg) (cap:=ar) (by have h:=bd.o;rw[ak.2] at h;exact h) bk.o (by have h:=bm.o;rw[ak.2] at h;exact h)
  (ca.same λi hi=>⟨⟨hi.1,by have:=hi.2;omega⟩,ab i⟩) bi.o a1.o (λr e=>ba.o r (.inl e)) (λr e=>ba.o r (.inr e)) aj aa bl
 obtain⟨ch,cb,b7⟩:=h_3 T8 ac bq;have a2:=bf.lastCell';have z8:w8.cell? ⟨gs,O+8,none⟩=some (Sl c.ia c.il c.ic):=(jg (w:=w6) (a:=⟨gs,O+8,none⟩) az.1).trans (by have hq:=a2.1;rw[<-ak.1,<-ay.o] at hq;exact hq);have ce:w8.frozen? ⟨gs,O+8,none⟩=false:=(dF (w:=w6) (a:=⟨gs,O+8,none⟩) az.1).trans (by have hq:=a2.2.2 8;rw[<-ak.1,<-ay.o] at hq;exact hq);clear hS T8 ac az al am af bl a4 ab ad ax aq aj aa bq bd bk bm aw bv a2;go_upto_region 28 with (fail)
 clear z8 ce;obtain⟨w9,au⟩:=xe (w8.setCell ⟨gs,O+8,none⟩ (Sl (So gg 0) (x.items.length+1) ar))
 have T9:=f8 (show Turn (λk=>k=b\/B<=k) w w9 by rw[au];exact(T6.trans ch.o).trans (Turn.setCell ⟨gs,O+8,none⟩ _ (.inr b5)));have a9:=f8 (show StOwn B b w9 ⟨d.n,d.t,ls++[jA dm x]⟩ by
  have ac:=cb.o;have e1:O=ls.length * 10:=by rw[ay.o,ak.1]
  rw[<-ak.2,<-e1,<-au] at ac;have b9:w9.heap[b]?=some (.cells #[I6 d.n,I6 d.t,Sl (So gs 0) ah scap] 85):=by
   rw[au];exact(ij _ _ _ _ gl).trans b7.o
  exact⟨_,b9,HI.1,HI.2,.inr ⟨ls,_,cs,_,rfl,ac⟩⟩)
 try rw[<-au]
 clear au;rcases HE.o with ⟨rfl,hdm⟩|⟨rfl,hdm⟩
 ·have a5:=f8 hdm;clear hdm;go_wp2;go_ret;exact⟨true,rfl,T9.o,.inl ⟨rfl,⟨d.n,d.t,ls++[jA dm x]⟩,by rw[bn.o,a5.o,bs.o];dsimp only;rw[lI],a9.o⟩⟩
 ·have a5:=f8 hdm;clear hdm;go_wp2;go_ret;exact⟨false,rfl,T9.o,.inr ⟨rfl,by rw[bn.o,a5.o]⟩⟩
theorem aCe (B b:Nat) (d:Sta) (word rest:BA) (w:World) (hd:StOwn B b w d) (cL:b<B) (hB:B<=w.heap.size) (n:Nat) (hz:Sz n d.l) (hn:n<=2000) (hT:∀w',Below b w w'->Tabs w'/\ZTab w'/\NumVars w') (ct:LnOK word rest) (hw:word≠wState/\word≠wSlot/\word≠wItem) (ax:d.l≠[]) :
 CP 96 #[Pt b 0,Sv word,Sv rest] w (mM B b d word rest w):=by
 obtain⟨sv,hb,cr,cu,cf⟩:=hd;have ce:=ltOf hb;have HZ:=f8 hz;have HT:f7 (∀w',Turn (λk=>k=b\/B<=k) w w'->Tabs w'/\ZTab w'/\NumVars w'):=f8 λw' h=>hT w' (kM cL (ou ce) h);have c9:=f8 ct;have HI:=f8 (ie cr cu);have q1:(word.toList==[115,116,97,116,101])=false:=jT _ _ hw.1;have q2:(word.toList==[115,108,111,116])=false:=jT _ _ hw.2.1;have q3:(word.toList==[105,116,101,109])=false:=jT _ _ hw.2.2;obtain⟨bz,c7⟩:=h_2 hw cf;have c4:=f8 (show eV d word rest=if (fK rest).2.2=0/\word=wValue then some ⟨d.n,d.t,fG (iY (fK rest).1) d.l⟩ else none by
  unfold eV;rw[f9 hw.1,f9 hw.2.1,f9 ax,f9 hw.2.2])
 clear hw;rcases cf with ⟨hdl,_⟩|⟨ls,x,cs,c,hdl,hl⟩
 ·exact absurd hdl ax
 clear ax;obtain⟨gs,scap,rfl,b9,c3⟩:∃gs scap,sv=Sl (So gs 0) (ls.length+1) scap/\B<=gs/\gs<w.heap.size:=by
  have b6:=hl.len;rcases hl.row.2 with ⟨_,h0⟩|⟨g,cap,cur,rfl,h1,h2,_⟩
  ·omega
  ·exact⟨g,cap,by rw[b6],h1,ltOf h2⟩
 have bo:ls.length+1<=2000:=by have:=hz.1;rw[hdl] at this;simp at this;omega
 have k1:(((ls.length+1:Nat):Int))-1=(ls.length:Int):=ga
 have k2:(0:Int)<((ls.length+1:Nat):Int):=ga
 have k3:(0:Int)<=(ls.length:Int):=ga
 have k4:(ls.length:Int)<((ls.length+1:Nat):Int):=ga
 obtain⟨ln,bs⟩:=xe ls.length
 obtain⟨au,aw⟩:=xe (ls.length+1)
 rw[<-aw] at k1 k2 k4 bo;rw[<-bs] at k1 k3 k4;have k5:wrap64 ((au:Int)-1)=(ln:Int):=by unfold wrap64;omega
 have k6:IntKind.i64.wrap ((au:Int)-1)=(ln:Int):=ip _ ga |>.trans ga;obtain⟨c0,c1,c2⟩:=c_3 hb;have f0:=aF hb 0;have f1:=aF hb 1;have f2:=aF hb 2
 (try dsimp only at c0 c1 c2)
 rw[<-aw] at c2 c7 hb;have HB:=f8 hb;have al:=f8 (ie bs aw);obtain⟨bl,bx⟩:=h_2 hl hdl;clear hl hdl hb hz ct hT cr cu bs aw;obtain⟨O,hO⟩:=xe (ln * 10)
 have bk:=f8 hO;obtain⟨dm,b5⟩:=xe ((fK rest).1)
 obtain⟨pp,ck⟩:=xe ((fK rest).2.1)
 obtain⟨pe,bv⟩:=xe ((fK rest).2.2)
 have c8:f7 (CP 58 #[Sv rest] w λx w2=>∃c:VC,x=.returned (.tuple #[.agg #[I6 c.k,I6 c.i,I6 c.s,Sv c.t,Sl c.la c.ll c.lc,Sl c.fa c.fl c.fc],I6 pp,I6 pe])/\IsVal (λi=>w.heap.size<=i/\i<w2.heap.size) w2 c dm/\BB w w2):=f8 (by rw[b5,ck,bv];exact mY rest w (c9.other bz.1 bz.2.1 bz.2.2) (HT.o w (Turn.refl _ _)).1 (HT.o w (Turn.refl _ _)).2.2);have ai:=f8 (show eV d word rest=if pe=0/\word=wValue then some ⟨d.n,d.t,fG (iY dm) d.l⟩ else none by rw[c4.o,bv,b5]);clear b5 ck bv;obtain⟨bp,ba⟩:=h_2 hB c3;go_enter func96,ntmps96
 go_upto_region 29 with (fail)
 clear c0 c1 c2 f0 f1 f2;rw[<-hO];clear hO;go_upto_region 30 with (go_at_call 58;refine c8.mono ?_;rintro e w5 ⟨m,rfl,cw,co⟩;obtain⟨bd,cx⟩:=h_2 co cw;clear co cw)
 obtain⟨Y,hY⟩:=xe w5.heap.size
 obtain⟨w6,a6⟩:=xe (w5.alloc (oV m 67))
 rw[<-a6,<-hY];have bm:w6.heap.size=w5.heap.size+1:=by rw[a6];simp
 have cy:=f8 (show w.heap.size<=Y/\b<Y/\gs<Y by have:=bd.size;omega);have a4:∀k,k<w5.heap.size->w6.heap[k]?=w5.heap[k]?:=λk hk=>by rw[a6];exact iy _ _ _ hk
 have T6:=f8 (show Turn (λk=>k=b\/B<=k) w w6 by rw[a6];exact Turn.of_below (bd.alloc bd.size _));have K6:=f8 (show ∀k,k<w.heap.size->w6.heap[k]?=w.heap[k]? from λk h=>(a4 k (by have:=bd.size;omega)).trans (bd.block k h));have cj:=f8 (show w6.heap[b]?=some (.cells #[I6 d.n,I6 d.t,Sl (So gs 0) au scap] 85) from(K6.o b ce).trans HB.o);have G6:=f8 (show w6.heap[b]?=some (.cells #[I6 d.n,I6 d.t,Sl (So gs 0) au scap] 85)/\w6.heap[Y]?=some (oV m 67) from⟨cj.o,by rw[a6,hY];exact ib w5 _⟩)
 have cc:=f8 (show IsVal (λi=>w.heap.size<=i/\i<w6.heap.size) w6 m dm from cx.same λi hi=>⟨⟨hi.1,by omega⟩,a4 i hi.2⟩);clear a6 a4 bm hY;have b3:=f8 (show LastO B w6 (Sl (So gs 0) au scap) ls x cs c by have h:=bl.o;rw[<-al.2] at h;exact h.move (λk _ h2=>K6.o k h2) T6.size);have bg:=f8 (show ∀r,c.iv.ownBlock=some r\/c.vv.ownBlock=some r->r<w.heap.size from λr e=>e.elim (λe=>(bl.items.own r e).2) (λe=>(bl.vals.own r e).2))
 have a3:=f8 (show x.vals.length<=2000/\x.vals.length=c.vl from⟨by have:=(HZ.2 x (by rw[bx.o];simp)).2;omega,by
  obtain⟨_,_,q,_⟩:=bl.vals;rcases q.2 with ⟨h4,h5⟩|⟨g,cap',cur,hv,_⟩
  ·simp only[lz] at h4;omega
  ·simp only[lz] at hv;omega⟩)
 have cm:=f8 (show c.vl<=2000 by have:=a3.o;omega);have be:f7 (∀w':World,(w'.heap[gs]?=w6.heap[gs]?/\w'.heap[Y]?=some (oV m 67))->(w'.cell? ⟨gs,O+9,none⟩=some (Sl c.va c.vl c.vc)/\w'.frozen? ⟨gs,O+9,none⟩=false)/\(Ce w' Y 0 (I6 m.k)/\Ce w' Y 1 (I6 m.i)/\Ce w' Y 2 (I6 m.s)/\Ce w' Y 3 (Sv m.t)/\Ce w' Y 4 (Sl m.la m.ll m.lc)/\Ce w' Y 5 (Sl m.fa m.fl m.fc))):=f8 λw' h=>by
  have hq:=b3.lastCell';rw[<-al.1,<-bk.o] at hq;refine⟨⟨(jg (w:=w6) (a:=⟨gs,O+9,none⟩) h.1).trans hq.2.1,(dF h.1).trans (hq.2.2 9)⟩,aA h.2 0,aA h.2 1,aA h.2 2,aA h.2 3,aA h.2 4,aA h.2 5⟩
 obtain⟨ti,hi,c5,da,c6⟩:=jr pG;refine wp_region_two' 12 (S:=(λw'=>w'.heap[gs]?=w6.heap[gs]?/\w'.heap[Y]?=some (oV m 67))) gd (λ_=>⟨rfl,G6.2⟩) ?_;refine bU (i:=0) (oi:=_) (v:=?_) rfl gb gd gd gd (λ_ _ _ h=>h) (Or.inl ⟨by rfl,?_⟩) (λ_=>⟨rfl,G6.2⟩) ?_;rotate_left
 ·intro w' hw'
  skip
  go_simp
  (try rfl)
 simp only[Act.put,pq];refine bU (i:=1) (oi:=_) (v:=?_) rfl gb gd gd gd (λ_ _ _ h=>h) (Or.inl ⟨by rfl,?_⟩) (λ_=>⟨rfl,G6.2⟩) ?_;rotate_left
 ·intro w' hw'
  skip
  go_simp
  (try rfl)
 simp only[Act.put,pq];refine bU (i:=2) (oi:=_) (v:=?_) rfl gb gd gd gd (λ_ _ _ h=>h) (Or.inl ⟨by rfl,?_⟩) (λ_=>⟨rfl,G6.2⟩) ?_;rotate_left
 ·intro w' hw'
  skip
  go_simp
  (try rfl)
 simp only[Act.put,pq];refine lC (i:=3) (oi:=_) (v:=?_) rfl gb gd gd gd gd gd (λ_ _ _ h=>h) (Or.inl ⟨by rfl,?_⟩) (λ_=>⟨rfl,G6.2⟩) ?_;rotate_left
 ·intro w' hw';have hcells:=be.o w' hw';go_simp
  (try rfl)
 simp only[Act.put,pq];refine lC (i:=4) (oi:=_) (v:=?_) rfl gb gd gd gd gd gd (λ_ _ _ h=>h) (Or.inl ⟨by rfl,?_⟩) (λ_=>⟨rfl,G6.2⟩) ?_;rotate_left
 ·intro w' hw';have hcells:=be.o w' hw';go_simp
  (try rfl)
 simp only[Act.put,pq];refine bU (i:=5) (oi:=_) (v:=?_) rfl gb gd gd gd (λ_ _ _ h=>h) (Or.inl ⟨by rfl,?_⟩) (λ_=>⟨rfl,G6.2⟩) ?_;rotate_left
 ·intro w' hw'
  skip
  go_simp
  (try rfl)
 simp only[Act.put,pq];refine tV (i:=6) (o:=_) gd rfl (λK hK=>?_);have hS:True:=trivial;generalize hw7:World.drew _=w7 at hS ⊢;have bj:w7.heap.size=w6.heap.size:=by rw[<-hw7];rfl
 have ab:∀j:Nat,w7.heap[j]?=w6.heap[j]?:=λj=>by rw[<-hw7];rfl
 have af:w7.os=w6.os/\w7.tape=w6.tape/\w7.output=w6.output:=by rw[<-hw7];exact⟨rfl,rfl,rfl⟩
 have b0:LastO B w7 (Sl (So gs 0) au scap) ls x cs c:=b3.move (λj _ _=>ab j) ga;obtain⟨xs,cp,ay,b7⟩:=b0.vals;rw[a3.2] at ay;obtain⟨b2,br,cd,bf,a2,bu,cv⟩:=h_7 b0 cp b7 bj ab af ay;clear hw7 b0 cp b7 bj ab af ay;go_simp;refine hK.out _ _ (⟨(dA w7 _ gs (by have:=ba.o;have:=T6.size;have:=bf.o;omega)).trans (a2.o gs),aC _ ((a2.o Y).trans G6.2)⟩) ?_;clear hK K
 (try simp only[Act.put,pq])
 refine tV (i:=7) (o:=_) gd rfl (λK hK=>?_);refine step_append_lies _ gh _ _ _ gh B 67 ti _ 6 88 underlying64 hi c5 da c6 rfl ga (Sl c.va c.vl c.vc) c.vl (xs.flatMap VC.cs) gh (cv.alloc _) ⟨w7.heap.size,0,none⟩ 1 1 ([I6 0,I6 0,I6 0,.string ⟨#[]⟩,Z0,Z0]) gh gh (World.news_of_block (ib w7 _)) gj ga (by have:=cm.o;unfold maxLen;omega) (by have:=cm.o;omega) (by have:=T6.size;have:=bp.o;have:=bf.o;simp;omega) (w7.heap.size+1) ge ?_
 intro gg ad w8 an ak a8 bq;have bj:=bf.o;have ab:=a2.o;have af:=bu.o;have ay:=cv.o;have ax:∀j,j<w7.heap.size->(c.vv.ownBlock=some j->False)->w8.heap[j]?=w7.heap[j]?:=λj hj hn=>(ak.block j gi (λe=>hn e.symm)).trans (iy _ _ _ hj);have a5:c.vv.ownBlock≠some gs:=λe=>b2.d2 gs e rfl;have b1:c.vv.ownBlock≠some Y:=λe=>by have:=bg.o Y (.inr e);have:=cy.o;omega
 have ap:w8.heap[gs]?=w6.heap[gs]?/\w8.heap[Y]?=some (oV m 67):=by
  have q1:=ltOf G6.1;have q2:=ltOf G6.2;have q3:=ba.o;have q4:=T6.size;exact⟨(ax gs ga a5).trans (ab gs),(ax Y ga b1).trans ((ab Y).trans G6.2)⟩
 refine hK.out _ _ ap ?_;clear hK K
 (try simp only[Act.put,pq])
 obtain⟨Q,hQ⟩:=xe (c.vl * 6)
 have bh:(0:Int)<=(c.vl:Int):=ga
 have a9:((c.vl:Int)<(c.vl:Int)+1)=True:=eq_true ga;have b4:(xs.flatMap VC.cs).length=Q:=by rw[hQ,<-a3.2,<-br.o];exact aB4 xs
 obtain⟨s0,s1,s2,s3,s4,s5,tt⟩:=row6 an b4;have t0:=tt (Q);have t1:=tt (Q+1);have t2:=tt (Q+2);have t3:=tt (Q+3);have t4:=tt (Q+4);have t5:=tt (Q+5);clear tt;refine bU (i:=8) (oi:=_) (v:=?_) rfl gb gd gd gd (λ_ _ _ h=>h) (Or.inl ⟨by rfl,?_⟩) (λ_=>ap) ?_;rotate_left
 ·intro w' hw'
  skip
  go_simp
  (try rfl)
 simp only[Act.put,pq]
 (try rw[<-hQ])
 refine bU (i:=10) (oi:=_) (v:=?_) rfl gb gd gd gd (λ_ _ _ h=>h) (Or.inl ⟨by rfl,?_⟩) (λ_=>ap) ?_;rotate_left
 ·intro w' hw'
  skip
  go_simp
  (try rfl)
 simp only[Act.put,pq];refine bU (i:=11) (oi:=_) (v:=?_) rfl gb gd gd gd (λ_ _ _ h=>h) (Or.inl ⟨by rfl,?_⟩) (λ_=>ap) ?_;rotate_left
 ·intro w' hw'
  skip
  go_simp
  (try rfl)
 simp only[Act.put,pq];have a0:c.vv.ownBlock=some gg\/(w7.alloc (.cells #[I6 0,I6 0,I6 0,.string ⟨#[]⟩,Z0,Z0] 67)).heap.size<=gg:=a8.imp id (λh=>by rw[jb];omega);have aq:gg≠gs:=λe=>by
  rcases a8 with h|h
  ·exact a5 (by rw[h,e])
  ·have q3:=ba.o;have q4:=T6.size;omega
 have bb:gg≠Y:=λe=>by
  rcases a8 with h|h
  ·exact b1 (by rw[h,e])
  ·have q2:=ltOf G6.2;omega
 have p0:=(an.stored Q (I6 m.k)).1;have p1:=(p0.stored (Q+1) (I6 m.i)).1;have p2:=(p1.stored (Q+2) (I6 m.s)).1;have p3:=(p2.stored (Q+3) (Sv m.t)).1;have p4:=(p3.stored (Q+4) (Sl m.la m.ll m.lc)).1;have p5:=(p4.stored (Q+5) (Sl m.fa m.fl m.fc)).1;rw[set6 _ Q b4] at p5;obtain⟨ah,aj⟩:=xe ((((((w8.setCell ⟨gg,Q,none⟩ (I6 m.k)).setCell ⟨gg,Q+1,none⟩ (I6 m.i)).setCell ⟨gg,Q+2,none⟩ (I6 m.s)).setCell ⟨gg,Q+3,none⟩ (Sv m.t)).setCell ⟨gg,Q+4,none⟩ (Sl m.la m.ll m.lc)).setCell ⟨gg,Q+5,none⟩ (Sl m.fa m.fl m.fc))
 have aa:(w7.alloc (.cells #[I6 0,I6 0,I6 0,.string ⟨#[]⟩,Z0,Z0] 67)).grownBy ah c.vv.ownBlock:=by rw[aj];exact iQ (iQ (iQ (iQ (iQ (iQ (ak) a0) a0) a0) a0) a0) a0
 rw[<-aj] at p5;have ag:∀k,k≠gg->ah.heap[k]?=w8.heap[k]?:=λk hk=>by
  rw[aj];exact(ij _ _ _ _ hk).trans ((ij _ _ _ _ hk).trans ((ij _ _ _ _ hk).trans ((ij _ _ _ _ hk).trans ((ij _ _ _ _ hk).trans (ij _ _ _ _ hk)))))
 have bi:ah.heap[gs]?=w6.heap[gs]?/\ah.heap[Y]?=some (oV m 67):=⟨(ag gs (Ne.symm aq)).trans ap.1,(ag Y (Ne.symm bb)).trans ap.2⟩
 have cg:ah.heap[b]?=some (.cells #[I6 d.n,I6 d.t,Sl (So gs 0) au scap] 85):=(ag b (λe=>by
  rcases a8 with h|h
  ·have:=(ay.lt gg h).1;omega
  ·have:=ltOf HB.o;have:=T6.size;omega)).trans ((ax b (by have:=ltOf HB.o;have:=T6.size;omega) (λe=>by have:=(ay.lt b e).1;omega)).trans ((ab b).trans cj.o))
 have T8:Turn (λk=>k=b\/B<=k) w6 ah:=by
  refine⟨aa.os.trans af.1,aa.tape.trans af.2.1,aa.output.trans af.2.2,by have:=aa.size;simp at this;omega,λj hj hR=>?_⟩;exact((aa.block j gi (λe=>hR (.inr (ay.lt j e.symm).1))).trans (iy _ _ _ ga)).trans (ab j)
 have a7:=b3.lastCell';rw[<-al.1,<-bk.o] at a7;obtain⟨cn,ch,ca,cq,cb,cR,bc,dc⟩:=h_8 p5 aa a8 T8 cg bi aj aq;have b8:=f8 ab;have z8:w8.cell? ⟨gs,O+9,none⟩=some (Sl c.va c.vl c.vc):=(jg (w:=w6) (a:=⟨gs,O+9,none⟩) ap.1).trans a7.2.1;have ci:w8.frozen? ⟨gs,O+9,none⟩=false:=(dF (w:=w6) (a:=⟨gs,O+9,none⟩) ap.1).trans (a7.2.2 9);have za:ah.cell? ⟨gs,O+9,none⟩=some (Sl c.va c.vl c.vc):=(jg (w:=w6) (a:=⟨gs,O+9,none⟩) bi.1).trans a7.2.1
 have cl:ah.frozen? ⟨gs,O+9,none⟩=false:=(dF (w:=w6) (a:=⟨gs,O+9,none⟩) bi.1).trans (a7.2.2 9);have cz:=f8 ap;clear p0 p1 p2 p3 p4 p5 aa a8 T8 cg bi aj ab af bj ay an ak ax a5 b1 ag a7 a0 bq ap b4 hQ bh a9;have ae:¬ gg=gs:=aq;clear aq bb;have ar:∀(p:Nat) (q:Nat) (u:Value),(w8.setCell ⟨gs,p,none⟩ u).cell? ⟨gg,q,none⟩=w8.cell? ⟨gg,q,none⟩:=λp q u=>jg (ij _ _ _ _ (λe=>ae e))
 have av:∀(p:Nat) (q:Nat) (u:Value),(w8.setCell ⟨gs,p,none⟩ u).frozen? ⟨gg,q,none⟩=w8.frozen? ⟨gg,q,none⟩:=λp q u=>dF (ij _ _ _ _ (λe=>ae e));obtain⟨bn,bw⟩:=h_2 ar av;clear ar av;refine aDh (i:=9) (o:=_) (os:=_) gd gd rfl rfl (λK hK=>?_) (λK hK=>?_)
 ·go_simp;rw[<-bc.o];refine hK.out _ _ cR.o ?_;clear hK K
  (try simp only[Act.put,pq])
  refine qE (i:=12) (o:=_) gd gd rfl (λK hK=>?_);go_simp;refine hK.out _ _ ?_;clear hK K
  (try simp only[Act.put,pq])
  refine nR gd ?_ _
  (try dsimp only)
  clear za cl z8 ci s0 s1 s2 s3 s4 s5 t0 t1 t2 t3 t4 t5 ae;obtain⟨w9,am⟩:=xe (ah.setCell ⟨gs,O+9,none⟩ (Sl (So gg 0) (c.vl+1) ad))
  rw[<-am];have T9:=f8 (show Turn (λk=>k=b\/B<=k) w w9 by rw[am];exact(T6.trans cq.o).trans (Turn.setCell ⟨gs,O+9,none⟩ _ (.inr b9)));have a1:=f8 (show StOwn B b w9 ⟨d.n,d.t,ls++[iY dm x]⟩ by
   have ao:=cn.o;rw[<-a3.2] at ao;have ac:=LastO.pushV (N:=w.heap.size) (w1:=w7) (w2:=ah) (gs:=gs) (scap:=scap) (ls:=ls) (x:=x) (cs:=cs) (c:=c) (xs:=xs) (m:=m) (dm:=dm) (g:=gg) (cap:=ad) (by have h:=b2.o;rw[al.2] at h;exact h) br.o (by have h:=cd.o;rw[al.2] at h;exact h)
    (cc.same λi hi=>⟨⟨hi.1,by have:=hi.2;have:=bf.o;omega⟩,b8.o i⟩) bp.o ba.o (λr e=>bg.o r (.inl e)) (λr e=>bg.o r (.inr e)) ao ch.o ca.o
   have e1:O=ls.length * 10:=by rw[bk.o,al.1]
   rw[a3.2,<-al.2,<-e1,<-am] at ac;have bt:w9.heap[b]?=some (.cells #[I6 d.n,I6 d.t,Sl (So gs 0) au scap] 85):=by
    rw[am];exact(ij _ _ _ _ gl).trans cb.o
   exact⟨_,bt,HI.1,HI.2,.inr ⟨ls,_,cs,_,rfl,ac⟩⟩)
  clear am;by_cases hv:word=wValue
  ·have q4:(word.toList==[118,97,108,117,101])=true:=sJ _ _ hv;have HV:=f8 hv;clear hv;by_cases he:pe=0
   ·subst he;go_wp2;go_ret;exact⟨true,rfl,T9.o,.inl ⟨rfl,⟨d.n,d.t,ls++[iY dm x]⟩,by rw[ai.o,gw ⟨by simp,HV.o⟩,bx.o,lI],a1.o⟩⟩
   ·have db:(pe==0)=false:=by simp;exact he
    have HE:=f8 he;clear he;go_wp2;go_ret;exact⟨false,rfl,T9.o,.inr ⟨rfl,by rw[ai.o,f9 (λh=>HE.o h.1)]⟩⟩
  ·have q4:(word.toList==[118,97,108,117,101])=false:=jT _ _ hv;have HV:=f8 hv;clear hv;go_wp2;go_ret;exact⟨false,rfl,T9.o,.inr ⟨rfl,by rw[ai.o,f9 (λh=>HV.o h.2)]⟩⟩
 ·go_simp;refine hK.out _ _ ?_;clear hK K
  (try simp only[Act.put,pq])
  refine qE (i:=9) (o:=_) gd gd rfl (λK hK=>?_);have ar:=bn.o;have av:=bw.o;go_simp;refine hK.out _ _ ?_;clear hK K ar av
  (try simp only[Act.put,pq])
  refine nR gd ?_ _
  (try dsimp only)
  have az:((((((w8.setCell ⟨gs,O+9,none⟩ (Sl (So gg 0) (c.vl+1) ad)).setCell ⟨gg,Q,none⟩ (I6 m.k)).setCell ⟨gg,Q+1,none⟩ (I6 m.i)).setCell ⟨gg,Q+2,none⟩ (I6 m.s)).setCell ⟨gg,Q+3,none⟩ (Sv m.t)).setCell ⟨gg,Q+4,none⟩ (Sl m.la m.ll m.lc)).setCell ⟨gg,Q+5,none⟩ (Sl m.fa m.fl m.fc)=ah.setCell ⟨gs,O+9,none⟩ (Sl (So gg 0) (c.vl+1) ad):=by
   rw[bc.o];have hd:∀(i:Nat) (u:Value) (W:World),(W.setCell ⟨gs,O+9,none⟩ (Sl (So gg 0) (c.vl+1) ad)).setCell ⟨gg,i,none⟩ u=(W.setCell ⟨gg,i,none⟩ u).setCell ⟨gs,O+9,none⟩ (Sl (So gg 0) (c.vl+1) ad):=λi u W=>aC9 (λe=>ae e.symm);rw[hd,hd,hd,hd,hd,hd]
  rw[az];clear az;clear za cl z8 ci s0 s1 s2 s3 s4 s5 t0 t1 t2 t3 t4 t5 ae;obtain⟨w9,am⟩:=xe (ah.setCell ⟨gs,O+9,none⟩ (Sl (So gg 0) (c.vl+1) ad))
  rw[<-am];have T9:=f8 (show Turn (λk=>k=b\/B<=k) w w9 by rw[am];exact(T6.trans cq.o).trans (Turn.setCell ⟨gs,O+9,none⟩ _ (.inr b9)));have a1:=f8 (show StOwn B b w9 ⟨d.n,d.t,ls++[iY dm x]⟩ by
   have ao:=cn.o;rw[<-a3.2] at ao;have ac:=LastO.pushV (N:=w.heap.size) (w1:=w7) (w2:=ah) (gs:=gs) (scap:=scap) (ls:=ls) (x:=x) (cs:=cs) (c:=c) (xs:=xs) (m:=m) (dm:=dm) (g:=gg) (cap:=ad) (by have h:=b2.o;rw[al.2] at h;exact h) br.o (by have h:=cd.o;rw[al.2] at h;exact h)
    (cc.same λi hi=>⟨⟨hi.1,by have:=hi.2;have:=bf.o;omega⟩,b8.o i⟩) bp.o ba.o (λr e=>bg.o r (.inl e)) (λr e=>bg.o r (.inr e)) ao ch.o ca.o
   have e1:O=ls.length * 10:=by rw[bk.o,al.1]
   rw[a3.2,<-al.2,<-e1,<-am] at ac;have bt:w9.heap[b]?=some (.cells #[I6 d.n,I6 d.t,Sl (So gs 0) au scap] 85):=by
    rw[am];exact(ij _ _ _ _ gl).trans cb.o
   exact⟨_,bt,HI.1,HI.2,.inr ⟨ls,_,cs,_,rfl,ac⟩⟩)
  clear am;by_cases hv:word=wValue
  ·have q4:(word.toList==[118,97,108,117,101])=true:=sJ _ _ hv;have HV:=f8 hv;clear hv;by_cases he:pe=0
   ·subst he;go_wp2;go_ret;exact⟨true,rfl,T9.o,.inl ⟨rfl,⟨d.n,d.t,ls++[iY dm x]⟩,by rw[ai.o,gw ⟨by simp,HV.o⟩,bx.o,lI],a1.o⟩⟩
   ·have db:(pe==0)=false:=by simp;exact he
    have HE:=f8 he;clear he;go_wp2;go_ret;exact⟨false,rfl,T9.o,.inr ⟨rfl,by rw[ai.o,f9 (λh=>HE.o h.1)]⟩⟩
  ·have q4:(word.toList==[118,97,108,117,101])=false:=jT _ _ hv;have HV:=f8 hv;clear hv;go_wp2;go_ret;exact⟨false,rfl,T9.o,.inr ⟨rfl,by rw[ai.o,f9 (λh=>HV.o h.2)]⟩⟩
theorem zC (B b:Nat) (d:Sta) (word rest:BA) (w:World) (hd:StOwn B b w d) (ah:b<B) (hB:B<=w.heap.size) (n:Nat) (hz:Sz n d.l) (hn:n<=2000) (hT:∀w',Below b w w'->Tabs w'/\ZTab w'/\NumVars w') (ae:LnOK word rest) (hw:word≠wState/\word≠wSlot) (ab:d.l=[]) :
 CP 96 #[Pt b 0,Sv word,Sv rest] w (mM B b d word rest w):=by
 obtain⟨sv,hb,ac,ad,aa⟩:=hd;have ag:=ltOf hb;have HZ:=f8 hz;have HT:f7 (∀w',Turn (λk=>k=b\/B<=k) w w'->Tabs w'/\ZTab w'/\NumVars w'):=f8 λw' h=>hT w' (kM ah (ou ag) h);have ai:=f8 ae;have HI:=f8 (ie ac ad);have q1:(word.toList==[115,116,97,116,101])=false:=jT _ _ hw.1;have q2:(word.toList==[115,108,111,116])=false:=jT _ _ hw.2;have af:=f8 (show eV d word rest=none by
  unfold eV;rw[f9 hw.1,f9 hw.2,gw ab])
 clear hw;rcases aa with ⟨hdl,aa⟩|⟨ls,x,cs,c,hdl,hl⟩;rotate_left
 ·rw[ab] at hdl;exact absurd hdl ge
 obtain⟨a,cap,rfl⟩:∃a cap,sv=Sl a 0 cap:=by
  rcases aa.2 with ⟨rfl,_⟩|⟨g,cap,cur,rfl,_⟩
  ·exact⟨_,_,rfl⟩
  ·exact⟨_,_,rfl⟩
 obtain⟨c0,c1,c2⟩:=c_3 hb;have f0:=aF hb 0;have f1:=aF hb 1;have f2:=aF hb 2
 (try dsimp only at c0 c1 c2)
 clear aa hdl hb hz ae hT ac ad;go_enter func96,ntmps96
 go_wp2;go_ret;exact⟨false,rfl,Turn.refl _ _,.inr ⟨rfl,af.o⟩⟩
theorem aK6 (B b:Nat) (d:Sta) (word rest:BA) (w:World) (hd:StOwn B b w d) (ab:b<B) (hB:B<=w.heap.size) (n:Nat) (hz:Sz n d.l) (hn:n<=2000) (hT:∀w',Below b w w'->Tabs w'/\ZTab w'/\NumVars w') (aa:LnOK word rest) :
 CP 96 #[Pt b 0,Sv word,Sv rest] w (mM B b d word rest w):=by
 by_cases h1:word=wState
 ·exact wJ B b d word rest w hd ab hB n hz hn hT aa h1
 by_cases h2:word=wSlot
 ·exact zB B b d word rest w hd ab hB n hz hn hT aa h2
 by_cases h3:d.l=[]
 ·exact zC B b d word rest w hd ab hB n hz hn hT aa ⟨h1,h2⟩ h3
 by_cases h4:word=wItem
 ·exact zE B b d word rest w hd ab hB n hz hn hT aa h4 h3
 ·exact aCe B b d word rest w hd ab hB n hz hn hT aa ⟨h1,h2,h4⟩ h3
end Go.Proofs.YtoodnaghjpkjfaaGreatDoor
