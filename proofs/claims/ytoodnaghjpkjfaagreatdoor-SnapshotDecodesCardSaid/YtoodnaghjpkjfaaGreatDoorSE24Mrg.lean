/- A part. -/
import Derived.Test.YtoodnaghjpkjfaaGreatDoorSE23Mrg
namespace Go.Proofs.YtoodnaghjpkjfaaGreatDoor
open Tryz
set_option linter.unusedVariables false
set_option maxRecDepth 100000
set_option maxHeartbeats 64000000
set_option linter.unusedSimpArgs false
open Go Go.RowKit Go.Shelf
abbrev scA (s:BA) (f:Bool):Obj:=.cells #[.string s,.bool f] 53
theorem aM5 (l:List UInt8):I64 (dD l):=by
 unfold dD;cases hr:Lib.atoiAll l with
 | ok v=>exact Lib.atoiAll_bounds hr
 | range=>simp only[Lib.atoiSat];split<;>exact⟨by decide,by decide⟩
 | _=>exact(show I64 0 from⟨by decide,by decide⟩)
theorem cU (s:BA) (f:Bool) (hs:s.size<=100000) (c:Nat) (w:World) (h:w.heap[c]?=some (scA s f)) (hN:NumVars w) :
 CP 20 #[Pt c 0] w λe w'=>e=.returned (Sv (cI s).1)/\w'.heap[c]?=some (scA (cI s).2 f)/\Turn (λk=>k=c) w w':=by
 obtain⟨a,ha⟩:=xe ((cI s).1)
 obtain⟨b,hb⟩:=xe ((cI s).2)
 obtain⟨m,hm⟩:=hN.2.2;obtain⟨fl,ac⟩:=xe ((Lib.cut s.data.toList [32]).2.2)
 have aa:f7 (CP 50 #[Sv s,.string ⟨#[32]⟩] w (Rt (.tuple #[Sv a,Sv b,.bool fl]) w)):=f8 ((Tryz.strings_Cut s ⟨#[32]⟩ m w ga hm).mono λe w' ⟨he,k,hw⟩=>⟨by rw[he,ha,hb,ac];rfl,by rw[hw];exact below_drewN _ _⟩);rw[<-ha,<-hb];have H:=f8 h;have c0:=aA h 0
 (try dsimp only at c0)
 clear hm ac ha hb hN h;go_enter func20,ntmps20
 go_upto_region 2 with (go_at_call 50;refine aa.mono ?_;rintro e w2 ⟨rfl,ab⟩;have g:=aB ab H.o;obtain⟨HB,G⟩:=h_2 ab g;clear ab)
 clear c0;have c0:=aA g 0;have f0:=aF g 0
 (try dsimp only at c0)
 have hg:=aG (o:=0) (Sv b) G.o;simp only[jm,jn,jo] at hg;have HG:=f8 hg;clear g hg;go_wp2;go_ret;exact⟨rfl,HG.o,(Turn.of_below HB.o).trans (Turn.setCell ⟨c,0,none⟩ _ rfl)⟩
theorem dM (s:BA) (f:Bool) (hs:s.size<=100000) (c:Nat) (w:World) (h:w.heap[c]?=some (scA s f)) (hN:NumVars w) (ab:∀w',Turn (λk=>k=c) w w'->NumVars w') :
 CP 12 #[Pt c 0] w λe w'=>∃(n:Int) (f':Bool),e=.returned (I6 n)/\I64 n/\w'.heap[c]?=some (scA (cI s).2 f')/\Turn (λk=>k=c) w w':=by
 have HP:=f8 (cU s f hs c w h hN);obtain⟨a,ha⟩:=xe ((cI s).1)
 obtain⟨b,hb⟩:=xe ((cI s).2)
 rw[<-ha,<-hb] at HP;have af:a.size<=100000:=by rw[ha];exact io (aM s).1 hs
 have HA:=f8 (λ(w':World) (h:Turn (λk=>k=c) w w')=>kL a ga w' (ab w' h));have HI:=f8 (aM5 a.data.toList);obtain⟨n,hn⟩:=xe (dD a.data.toList)
 rw[<-hn] at HA HI;rw[<-hb];clear ha hb af hn h hN ab;go_enter func12,ntmps12
 go_upto_region 2 with (first
  | (go_at_call 20;refine HP.mono ?_;rintro e w2 ⟨rfl,h2,ad⟩;obtain⟨H2,ac⟩:=h_2 h2 ad;clear h2 ad)
  | (go_at_call 45;refine(HA.o _ ac.o).mono ?_;rintro e w3 ⟨ev,rfl,ag,aa⟩;have ae:=f8 aa;clear aa;rcases ag with ⟨hok,rfl⟩|⟨hok,p,rfl⟩))
 all_goals
  clear hok;have g:=aB ae.o H2.o;have c1:=aA g 1;have f1:=aF g 1
  (try dsimp only at c1)
  have HG:=f8 (λ(x:Bool)=>(aG (o:=1) (.bool x) g:(_:World).heap[_]?=_));clear g;cases f
  all_goals
   go_wp2;go_ret;refine⟨n,_,rfl,HI.o,HG.o _,(ac.trans (Turn.of_below ae.o)).trans (Turn.setCell ⟨c,1,none⟩ _ rfl)⟩
section
section
variable {C D:Type} (K:Kit C D)
structure RowAt (T N:Nat) (col:Nat->Nat) (i:Nat) (w:World) (a:Option Addr) (k cap:Nat) (l:List D):Prop where
 len:l.length=k
 own:∀r,(Value.slice a k cap).ownBlock=some r->col r=i
 row:∃cs:List C,cs.length=k/\w.ownsRow N T K.n (.slice a k cap) k (cs.flatMap K.cs)/\∀j (h:j<cs.length) (h':j<l.length),K.Is (λb=>N<=b/\b<w.heap.size/\col b=0) w cs[j] l[j]
variable {K}
theorem RowAt.nil (T N:Nat) (col:Nat->Nat) (i:Nat) (w:World):RowAt K T N col i w none 0 0 []:=⟨rfl,λr h=>by simp[Value.ownBlock] at h,[],rfl,lf _ _ _ _,λj h=>absurd h ge⟩
theorem RowAt.keep {T N:Nat} {aa col':Nat->Nat} {i:Nat} {w w':World} {a:Option Addr} {k cap:Nat} {l:List D} (h:RowAt K T N aa i w a k cap l) (hs:w.heap.size<=w'.heap.size) (hc:∀b,b<w.heap.size->col' b=aa b) (hb:∀b,N<=b->b<w.heap.size->(aa b=0\/aa b=i)->w'.heap[b]?=w.heap[b]?):RowAt K T N col' i w' a k cap l:=by
 obtain⟨h1,h2,cs,h3,h4,h5⟩:=h;refine⟨h1,λr hr=>(hc r (h4.lt r hr).2).trans (h2 r hr),cs,h3,gJ h4 λg o hg ho=>(hb g (h4.lt g hg).1 (h4.lt g hg).2 (.inr (h2 g hg))).trans ho,λj a b=>K.same (λb q=>⟨⟨q.1,by omega,(hc b q.2.1).trans q.2.2⟩,hb b q.1 q.2.1 (.inl q.2.2)⟩) (h5 j a b)⟩
theorem RowAt.lt {T N:Nat} {col:Nat->Nat} {i:Nat} {w:World} {a:Option Addr} {k cap:Nat} {l:List D} (h:RowAt K T N col i w a k cap l):∀r,(Value.slice a k cap).ownBlock=some r->col r=i/\N<=r:=λr hr=>by
 obtain⟨_,_,h4,_⟩:=h.row;exact⟨h.own r hr,(h4.lt r hr).1⟩
def sF (col:Nat->Nat) (n g i:Nat):Nat->Nat:=λb=>if b<n then col b else if b=g then i else 0
theorem gU {col:Nat->Nat} {n g i b:Nat} (h:b<n):sF col n g i b=col b:=gw h
theorem RowAt.push {T N:Nat} {ac:Nat->Nat} {i:Nat} {w w1 w2:World} {a:Option Addr} {k cap:Nat} {l:List D} {cs:List C} {c:C} {d:D} {o:Obj} {g ab:Nat} (hi:i≠0) (hl:l.length=k) (aa:∀r,(Value.slice a k cap).ownBlock=some r->ac r=i/\r<w.heap.size) (ad:cs.length=k)
 (ah:∀j (h:j<cs.length) (h':j<l.length),K.Is (λb=>N<=b/\b<w.heap.size/\ac b=0) w cs[j] l[j]) (hN:N<=w.heap.size) (hs:w.heap.size<=w1.heap.size) (hb:∀b,N<=b->b<w.heap.size->ac b=0->w1.heap[b]?=w.heap[b]?)
 (hc:K.Is (λb=>w.heap.size<=b/\b<w1.heap.size) w1 c d) (h2:w2.ownsRow N T K.n (Sl (So g 0) (k+1) ab) (k+1) (cs.flatMap K.cs++K.cs c)) (hg:(w1.alloc o).grownBy w2 (Value.slice a k cap).ownBlock) (af:(Value.slice a k cap).ownBlock=some g\/g=w1.heap.size+1) :
 RowAt K T N (sF ac w.heap.size g i) i w2 (So g 0) (k+1) ab (l++[d]):=by
 have ai:w1.heap.size+1<=w2.heap.size:=by have:=hg.size;simpa using this
 have ae:∀b,b<w1.heap.size->some b≠(Value.slice a k cap).ownBlock->w2.heap[b]?=w1.heap[b]?:=λb hb hne =>
  (hg.block b gi hne).trans (iy _ _ _ hb)
 have ag:∀b,w.heap.size<=b->b<w1.heap.size->b≠g:=λb h1 h2 e=>by
  rcases af with h|h
  ·have:=(aa g h).2;omega
  ·omega
 refine⟨by simp[hl],λr hr=>?_,cs++[c],by simp[ad],by rw[mn,pg];exact h2,λj h1 h3=>?_⟩
 ·obtain rfl:g=r:=by injection hr
  unfold sF;rcases af with h|h
  ·rw[gw (aa g h).2];exact(aa g h).1
  ·rw[f9 ga,gw rfl]
 ·by_cases hj:j<cs.length
  ·rw[ku hj,ku ga];exact K.same (λb q=>⟨⟨q.1,by omega,(gU q.2.1).trans q.2.2⟩,(ae b ga (λe=>hi ((aa b e.symm).1.symm.trans q.2.2))).trans (hb b q.1 q.2.1 q.2.2)⟩) (ah j hj ga)
  ·have e1:j=cs.length:=by simp at h1;omega
   rw[li ga,li ga];simp only[e1,ad,hl,np,k8];exact K.same (λb q=>⟨⟨by omega,by omega,by unfold sF;rw[f9 ga,f9 (ag b q.1 q.2)]⟩,ae b q.2 (λe=>by have:=(aa b e.symm).2;omega)⟩) hc
theorem RowAt.isRow {T N:Nat} {ab:Nat->Nat} {i:Nat} {w:World} {a:Option Addr} {k cap:Nat} {l:List D} (h:RowAt K T N ab i w a k cap l) (hi:i<=6) (aa:k * K.by'<=140737488351232):IsRow K (λb=>N<=b/\b<w.heap.size/\ab b<=6) w a k cap l:=by
 obtain⟨h1,h2,cs,h3,h4,h5⟩:=h;subst h1;exact RowO.row (K:=K) (S:=λb=>N<=b/\b<w.heap.size/\ab b=0) ⟨cs,h3,h4,h5⟩ aa (λr hr=>⟨(h4.lt r hr).1,(h4.lt r hr).2,by rw[h2 r hr];exact hi⟩) (λb q=>⟨q.1,q.2.1,by rw[q.2.2];exact ii _⟩)
end
structure SnK (N R L:Nat) (col:Nat->Nat) (w:World) (c:SnC) (d:Snp):Prop where
 v:c.v=d.v
 rv:I64 c.v
 e:c.e=d.e
 re:I64 c.e
 t:c.t=d.t
 rt:I64 c.t
 ns:RowAt staK 85 N col 1 w c.na c.nl c.nc d.ns
 ar:RowAt cntK 87 N col 2 w c.aa c.al c.ac d.ar
 se:RowAt cntK 87 N col 3 w c.sa c.sl c.sc d.se
 qs:RowAt queK 60 N col 4 w c.qa c.ql c.qc d.qs
 ls:RowAt letK 71 N col 5 w c.la c.ll c.lc d.ls
 ps:RowAt efK 94 N col 6 w c.pa c.pl c.pc d.ps
 cR:col R=7
 cL:col L=8
 lR:R<w.heap.size
 lL:L<w.heap.size
theorem SnK.keep {N R L:Nat} {col col':Nat->Nat} {w w':World} {c:SnC} {d:Snp} (h:SnK N R L col w c d) (hs:w.heap.size<=w'.heap.size) (hc:∀b,b<w.heap.size->col' b=col b) (hb:∀b,N<=b->b<w.heap.size->col b<=6->w'.heap[b]?=w.heap[b]?):SnK N R L col' w' c d :=
 ⟨h.v,h.rv,h.e,h.re,h.t,h.rt,h.ns.keep hs hc λb h1 h2 h3=>hb b h1 h2 ga,h.ar.keep hs hc λb h1 h2 h3=>hb b h1 h2 ga,h.se.keep hs hc λb h1 h2 h3=>hb b h1 h2 ga,h.qs.keep hs hc λb h1 h2 h3=>hb b h1 h2 ga,h.ls.keep hs hc λb h1 h2 h3=>hb b h1 h2 ga,h.ps.keep hs hc λb h1 h2 h3=>hb b h1 h2 ga,(hc R h.lR).trans h.cR,(hc L h.lL).trans h.cL,by have:=h.lR;omega,by have:=h.lL;omega⟩
structure SnX (i N R L:Nat) (col:Nat->Nat) (w:World) (c:SnC) (d:Snp):Prop where
 v:c.v=d.v
 rv:I64 c.v
 e:c.e=d.e
 re:I64 c.e
 t:c.t=d.t
 rt:I64 c.t
 ns:i≠1->RowAt staK 85 N col 1 w c.na c.nl c.nc d.ns
 ar:i≠2->RowAt cntK 87 N col 2 w c.aa c.al c.ac d.ar
 se:i≠3->RowAt cntK 87 N col 3 w c.sa c.sl c.sc d.se
 qs:i≠4->RowAt queK 60 N col 4 w c.qa c.ql c.qc d.qs
 ls:i≠5->RowAt letK 71 N col 5 w c.la c.ll c.lc d.ls
 ps:i≠6->RowAt efK 94 N col 6 w c.pa c.pl c.pc d.ps
 cR:col R=7
 cL:col L=8
 lR:R<w.heap.size
 lL:L<w.heap.size
theorem SnK.part {N R L:Nat} {col col':Nat->Nat} {w w':World} {c:SnC} {d:Snp} (h:SnK N R L col w c d) (i:Nat) (hs:w.heap.size<=w'.heap.size) (hc:∀b,b<w.heap.size->col' b=col b) (hb:∀b,N<=b->b<w.heap.size->col b<=6->col b≠i->w'.heap[b]?=w.heap[b]?) (hi:i≠0):SnX i N R L col' w' c d :=
 ⟨h.v,h.rv,h.e,h.re,h.t,h.rt,λg=>h.ns.keep hs hc λb h1 h2 h3=>hb b h1 h2 ga ga,λg=>h.ar.keep hs hc λb h1 h2 h3=>hb b h1 h2 ga ga,λg=>h.se.keep hs hc λb h1 h2 h3=>hb b h1 h2 ga ga,λg=>h.qs.keep hs hc λb h1 h2 h3=>hb b h1 h2 ga ga,λg=>h.ls.keep hs hc λb h1 h2 h3=>hb b h1 h2 ga ga,λg=>h.ps.keep hs hc λb h1 h2 h3=>hb b h1 h2 ga ga,(hc R h.lR).trans h.cR,(hc L h.lL).trans h.cL,by have:=h.lR;omega,by have:=h.lL;omega⟩
end
abbrev snrO (lp:Value) (c:SnC) (bad:Bool):Obj:=.cells #[lp,I6 c.v,I6 c.e,I6 c.t,.slice c.na c.nl c.nc,.slice c.aa c.al c.ac,.slice c.sa c.sl c.sc,.slice c.qa c.ql c.qc,.slice c.la c.ll c.lc,.slice c.pa c.pl c.pc,.bool bad] 46
def LinesAt (w:World) (L i:Nat) (ls:List BA):Prop:=∀(j:Nat) (h:j<ls.length),w.cell? ⟨L,i+j,none⟩=some (.string ls[j])
theorem LinesAt.same {w w':World} {L i:Nat} {ls:List BA} (h:LinesAt w L i ls) (hb:w'.heap[L]?=w.heap[L]?):LinesAt w' L i ls:=λj hj=>by
 have:=h j hj;unfold World.cell? at *;rwa[hb]
theorem LinesAt.keep {w w':World} {L i:Nat} {ls:List BA} (h:LinesAt w L i ls) (hb:∀o,w.heap[L]?=some o->w'.heap[L]?=some o):LinesAt w' L i ls:=λj hj=>by
 have:=h j hj;unfold World.cell? at *;cases hh:w.heap[L]? with
 | none=>rw[hh] at this;simp at this
 | some o=>rw[hb o hh];rw[hh] at this;exact this
theorem LinesAt.tail {w:World} {L i:Nat} {x:BA} {ls:List BA} (h:LinesAt w L i (x :: ls)):LinesAt w L (i+1) ls:=λj hj=>by
 have:=h (j+1) gi;rwa[show i+(j+1)=i+1+j by omega,qp] at this
theorem aDn (l p:List UInt8):(Lib.trimPrefix l p).length<=l.length:=by
 unfold Lib.trimPrefix;split<;>simp
def aOt (c:SnC) (bad:Bool) (R L:Nat) (ls:List BA) (w:World) (e:Ending) (w':World):Prop :=
 (e=.returned (.tuple #[.pointer none,.bool false])/\BB w w') \/
 (∃(ln rest:BA) (tl:List BA) (k i' cap':Nat),ls=ln :: tl/\rest.size<=ln.size/\bad=false/\e=.returned (.tuple #[Pt k 0,.bool true])/\w'.heap[k]?=some (scA rest false)/\w.heap.size<=k/\w'.heap[R]?=some (snrO (.slice (So L i') tl.length cap') c bad)/\tl.length<=cap'/\LinesAt w' L i' tl/\Turn (λj=>j=R) w w')
theorem uE (word:ByteArray) (hw:word.size<=1000) (c:SnC) (ac:Bool) (R L i cap:Nat) (ls:List ByteArray) (hn:ls.length<=100000) (hc:ls.length<=cap) (ag:L≠R) (w:World) (h:w.heap[R]?=some (snrO (Sl (So L i) ls.length cap) c ac)) (hl:LinesAt w L i ls) :
 CP 11 #[Pt R 0,Sv word] w (aOt c ac R L ls w):=by
 have hz:¬ 9223372036854775807<word.size+1:=ga
 have ai:=aA h 10
 (try dsimp only at ai)
 cases ac
 ·have c0:=aA h 0;have f0:=aF h 0
  (try dsimp only at c0)
  cases ls with
  | nil =>
    clear h hl;go_enter func11,ntmps11
    go_wp2
    go_ret2
    exact .inl ⟨rfl,gx _ _⟩
  | cons ln tl =>
    have hq:=hl 0 ge;simp only[Nat.add_zero,k8] at hq;have HC:=f8 (λ(w:World)=>Tryz.strings_CutPrefix ln (word++⟨#[32]⟩) w);obtain⟨n,ab⟩:∃n,n=tl.length:=⟨_,rfl⟩
    rw[im,<-ab] at c0 hc h hn;obtain⟨cap,rfl⟩:∃k,cap=k+1:=⟨cap-1,by omega⟩
    have ah:n<=cap:=ga
    have aj:(((n+1:Nat):Int)==0)=false:=by simp;omega
    have ak:((n:Int)+1==0)=false:=by simp;omega
    have al:(0:Int)<((n+1:Nat):Int):=ga
    obtain⟨rest,hr⟩:=xe (⟨(Lib.trimPrefix ln.data.toList (word++⟨#[32]⟩).data.toList).toArray⟩:ByteArray)
    have ad:rest.size<=ln.size:=by rw[hr];exact aDn _ _
    rw[<-hr] at HC;by_cases hp:Lib.hasPrefix ln.data.toList (word++⟨#[32]⟩).data.toList=true
    ·rw[hp] at HC;obtain⟨H,HL,ae,HN,af⟩:=h_5 h hl ad ab ah;clear hr ad hp h hl ab;rcases cap with _|cap
     ·obtain rfl:n=0:=ga
      go_enter func11,ntmps11
      go_upto_region 6 with (go_at_call 44;refine(HC.o _).mono ?_;rintro e w3 ⟨rfl,aa⟩;obtain rfl:=aa.symm)
      go_upto_region 7 with (fail)
      go_wp2
      go_ret2
      obtain rfl:tl=[]:=kr HN.symm;have hR:=aG (o:=0) (Sl (So L i) 0 0) H.o;simp only[jm,jn,jo] at hR;refine .inr ⟨ln,rest,[],w.heap.size,i,0,rfl,ae.o,rfl,rfl,?_,gy _,?_,gy _,λj hj=>(by cases hj),?_⟩
      ·exact aN _ _ _ (by simp[World.setCell])
      ·exact aC _ hR
      ·exact Turn.trans (Turn.setCell ⟨R,0,none⟩ _ rfl) (Turn.of_below ((gx _ _).alloc lr _))
     ·go_enter func11,ntmps11
      go_upto_region 6 with (go_at_call 44;refine(HC.o _).mono ?_;rintro e w3 ⟨rfl,aa⟩;obtain rfl:=aa.symm)
      go_upto_region 7 with (fail)
      go_wp2
      go_ret2
      have hR:=aG (o:=0) (Sl (So L (i+1)) n (cap+1)) H.o;simp only[jm,jn,jo] at hR;refine .inr ⟨ln,rest,tl,w.heap.size,i+1,cap+1,rfl,ae.o,rfl,rfl,?_,gy _,?_,by rw[<-HN.o];exact af.o,?_,?_⟩
      ·exact aN _ _ _ (by simp[World.setCell])
      ·rw[<-HN.o];exact aC _ hR
      ·exact HL.tail.keep λo ho=>aC _ ((ij _ _ _ _ ag).trans ho)
      ·exact Turn.trans (Turn.setCell ⟨R,0,none⟩ _ rfl) (Turn.of_below ((gx _ _).alloc lr _))
    ·rw[pk] at hp;rw[hp] at HC;clear hr ad hp h hl ab;go_enter func11,ntmps11
     go_wp2_with (go_at_call 44;refine(HC.o _).mono ?_;rintro e w3 ⟨rfl,aa⟩;obtain rfl:=aa.symm)
     go_ret2
     exact .inl ⟨rfl,gx _ _⟩
 ·clear h hl;go_enter func11,ntmps11
  go_wp2
  go_ret2
  exact .inl ⟨rfl,gx _ _⟩
def Wt (ls:List ByteArray):Nat:=(ls.map λx=>x.size+1).sum
theorem sL (x:BA) (ls:List BA):Wt (x :: ls)=x.size+1+Wt ls:=by unfold Wt;simp
theorem yN:∀ls:List BA,ls.length<=Wt ls
 | []=>gy _
 | x :: ls=>by rw[sL,im];have:=yN ls;omega
def SnRI (K:Nat->World->SnC->Prop) (R L:Nat) (n:Nat) (bad:Bool) (w:World):Prop :=
 ∃(c:SnC) (i cap:Nat) (ls:List BA),ls.length=n/\n<=cap/\Wt ls<=4001/\w.heap[R]?=some (snrO (.slice (So L i) ls.length cap) c bad)/\LinesAt w L i ls/\K n w c/\L<w.heap.size
def kS (w:World) (R:Nat):Nat:=match w.cell? ⟨R,0,none⟩ with
 | some (.slice _ n _)=>n
 | _=>0
theorem fZ (F:FuncId) (cv:Value) (bi:∀args w,(callFunc F args).run prog w=.ok (.enter F args) w) (word:BA) (hw:word.size<=1000) (N R L:Nat) (ad:L≠R) (ar:N<=R) (bl:N<=L) (K:Nat->World->SnC->Prop)
 (hK:∀n w w' c,K n w c->Turn (λj=>j=R) w w'->K n w' c)
 (hF:∀(m:Nat) (w0 w:World) (k:Nat) (rest:BA) (c:SnC) (lp:Value),rest.size<=4000->K (m+1) w0 c->Turn (λj=>j=R) w0 w->w0.heap.size<=k->R<k->L<k->w.heap[R]?=some (snrO lp c false)->w.heap[k]?=some (scA rest false) ->
   CP F #[Pt k 0,cv] w λe w'=>∃(c':SnC) (r':BA) (f':Bool),e=.returned (.tuple #[])/\K m w' c'/\w'.heap[R]?=some (snrO lp c' false)/\w'.heap[k]?=some (scA r' f')/\Turn (λj=>N<=j/\j≠L) w w')
 (n:Nat) (ap:Bool) (w:World) (hI:SnRI K R L n ap w) :
 CP 15 #[Pt R 0,Sv word,.func (.func F) #[] #[cv]] w λe w'=>e=.returned (.tuple #[])/\(∃m b,m<=n/\SnRI K R L m b w')/\Turn (λj=>N<=j/\j≠L) w w':=by
 obtain⟨bo,HK,HF,HI⟩:=h_4 bi hK hF hI;clear hK hF hI;go_enter func15,ntmps15
 go_wp2
 go_loopw [6] (λ_ wr=>(∃m b,m<=n/\SnRI K R L m b wr)/\Turn (λj=>N<=j/\j≠L) w wr) (λ_ wr=>kS wr R)
 case atStart=>exact⟨⟨n,ap,gy _,HI.o⟩,Turn.refl _ _⟩
 case round =>
  obtain⟨⟨m,b,hm,c,i,cap,ls,ac,bf,ag,hR,hl,hk,az⟩,ht⟩:=hrel;have bq:ls.length<=4001:=io (yN ls) ag;have a7:=f8 (uE word hw c b R L i cap ls ga ga ad wr hR hl);obtain⟨HS,HT,ao,HR,bb⟩:=h_5 ag ht hk hR hl;clear ag ht hk hR hl;go_upto_region 1 with (go_at_call 11;refine a7.mono ?_;rintro e w2 (⟨rfl,am⟩|⟨ln,rest,tl,k,i',ab,be,bp,a3,rfl,ak,a4,ai,an,ax,af⟩))
  ·have aa:=f8 am;clear am;go_wp2;exact ig (iu rfl _ _ _) rfl ⟨rfl,⟨m,b,hm,c,i,cap,ls,ac,bf,HS.o,aB aa.o HR.o,bb.keep (λo ho=>aB aa.o ho),HK.o _ _ _ _ ao.o (Turn.of_below aa.o),ix az aa.size⟩,HT.trans (Turn.of_below aa.o)⟩
  ·subst be a3;have a5:R<k:=by have:=ltOf HR.o;omega
   have a9:ln.size+1+Wt tl<=4001:=by have:=HS.o;rwa[sL] at this
   have aj:m=tl.length+1:=by rw[<-ac,im]
   have bc:=f8 (HF.o tl.length wr w2 k rest c _ ga (aj▸ao.o) af a4 a5 ga ai ak);obtain⟨br,bj,a6,aq,a2⟩:=h_5 ak ai ax af an;clear ak ai ax af an;have bk:=f8 aj;go_upto_region 3 with (go_at_fn F;refine bc.mono ?_;rintro e w3 ⟨c',r',f',rfl,aw,ae,ah,au⟩;have a1:=aA ae 10;have bn:=aF ae 10;have s1:=aA ah 1;(try dsimp only at a1 s1);obtain⟨a8,ba,bm,al⟩:=h_4 aw ae ah au;clear aw ae ah au)
   have HG:=f8 (λ(x:Bool)=>(show(w3.setCell ⟨R,10,none⟩ (.bool x)).heap[R]?=some (snrO (Sl (So L i') tl.length ab) c' x) from aG (o:=10) (.bool x) ba.o));have bh:=f8 (λ(x:Bool)=>(((HT.trans (aq.mono λj hj=>by rw[hj];exact⟨ar,λh=>ad h.symm⟩)).trans al.o).trans (Turn.setCell (R:=λj=>N<=j/\j≠L) ⟨R,10,none⟩ (.bool x) ⟨ar,λh=>ad h.symm⟩)));have bd:=f8 (λ(x:Bool)=>(show SnRI K R L tl.length x (w3.setCell ⟨R,10,none⟩ (.bool x)) from
    ⟨c',i',ab,tl,rfl,a2.o,by omega,HG.o x,a6.keep (λo ho=>aD ⟨R,10,none⟩ (.bool x) (al.keep ho (λh=>h.2 rfl)) ad),HK.o _ _ _ _ a8.o (Turn.setCell (R:=λj=>j=R) ⟨R,10,none⟩ (.bool x) rfl),by
      have h1:=aq.size;have h2:=al.size;simp only[World.setCell,ol];omega⟩))
   have av:kS wr R=tl.length+1:=by unfold kS;rw[aA HR.o 0];simp
   have ay:=f8 av;have bg:=f8 (λ(x:Bool)=>(show kS (w3.setCell ⟨R,10,none⟩ (.bool x)) R=tl.length by unfold kS;rw[aA (HG.o x) 0];simp));have a0:=f8 (show tl.length<=n by simp only[im] at ac;omega);clear av ac hm a9 aj;cases f'
   all_goals
    go_wp2
    go_roundw
    case rel=>exact⟨⟨tl.length,_,a0.o,bd.o _⟩,bh.o _⟩
    case measure=>rw[ay.o,bg.o];exact pj _
def TB3 (w:World) (N:Nat):Prop:=∃w0,Tabs w0/\ZTab w0/\NumVars w0/\BB w0 w/\w0.heap.size<=N/\N<=w.heap.size
theorem TB3.all {w:World} {N:Nat} (h:TB3 w N):Tabs w/\ZTab w/\NumVars w:=by
 obtain⟨w0,h1,h2,h3,h4,h5,h6⟩:=h;exact⟨h1.below h4,h2.below h4,h3.below h4⟩
theorem TB3.turn {w w':World} {N:Nat} {S:Nat->Prop} (h:TB3 w N) (ht:Turn S w w') (hS:∀k,S k->N<=k):TB3 w' N:=by
 obtain⟨w0,h1,h2,h3,h4,h5,h6⟩:=h;exact⟨w0,h1,h2,h3,h4.trans (ht.below (λk hk=>by have:=hS k hk;omega) h4.size),h5,io h6 ht.size⟩
theorem TB3.size {w:World} {N:Nat} (h:TB3 w N):N<=w.heap.size:=by
 obtain⟨w0,h1,h2,h3,h4,h5,h6⟩:=h;exact h6
theorem TB3.below {w w':World} {N:Nat} (h:TB3 w N) (hb:BB w w'):TB3 w' N:=h.turn (S:=λ_=>False) (Turn.of_below hb) (λk h=>h.elim)
structure SnB (n:Nat) (d:Snp):Prop where
 ns:d.ns.length+n<=5000
 ar:d.ar.length+n<=5000
 se:d.se.length+n<=5000
 qs:d.qs.length+n<=5000
 ls:d.ls.length+n<=5000
 ps:d.ps.length+n<=5000
 zn:∀s∈d.ns,Sz 2000 s.l
 za:∀x∈d.ar,x.nm.size<=100000
 zs:∀x∈d.se,x.nm.size<=100000
 zq:∀x∈d.qs,x.nm.size<=100000/\x.tx.size<=100000
 zl:∀x∈d.ls,x.nd.size<=100000/\x.tx.size<=100000
 zp:∀x∈d.ps,x.nm.size<=100000/\x.nd.size<=100000/\x.tx.size<=100000
theorem SnB.less {n m:Nat} {d:Snp} (h:SnB n d) (hm:m<=n):SnB m d :=
 ⟨by have:=h.ns;omega,by have:=h.ar;omega,by have:=h.se;omega,by have:=h.qs;omega,by have:=h.ls;omega,by have:=h.ps;omega,h.zn,h.za,h.zs,h.zq,h.zl,h.zp⟩
def KeptAt (col:Nat->Nat) (w:World) (kp:List (Nat × Obj)):Prop:=∀p∈kp,col p.1=9/\p.1<w.heap.size/\w.heap[p.1]?=some p.2
def RdK (N R L:Nat) (kp:List (Nat × Obj)) (p M:Nat) (n:Nat) (w:World) (c:SnC):Prop:=(p<=c.pl/\c.pl+n<=M)/\∃(d:Snp) (col:Nat->Nat),SnK N R L col w c d/\SnB n d/\KeptAt col w kp/\TB3 w N
theorem KeptAt.keep {col col':Nat->Nat} {w w':World} {kp:List (Nat × Obj)} (h:KeptAt col w kp) (hs:w.heap.size<=w'.heap.size) (hc:∀b,b<w.heap.size->col' b=col b) (hb:∀b,b<w.heap.size->col b=9->w'.heap[b]?=w.heap[b]?):KeptAt col' w' kp:=λp hp=>by
 obtain⟨h1,h2,h3⟩:=h p hp;exact⟨(hc _ h2).trans h1,ix h2 hs,(hb _ h2 h1).trans h3⟩
theorem RdK.scan {N R L:Nat} {kp:List (Nat × Obj)} {p M n:Nat} {w w':World} {c:SnC} (h:RdK N R L kp p M n w c) (ht:Turn (λj=>j=R) w w') (ab:N<=R) :
 (p<=c.pl/\c.pl+n<=M)/\∃(d:Snp) (aa:Nat->Nat),SnK N R L aa w' c d/\SnB n d/\KeptAt aa w' kp/\TB3 w' N/\∀k,w.heap.size<=k->aa k=10:=by
 obtain⟨h0,d,aa,h1,h2,h3,h4⟩:=h;refine⟨h0,d,λb=>if b<w.heap.size then aa b else 10,h1.keep ht.size (λb hb=>gw hb) (λb _ hb h6=>ht.block b hb (λe=>by rw[e,h1.cR] at h6;omega)),h2,h3.keep ht.size (λb hb=>gw hb) (λb hb h9=>ht.block b hb (λe=>by rw[e,h1.cR] at h9;omega)),h4.turn ht (λk e=>by rw[e];exact ab),λk hk=>f9 ga⟩
theorem RdK.turn {N R L:Nat} {kp:List (Nat × Obj)} {p M:Nat} (ab:N<=R) (n:Nat) (w w':World) (c:SnC) (h:RdK N R L kp p M n w c) (ht:Turn (λj=>j=R) w w'):RdK N R L kp p M n w' c:=by
 obtain⟨h0,d,aa,h1,h2,h3,h4,_⟩:=h.scan ht ab;exact⟨h0,d,aa,h1,h2,h3,h4⟩
theorem RdK.less {N R L:Nat} {kp:List (Nat × Obj)} {p M p' M' n m:Nat} {w:World} {c:SnC} (h:RdK N R L kp p M n w c) (hm:m<=n) (hp:p'<=p) (hM:M<=M'):RdK N R L kp p' M' m w c:=by
 obtain⟨h0,d,aa,h1,h2,h3,h4⟩:=h;exact⟨by omega,d,aa,h1,h2.less hm,h3,h4⟩
theorem SnK.fin {N R L k g i:Nat} {v:Value} {aa:Nat->Nat} {w w':World} {c:SnC} {d:Snp} {kp:List (Nat × Obj)} (h:SnK N R L aa w c d) (h3:KeptAt aa w kp) (h4:TB3 w N) (hk:aa k=10) (ad:N<=R) (ae:R<k) (hi:1<=i/\i<=6)
 (ab:∀r,v.ownBlock=some r->aa r=i/\N<=r) (ht:Turn (λj=>j=k\/j=R\/v.ownBlock=some j) w w') :
 SnX i N R L (sF aa w.heap.size g i) w' c d/\KeptAt (sF aa w.heap.size g i) w' kp/\TB3 w' N/\Turn (λj=>N<=j/\j≠L) w w':=by
 have hj:∀j,(j=k\/j=R\/v.ownBlock=some j)->(aa j=10\/aa j=7\/aa j=i)/\N<=j:=λj hj=>by
  rcases hj with rfl|rfl|hj
  ·exact⟨.inl hk,by omega⟩
  ·exact⟨.inr (.inl h.cR),ad⟩
  ·exact⟨.inr (.inr (ab j hj).1),(ab j hj).2⟩
 have ac:∀b,b<w.heap.size->aa b≠10->aa b≠7->aa b≠i->w'.heap[b]?=w.heap[b]?:=λb hb h1 h2 h3=>ht.block b hb (λe=>by have:=(hj b e).1;omega);exact⟨h.part i ht.size (λb hb=>gU hb) (λb _ hb h6 hbi=>ac b hb ga ga hbi) ga,h3.keep ht.size (λb hb=>gU hb) (λb hb h9=>ac b hb ga ga ga),h4.turn ht (λj e=>(hj j e).2),
  ht.mono λj e=>⟨(hj j e).2,λe2=>by have h1:=(hj j e).1;have h2:=h.cL;rw[<-e2] at h2;omega⟩⟩
def yP {C D:Type} (K:Kit C D) (T N R k i:Nat) (col:Nat->Nat) (O:Value->Obj) (sa:Option Addr) (sn sc:Nat) (l:List D) (B:D->Prop) (w:World) (e:Ending) (w':World):Prop :=
 e=.returned (.tuple #[])/\∃(g cap:Nat) (r':BA) (f':Bool) (x:D),w'.heap[R]?=some (O (.slice (So g 0) (sn+1) cap))/\w'.heap[k]?=some (scA r' f')/\RowAt K T N (sF col w.heap.size g i) i w' (So g 0) (sn+1) cap (l++[x])/\B x/\Turn (λj=>j=k\/j=R\/(Value.slice sa sn sc).ownBlock=some j) w w'
end Go.Proofs.YtoodnaghjpkjfaaGreatDoor
