/- A part. -/
import Derived.Test.YtoodnaghjpkjfaaGreatDoorSE34Mrg
namespace Go.Proofs.YtoodnaghjpkjfaaGreatDoor
open Tryz
set_option linter.unusedVariables false
set_option maxRecDepth 100000
set_option maxHeartbeats 64000000
set_option linter.unusedSimpArgs false
open Go Go.RowKit Go.Shelf
section
attribute [local go_sem] nj
def lnS (s:BA):List BA:=(lns s.data.toList).map λl=>⟨l.toArray⟩
theorem aEo {x:BA} (h:x.size=0):lnS x=[]:=by
 unfold lnS;rw[show x.data.toList=[] from kr (by rw[zJ,h])];rfl
theorem aNa {x:BA} (h:lns x.data.toList=[x.data.toList]):lnS x=[x]:=by
 unfold lnS;rw[h];rfl
theorem lnS_hit {x:BA} {i:Nat} (h:lns x.data.toList=x.data.toList.take (i+1) :: lns (x.data.toList.drop (i+1))):lnS x=x.extract 0 (i+1) :: lnS (x.extract (i+1) x.size):=by
 unfold lnS;rw[h,jv];congr 1
 ·apply kn;apply lk;exact(Lib.extract_from_zero x (i+1)).symm
 ·rw[Lib.extract_to_end]
theorem lineIt (F:Fence) (a0:F=Fence.wide) (hF:∀f,F.fn f) (a4:F.round=none) (n:Nat) (h1:1<=n) (l bs M:Nat) (s:BA) (hs:s.size<=1000000000)
 (al:∀(x:BA) (w:World),CallsIn F (n-1) prog 55 #[Sv x,.int .u8 10] w λe w'=>e=.returned (I6 (Lib.index x.data.toList [10]))/\w'=w)
 (J Jx:List BA->World->Prop) (hJ:AbT (· = bs) J)
 (hY:∀p x W1,J p W1->M<=W1.heap.size->p++[x] <+: lnS s->YieldAt F (n-1) prog l #[Sv x] W1 λe W' =>
   ((e=.returned (.bool true)/\J (p++[x]) W')\/(e=.returned (.bool false)/\Jx (p++[x]) W'))/\W1.heap.size<=W'.heap.size/\∀k,k=bs->k<W1.heap.size->W'.heap[k]?=W1.heap[k]?)
 (W:World) (hM:M<=W.heap.size) (hS:W.heap[bs]?=some (.cells #[Sv s] 9 (0,0))) (h0:J [] W) :
 CallsIn F n prog 207 #[.func (.yield l) #[] #[],Pt bs 0] W λe W'=>(∃v,e=.returned v)/\(J (lnS s) W'\/∃p,Jx p W'):=by
 have a1:=f8 a0;clear a0;obtain⟨az,HY,HJ,a2,H0,HM⟩:=h_6 al hY hJ hS h0 hM;clear al hY hJ hS h0 hM;refine callsIn_of_wp func207 rfl (hF _) ?_ a4;simp only[ntmps207,oh,im,i7,Nat.reduceAdd,Nat.reduceSub,oy,ox,o0,oz,ji,jh]
 gi_wp2
 gi_loopw [] (λwr=>∃(p:List BA) (x:BA),wr.heap[bs]?=some (.cells #[Sv x] 9 (0,0))/\p++lnS x=lnS s/\x.size<=s.size/\M<=wr.heap.size/\J p wr)
  (λwr=>eQ bs wr)
 case atStart=>exact⟨[],s,a2.o,rfl,gy _,HM.o,H0.o⟩
 case round =>
  obtain⟨p,x,hS,hx,am,ax,ay⟩:=hrel;obtain⟨c0,f0⟩:=bB hS;obtain⟨HX,a5,ao,aw,an⟩:=h_5 hx am hS ay ax;clear hx hS ay ax;by_cases hz:x.size=0
  ·have a3:¬ (0:Int)<(x.size:Int):=ga
   have HE:=f8 (show p=lnS s by rw[<-HX.o,aEo hz,nk]);clear hz am
   gi_wp2
   go_end0
   exact⟨⟨_,rfl⟩,.inl (by rw[<-HE.o];exact aw.o)⟩
  have a3:(0:Int)<(x.size:Int):=ga
  have HZ:=f8 hz;rcases aKq x.data.toList (λe=>hz (by rw[<-zJ,e];rfl)) with ⟨k1,k2⟩|⟨i,k1,k2,k3⟩
  ·have ac:=az.o x wr;rw[k1] at ac;have HI:=f8 ac;have he:p++[x]=lnS s:=by rw[<-HX.o,aNa k2]
   obtain⟨W1,aa⟩:=xe (wr.setCell ⟨bs,0,none⟩ (.string ⟨#[]⟩))
   have ae:W1.heap.size=wr.heap.size:=by rw[aa];simp[World.setCell]
   have ag:W1.heap[bs]?=some (.cells #[.string ⟨#[]⟩] 9 (0,0)):=by rw[aa];exact Boxed.set (W:=wr) (B:=bs) (t:=9) (v:=Sv x) _ ao.o
   have ah:J p W1:=by rw[aa];exact HJ.o _ _ _ aw.o (Turn.of_grown (grownBy_setCell' wr bs _) (λr e=>by cases e;rfl))
   obtain⟨fn,tmps,af,ar,hy,hR⟩:=HY.o p x W1 ah (by rw[ae];exact an.o) (by rw[he];exact List.prefix_refl _);obtain⟨HR,HE,ak,aq⟩:=h_4 hR he ag ae;rw[aa] at hy;have ap:=f8 aa;clear ac k1 k2 hR he hz am ag ae ah aa
   gi_wp2_with (gi_at_call 55;refine HI.mono ?_;rintro e w2 ⟨rfl,hw⟩;obtain rfl:=hw)
   rw[<-ap.o];refine HR.mono ?_;rintro e W3 ⟨(⟨rfl,ai⟩|⟨rfl,ab⟩),hz3,hk3⟩
   ·have ad:=(hk3 bs rfl (ltOf ak.o)).trans ak.o;obtain⟨d0,g0⟩:=bB ad;obtain⟨aj,av,au⟩:=h_3 ad ai hz3;clear ad ai hk3 c0 f0 hy hz3
    gi_wp2
    go_roundw
    case rel=>exact⟨p++[x],⟨#[]⟩,aj.o,by rw[HE.o,aEo (x:=⟨#[]⟩) rfl,nk],ii _,by have:=an.o;have:=aq.o;have:=au.o;omega,av.o⟩
    case measure =>
     have e1:eQ bs w2=x.size:=by unfold eQ;rw[(bB ao.o).1]
     have e2:eQ bs W3=0:=by unfold eQ;rw[(bB aj.o).1];rfl
     rw[e2,e1];have:=HZ.o;omega
   ·gi_wp2
    refine ig (iu rfl _ _ _) rfl ?_;exact⟨⟨_,rfl⟩,.inr ⟨_,ab⟩⟩
  ·have ac:=az.o x wr;rw[k1] at ac;have HI:=f8 ac;have hh:=lnS_hit k3;have he:(p++[x.extract 0 (i+1)])++lnS (x.extract (i+1) x.size)=lnS s:=by rw[<-HX.o,hh];simp
   have al:i<x.size:=by rw[zJ] at k2;exact k2
   obtain⟨W1,aa⟩:=xe ((wr.setCell ⟨bs,0,none⟩ (Sv (x.extract (i+1) x.size))).drew)
   have ae:W1.heap.size=wr.heap.size:=by rw[aa];simp[World.setCell,oo]
   have ag:W1.heap[bs]?=some (.cells #[Sv (x.extract (i+1) x.size)] 9 (0,0)):=by rw[aa];exact Boxed.set (W:=wr) (B:=bs) (t:=9) (v:=Sv x) _ ao.o
   have ah:J p W1:=by rw[aa];exact HJ.o _ _ _ aw.o ((Turn.of_grown (grownBy_setCell' wr bs _) (λr e=>by cases e;rfl)).trans (Turn.of_below (gx _ _).drew))
   obtain⟨fn,tmps,af,ar,hy,hR⟩:=HY.o p (x.extract 0 (i+1)) W1 ah (by rw[ae];exact an.o) ⟨_,he⟩;obtain⟨HR,HE,ak,aq,ap⟩:=h_5 hR he ag ae aa;have b1:¬ ((i:Int)<0):=ga
   have b2:(0:Int)<=(i:Int):=ga
   have b3:(i:Int)+1<=(x.size:Int):=ga
   have b4:wrap64 ((i:Int)+1)=(i:Int)+1:=by unfold wrap64;omega
   have b5:((i:Int)+1).toNat=i+1:=ga
   have b6:(0:Int)<=(i:Int)+1:=ga
   have b7:IntKind.i64.wrap ((i:Int)+1)=(i:Int)+1:=ip _ ga;have HK:=f8 al;clear ac k1 k2 k3 hR he hh al am hz ag ae ah aa
   gi_upto_region 4 with (gi_at_call 55;refine HI.mono ?_;rintro e w2 ⟨rfl,hw⟩;obtain rfl:=hw)
   refine uP a1.o 9 { tmps:=#[.func (.yield l) #[] #[],Pt bs 0,undef,Sv (x.extract 0 (i+1)),I6 (i:Int),Sv x,I6 (x.size:Int),.bool true,Sv x,I6 (i:Int),I6 (i:Int),.bool true,Sv x,I6 (i:Int),I6 ((i:Int)+1),Sv (x.extract 0 (i+1)),Sv x,I6 (i:Int),I6 ((i:Int)+1),Sv (x.extract (i+1) x.size),u20,u21,u22,u23,u24],defers:=[] } W1 gd ?_ ?_
   ·
    refine lC (i:=0) (oi:=_) (v:=?_) rfl gb gd gd gd gd gd (λ_ _ _ h=>by cases h.1) (Or.inl ⟨by rfl,?_⟩) (λ_=>rfl) ?_;rotate_left
    ·intro w' hw'
     (try rw[hw'])
     go_simp
     (try rfl)
    simp only[Act.put,pq];refine bU (i:=1) (oi:=_) (v:=?_) rfl gb gd gd gd (λ_ _ _ h=>by cases h.1) (Or.inl ⟨by rfl,?_⟩) (λ_=>rfl) ?_;rotate_left
    ·intro w' hw'

     go_simp
     (try rfl)
    simp only[Act.put,pq];refine bU (i:=2) (oi:=_) (v:=?_) rfl gb gd gd gd (λ_ _ _ h=>by cases h.1) (Or.inl ⟨by rfl,?_⟩) (λ_=>rfl) ?_;rotate_left
    ·intro w' hw'

     go_simp
     (try rfl)
    simp only[Act.put,pq];refine bU (i:=3) (oi:=_) (v:=?_) rfl gb gd gd gd (λ_ _ _ h=>by cases h.1) (Or.inl ⟨by rfl,?_⟩) (λ_=>rfl) ?_;rotate_left
    ·intro w' hw'

     go_simp
     (try rfl)
    simp only[Act.put,pq];refine lC (i:=4) (oi:=_) (v:=?_) rfl gb gd gd gd gd gd (λ_ _ _ h=>by cases h.1) (Or.inl ⟨by rfl,?_⟩) (λ_=>rfl) ?_;rotate_left
    ·intro w' hw'
     (try rw[hw'])
     go_simp
     (try rfl)
    simp only[Act.put,pq];refine bU (i:=5) (oi:=_) (v:=?_) rfl gb gd gd gd (λ_ _ _ h=>by cases h.1) (Or.inl ⟨by rfl,?_⟩) (λ_=>rfl) ?_;rotate_left
    ·intro w' hw'

     go_simp
     (try rfl)
    simp only[Act.put,pq];refine bU (i:=6) (oi:=_) (v:=?_) rfl gb gd gd gd (λ_ _ _ h=>by cases h.1) (Or.inl ⟨by rfl,?_⟩) (λ_=>rfl) ?_;rotate_left
    ·intro w' hw'

     go_simp
     (try rfl)
    simp only[Act.put,pq];refine bU (i:=7) (oi:=_) (v:=?_) rfl gb gd gd gd (λ_ _ _ h=>by cases h.1) (Or.inl ⟨by rfl,?_⟩) (λ_=>rfl) ?_;rotate_left
    ·intro w' hw'

     go_simp
     (try rfl)
    simp only[Act.put,pq];refine bU (i:=8) (oi:=_) (v:=?_) rfl gb gd gd gd (λ_ _ _ h=>by cases h.1) (Or.inl ⟨by rfl,?_⟩) (λ_=>rfl) ?_;rotate_left
    ·intro w' hw'

     go_simp
     (try rfl)
    simp only[Act.put,pq];refine qE (i:=9) (o:=_) gd gd rfl (λK hK=>?_);go_simp;rw[<-ap.o];refine hK.out _ _ ?_;clear hK K
    (try simp only[Act.put,pq])
    refine nR gd ?_ _;exact⟨rfl,rfl,rfl⟩
   gi_wp2
   refine HR.mono ?_;rintro e W3 ⟨(⟨rfl,ai⟩|⟨rfl,ab⟩),hz3,hk3⟩
   ·have ad:=(hk3 bs rfl (ltOf ak.o)).trans ak.o;obtain⟨d0,g0⟩:=bB ad;obtain⟨aj,av,au⟩:=h_3 ad ai hz3;clear ad ai hk3 c0 f0 hy hz3
    gi_wp2
    go_roundw
    case rel=>exact⟨p++[x.extract 0 (i+1)],x.extract (i+1) x.size,aj.o,HE.o,by rw[k9];have:=a5.o;omega,by have:=an.o;have:=aq.o;have:=au.o;omega,av.o⟩
    case measure =>
     have e1:eQ bs w2=x.size:=by unfold eQ;rw[(bB ao.o).1]
     have e2:eQ bs W3=(x.extract (i+1) x.size).size:=by unfold eQ;rw[(bB aj.o).1]
     rw[e2,e1,k9];have:=HK.o;omega
   ·gi_wp2
    refine ig (iu rfl _ _ _) rfl ?_;exact⟨⟨_,rfl⟩,.inr ⟨_,ab⟩⟩
theorem aHi (s:BA) (w:World):Calls prog 150 #[Sv s] w λe w' =>
 e=.returned (.func (.func 207) #[] #[Pt w.heap.size 0])/\w'=w.alloc (.cells #[Sv s] 9):=by
 go_enter func150,ntmps150
 go_wp2;go_ret;exact⟨rfl,rfl⟩
theorem aKu (F:Fence) (aa:F=Fence.wide) (n:Nat) (h1:1<=n) (s:BA) (hs:s.size<=1000000000) (bs S:Nat) (w0:World) (hS:w0.heap[bs]?=some (.cells #[Sv s] 9 (0,0))) :
 SeqT F n prog 207 #[Pt bs 0] (λx:BA => #[Sv x]) (· = bs) S S (λ_=>True) (lnS s) w0:=by
 subst aa;intro l J Jx W hW ac hJ ab _ hY h0;have up:∀{k:Nat} {o:Obj},w0.heap[k]?=some o->W.heap[k]?=some o:=λh=>(hW.block _ (Array.getElem?_eq_some_iff.1 h).1).trans h;refine lineIt Fence.wide rfl (λ_=>trivial) rfl n h1 l bs S s hs (λx w=>callsIn_wide.2 ((Tryz.strings_IndexByte x 10 w).mono ?_)) J Jx hJ hY W ga (up hS) h0;rintro e w' ⟨rfl,rfl⟩;exact⟨by rw[Lib.index_one];rfl,rfl⟩
end
section
attribute [local go_sem] nj
def tW (x:BA):BA × BA:=aDi x.data.toList
theorem aKd (s:BA):(lnS s).map tW=fR s:=by
 unfold lnS fR tW;rw[List.map_map];rfl
abbrev encP (x:BA × BA):Array Value:=#[.string x.1,.string x.2]
theorem aBo {n m:Nat} {P:Program} {l l':Nat} {args:Array Value} {W:World} {R:Ending->World->Prop} (h:YieldAt Fence.wide n P l args W R):YieldAt (Fence.wide.inRound l') m P l args W R:=by
 obtain⟨fn,tmps,aa,ab,hy,h1,h2⟩:=h;exact⟨fn,tmps,aa,ab,hy,h1,λc cs _=>h2 c cs (room_wide _)⟩
theorem aGl (F:Fence) (af:F=Fence.wide) (n:Nat) (h1:5<=n) (s:ByteArray) (hs:s.size<=1000000000) (bx S:Nat) (w0:World) (az:w0.heap[bx]?=some (.cells #[Sv s] 9 (0,0))) :
 SeqT F n prog 149 #[Pt bx 0] encP (λk=>S<=k/\k<S+4) S (S+4) NumVars (fR s) w0:=by
 intro l J Jx W hW ba hJ bc hG hY h0;have hF:∀f,F.fn f:=λf=>by rw[af];trivial
 have a6:F.round=none:=by rw[af];rfl
 have HC:=f8 (λ(k:Nat) (f:FuncId) (args:Array Value) (w:World) (R:Ending->World->Prop) (h:Calls prog f args w R)=>(show CallsIn F k prog f args w R by rw[af];exact callsIn_wide.2 h));have au:W.heap[bx]?=some (.cells #[Sv s] 9 (0,0)):=(hW.block _ (ltOf az)).trans az;have bk:=ltOf au;obtain⟨V,hV⟩:=xe (W.alloc (.cells #[.func (.yield l) #[] #[]] 104))
 have bb:V.heap[bx]?=some (.cells #[Sv s] 9 (0,0)):=by rw[hV];exact aC _ au
 have a5:V.heap[S]?=some (.cells #[.func (.yield l) #[] #[]] 104 (0,0)):=by rw[hV,<-ba];exact ib W _
 have ai:V.heap.size=S+1:=by rw[hV];simp[ba]
 have a9:Turn (λk=>S<=k/\k<S+4) W V:=Turn.of_below (by rw[hV];exact(gx _ W).alloc lr _);have a3:=hJ _ _ _ h0 a9;have c0:=(bB bb).1;rw[hV] at c0;obtain⟨A,hA⟩:=xe (V.alloc (.cells #[Sv s] 9))
 have a7:A.heap.size=S+2:=by rw[hA];simp[ai]
 have bi:A.heap[S+1]?=some (.cells #[Sv s] 9 (0,0)):=by rw[hA,<-ai];exact ib V _
 have bp:A.heap[S]?=some (.cells #[.func (.yield l) #[] #[]] 104 (0,0)):=by rw[hA];exact aC _ a5
 have bu:=hJ _ _ _ a3 (Turn.of_below (R:=λk=>S<=k/\k<S+4) (show Below V.heap.size V A by rw[hA];exact(gx _ V).alloc lr _));have ao:=HC.o (n-1) _ _ _ _ (aHi s V);rw[ai,<-hA,hV] at ao;have bn:=f8 ao;have a1:=aKu F af (n-1) ga s hs (S+1) (A.heap.size+2) A bi;obtain⟨HJ,a8,HG,HY,HN⟩:=h_5 hJ bc hG hY h1;have bj:1<=n:=ga
 obtain⟨a2,bf,ac⟩:=h_3 af hs a7;clear hJ bc hG hY h0 hW au h1 af hs bb a5 a9 a3 ao hV ai hA a7 bk;refine callsIn_of_wp_marks func149 rfl (hF _) ?_ a6;simp only[ntmps149,oh,im,i7,Nat.reduceAdd,Nat.reduceSub,oy,ox,o0,oz,ji,jh]
 gi_wp2_with (gi_at_call 150;refine bn.mono ?_;rintro e A' ⟨rfl,bh⟩;obtain rfl:=bh)
 refine aAr hF a6 bj (enc:=λx:ByteArray => #[Sv x]) (w0:=A') (xs:=lnS s) gh (λargs w=>by simp[go_sem,callFunc];rfl) (λx=>by rfl) (M:=A'.heap.size+2) (G:=λ_=>True) (R:=(· = S+1)) (R':=λk=>S+1<=k/\k<S+4) (by rw[ac.o] at a1 ⊢;exact a1) (gx _ _) (λk hk=>by omega) (by have:=ac.o;omega) (by have:=ac.o;omega) (by have:=ac.o;omega) (by have:=ac.o;omega)
  (λp W=>J (p.map tW) W/\W.heap[S]?=some (.cells #[.func (.yield l) #[] #[]] 104 (0,0)))
  (λp W=>∃q,Jx q W)
  ?hI ?hIx (λ_ _ _=>trivial) ?h0 (λx=>{ tmps:=#[.func (.yield l) #[] #[],Pt bx 0,Pt S 0,Sv x,undef,undef,undef,Sv s,.func (.func 207) #[] #[Pt (S+1) 0],Sv x,undef,undef,undef,undef,undef,undef,undef,undef,undef,undef,undef,undef],defers:=[] }) ?hassign ?hbody ?hdone ?hstop
 case hI =>
  rintro p X Y ⟨h1,h2⟩ ht;exact⟨HJ.o _ _ _ h1 (ht.mono λk hk=>by omega),ht.keep h2 ga⟩
 case hIx =>
  rintro p X Y ⟨q,h1⟩ ht;exact⟨q,a8.o _ _ _ h1 (ht.mono λk hk=>by omega)⟩
 case h0=>exact⟨bu,bp⟩
 case hassign =>
  intro l' x W K hK
  gi_wp2
  exact hK
 case hbody =>
  rintro l' p x W ⟨ae,ap⟩ hM al;have ah:p.map tW++[tW x] <+: fR s:=by
   rw[<-aKd,<-List.map_singleton,<-kh];exact al.map _
  have hN:=HG.o _ _ ae;have bq:x.size<=1000000000:=by
   have hm:x∈lnS s:=al.subset ge;unfold lnS at hm;obtain⟨z,hz,rfl⟩:=List.mem_map.1 hm;have h1:=(aHg s.data.toList).1 z hz;rw[zJ] at h1;rw[bE];have:=bf.o;omega
  obtain⟨m,hm⟩:=hN.2.2;obtain⟨tr,aj⟩:=xe (⟨(Lib.trimSuffix x.data.toList [10]).toArray⟩:ByteArray)
  obtain⟨wd,an⟩:=xe ((cI tr).1)
  obtain⟨rs,av⟩:=xe ((cI tr).2)
  obtain⟨fl,a4⟩:=xe ((Lib.cut tr.data.toList [32]).2.2)
  have a0:tW x=(wd,rs):=by rw[an,av,aj];rfl
  have br:tr.size<=1000000000:=by
   have:=aIo x.data.toList;rw[zJ] at this;rw[aj,bE];omega
  have bd:=f8 (mo l' (HC.o (n-1-1-1) _ _ _ _ ((Tryz.strings_TrimSuffix x ⟨#[10]⟩ W ga).mono (λe w' h=>(show e=.returned (Sv tr)/\w'=W from⟨by rw[h.1,aj],h.2⟩)))));have bt:=f8 (mo l' (HC.o (n-1-1-1) _ _ _ _ ((Tryz.strings_Cut tr ⟨#[32]⟩ m W ga hm).mono (λe w' h=>(show e=.returned (.tuple #[Sv wd,Sv rs,.bool fl])/\Below W.heap.size W w' from⟨by rw[h.1,an,av,a4];rfl,by obtain⟨_,k,hk⟩:=h;rw[hk];exact below_drewN _ _⟩)))));obtain⟨bl,bs,bg,bo⟩:=h_4 ap ah ae a0;have HM:=f8 hM
  clear hN bq hm aj an av a4 a0 br ap al ah ae hM;have bv:1<=n-1-1:=by have:=HN.o;omega
  gi_upto_region 4 with (first
   | (gi_at_call 50;refine bt.mono ?_;rintro e w2 ⟨rfl,ay⟩;have ad:=f8 ay;clear ay)
   | (gi_at_call 151;refine bd.mono ?_;rintro e w1 ⟨rfl,be⟩;obtain rfl:=be))
  have ar:=aB ad.o bl.o;have cy:=(bB ar).1;have am:=HJ.o _ _ _ bg.o (Turn.of_below (R:=λk=>S<=k/\k<S+4) ad.o);obtain⟨fn,tmps,aw,bm,hy,hR⟩:=aBo (l':=l') (m:=n-1-1-1) (show YieldAt Fence.wide (n-1) prog l (encP (tW x)) w2 _ from by
   have h:=HY.o _ (tW x) w2 am (by have:=ad.size;have:=HM.o;have:=ac.o;omega) bs.o;rw[a2.o] at h;exact h)
  rw[bo.o] at hy;rw[<-a2.o] at hR;obtain⟨HR,bw,ax⟩:=h_3 hR am ar;clear ar am hR
  gi_wp2
  refine HR.mono ?_;have bz:=ad.size;rintro e W3 ⟨(⟨rfl,ak⟩|⟨rfl,aa⟩),ag,ab⟩
  ·have HE:=f8 (ie ak (ie ag ab));clear ak ag ab hy cy
   gi_wp2
   obtain⟨ak,ag,ab⟩:=HE.o;refine⟨by omega,λk hk hkl=>(ab k ⟨by omega,hk.2⟩ ga).trans (ad.block k hkl),?_,(ab S ⟨by omega,by omega⟩ (ltOf ax.o)).trans ax.o⟩;rw[kh,List.map_singleton];exact ak
  ·have HE:=f8 (ie aa (ie ag ab));clear aa ag ab hy cy
   gi_wp2
   obtain⟨aa,ag,ab⟩:=HE.o;exact⟨by omega,λk hk hkl=>(ab k ⟨by omega,hk.2⟩ ga).trans (ad.block k hkl),_,aa⟩
 case hdone =>
  rintro D W hD ⟨ae,ap⟩ aq
  gi_wp2
  rw[aKd] at ae;refine⟨by simp,.inl ⟨_,_,rfl,ni aq,?_⟩⟩;exact⟨_,iu rfl _ _ _,⟨_,rfl⟩,.inl (HJ.put _ ae (by have:=ac.o;omega))⟩
 case hstop =>
  rintro D p W hD ⟨q,hq⟩ aq
  gi_wp2
  refine⟨by simp,.inl ⟨_,_,rfl,ni aq,?_⟩⟩;exact⟨_,iu rfl _ _ _,⟨_,rfl⟩,.inr ⟨q,a8.put _ hq (by have:=ac.o;omega)⟩⟩
end
section
attribute [local go_sem] nj
theorem aC5 (s:BA) (w:World):Calls prog 95 #[Sv s] w λe w' =>
 e=.returned (.func (.func 149) #[] #[Pt w.heap.size 0])/\w'=w.alloc (.cells #[Sv s] 9):=by
 go_enter func95,ntmps95
 go_wp2;go_ret;exact⟨rfl,rfl⟩
def DecPost (s:BA) (w:World) (x:Ending) (w':World):Prop :=
 ∃(c:StC) (d:Sta) (E:Int),x=.returned (.tuple #[c.v,I6 E])/\IsSta (λb=>w.heap.size<=b/\b<w'.heap.size) w' c d/\((E=0/\aLl s=some d)\/(E=3/\aLl s=none/\d=⟨0,0,[]⟩))/\Below w.heap.size w w'
abbrev sZ:Array Value:=#[I6 0,I6 0,Z0]
theorem jC {W:World} {b:Nat} {u v x:Value} {t:TypeId} (h:W.heap[b]?=some (.cells #[u,v,x] t (0,0))) :
 (W.cell? ⟨b,0,none⟩=some u/\W.cell? ⟨b,1,none⟩=some v/\W.cell? ⟨b,2,none⟩=some x)/\W.frozen? ⟨b,0,none⟩=false/\W.frozen? ⟨b,1,none⟩=false/\W.frozen? ⟨b,2,none⟩=false:=by
 refine⟨⟨?_,?_,?_⟩,?_,?_,?_⟩<;>simp[World.cell?,World.frozen?,h]
theorem decRes {tmps:Array Value} {W:World} {R:Nat} {x y z v:Value} (h2:tmps.getD 2 undef=.pointer (So R 0)) (h3:tmps.getD 3 undef=.pointer (So (R+1) 0))
 (hR:W.heap[R]?=some (.cells #[x,y,z] 85 (0,0))) (hE:W.heap[R+1]?=some (.cells #[v] 31 (0,0))) :
 (results Tryz.f47 tmps).run prog W=.ok (.tuple #[.agg #[x,y,z],v]) W:=by
 have ab:tmps[2]?.getD undef=.pointer (So R 0):=by simpa using h2
 have aa:tmps[3]?.getD undef=.pointer (So (R+1) 0):=by simpa using h3
 obtain⟨⟨c0,c1,c2⟩,_⟩:=jC hR;have e0:=(bB hE).1;simp[results,results47,go_sem,ab,aa,c0,c1,c2,e0]
theorem aD4 {A:World} {R:Nat} {x y z v:Value} (hR:A.heap[R]?=some (.cells #[x,y,z] 85 (0,0))) (hE:A.heap[R+1]?=some (.cells #[v] 31 (0,0))) (p q r e:Value) :
 ((((A.setCell ⟨R,0,none⟩ p).setCell ⟨R,1,none⟩ q).setCell ⟨R,2,none⟩ r).setCell ⟨R+1,0,none⟩ e).heap[R]?=some (.cells #[p,q,r] 85 (0,0)) /\
 ((((A.setCell ⟨R,0,none⟩ p).setCell ⟨R,1,none⟩ q).setCell ⟨R,2,none⟩ r).setCell ⟨R+1,0,none⟩ e).heap[R+1]?=some (.cells #[e] 31 (0,0)) /\
 ∀k,k≠R->k≠R+1->((((A.setCell ⟨R,0,none⟩ p).setCell ⟨R,1,none⟩ q).setCell ⟨R,2,none⟩ r).setCell ⟨R+1,0,none⟩ e).heap[k]?=A.heap[k]?:=by
 refine⟨?_,?_,λk h1 h2=>?_⟩
 ·exact(ij _ _ _ _ gl).trans (dR (dR (dR hR)))
 ·exact dR ((ij _ _ _ _ gl).trans ((ij _ _ _ _ gl).trans ((ij _ _ _ _ gl).trans hE)))
 ·exact(ij _ _ _ _ gl).trans ((ij _ _ _ _ gl).trans ((ij _ _ _ _ gl).trans (ij _ _ _ _ gl)))
theorem aD3 {s:BA} {w Wf:World} {R D:Nat} {tmps:Array Value} {c:StC} {d:Sta} {E:Int} (ad:R=w.heap.size) (h2:tmps.getD 2 undef=.pointer (So R 0)) (h3:tmps.getD 3 undef=.pointer (So (R+1) 0))
 (hR:Wf.heap[R]?=some (.cells #[I6 c.n,I6 c.t,Sl c.a c.l c.c] 85 (0,0))) (hE:Wf.heap[R+1]?=some (.cells #[I6 E] 31 (0,0))) (hD:R+2<=D) (ac:Below R w Wf)
 (aa:IsSta (λk=>D<k/\k<Wf.heap.size) Wf c d) (ab:(E=0/\aLl s=some d)\/(E=3/\aLl s=none/\d=⟨0,0,[]⟩)) :
 ∃v,(results Tryz.f47 tmps).run prog (Wf.putObj D (.deferred none))=.ok v (Wf.putObj D (.deferred none))/\DecPost s w (.returned v) (Wf.putObj D (.deferred none)):=by
 refine⟨_,decRes (R:=R) h2 h3 ((jx ga).trans hR) ((jx ga).trans hE),c,d,E,rfl,aa.same λk hk=>⟨⟨by omega,by simp only[World.putObj,Array.size_setIfInBounds];exact hk.2⟩,jx ga⟩,ab,?_⟩;rw[<-ad];exact ac.grown (o4 Wf D _) (by rw[ad];exact ac.size) (λk e=>by cases e;omega)
theorem aCa (s:BA) (w:World) (hs:s.size<=1000000000) (hp:∀p d,p <+: fR s->eU ⟨0,0,[]⟩ p=some d->p.length<=1999) (bg:∀x∈fR s,LnOK x.1 x.2) (hT:Tabs w) (hZ:ZTab w) (bd:NumVars w) :
 Calls prog 47 #[Sv s] w (DecPost s w):=by
 obtain⟨n,hn⟩:=xe (9:Nat)
 rw[<-callsIn_wide (n:=n)];obtain⟨F,ar⟩:=xe Fence.wide
 have hF:∀f,F.fn f:=λf=>by rw[ar];trivial
 have bn:F.round=none:=by rw[ar];rfl
 have h1:1<=n:=ga
 have br:=f8 hn;clear hn;have HC:=f8 (λ(k:Nat) (f:FuncId) (args:Array Value) (w:World) (R:Ending->World->Prop) (h:Calls prog f args w R)=>(show CallsIn F k prog f args w R by rw[ar];exact callsIn_wide.2 h));rw[<-ar];have b0:=f8 ar;clear ar;obtain⟨R,hR⟩:=xe w.heap.size
 obtain⟨A1,am⟩:=xe (((w.alloc (.cells sZ 85)).alloc (.cells #[I6 0] 31)).alloc (.cells sZ 85))
 obtain⟨A2,ah⟩:=xe (A1.alloc (.cells #[Sv s] 9))
 have az:A1.heap.size=R+3:=by rw[am,hR];simp
 have bi:A2.heap.size=R+4:=by rw[ah,jb,az]
 have a0:A1.heap[R]?=some (.cells sZ 85 (0,0)):=by
  rw[am,hR];exact(iy _ _ _ gi).trans ((iy _ _ _ ge).trans (mj w _))
 have a1:A1.heap[R+1]?=some (.cells #[I6 0] 31 (0,0)):=by
  rw[am,hR];have h:=mj (w.alloc (.cells sZ 85)) (.cells #[I6 0] 31);rw[jb] at h;exact(iy _ _ _ ge).trans h
 have a2:A1.heap[R+2]?=some (.cells sZ 85 (0,0)):=by
  rw[am,hR];have h:=mj ((w.alloc (.cells sZ 85)).alloc (.cells #[I6 0] 31)) (.cells sZ 85);rwa[jb,jb] at h
 have bf:Below R w A1:=by rw[am,hR];exact(((bR w).alloc lr _).alloc ge _).alloc gi _
 have au:Below R w A2:=by rw[ah];exact bf.alloc ga _
 have k0:A2.heap[R]?=some (.cells sZ 85 (0,0)):=by rw[ah];exact aC _ a0
 have k1:A2.heap[R+1]?=some (.cells #[I6 0] 31 (0,0)):=by rw[ah];exact aC _ a1
 have k2:A2.heap[R+2]?=some (.cells sZ 85 (0,0)):=by rw[ah];exact aC _ a2
 have k3:A2.heap[R+3]?=some (.cells #[Sv s] 9 (0,0)):=by rw[ah,<-az];exact ib A1 _
 have a9:=HC.o (n-1) _ _ _ _ (aC5 s A1);rw[az,<-ah] at a9;have b1:=f8 a9;have ax:=f8 (λ(W:World) (h:Below R w W)=>(ie (hT.below (by rw[hR] at h;exact h)) (ie (hZ.below (by rw[hR] at h;exact h)) (bd.below (by rw[hR] at h;exact h)))));have bz:=aGl F b0.o (n-1) (by have:=br.o;omega) s hs (R+3) (A2.heap.size+2) A2 k3;obtain⟨b4,ao,HR,HP,b5⟩:=h_5 am bi hR hp bg;have HK:=f8 (ie k0 (ie k1 k2));have ag:=f8 au;clear a9 am ah az bi a0 a1 a2 bf au k0 k1 k2 k3 hT hZ bd hs hp bg;clear hR
 refine callsIn_of_wp_marks func47 rfl (hF _) ?_ bn;simp only[ntmps47,oh,im,i7,Nat.reduceAdd,Nat.reduceSub,oy,ox,o0,oz,ji,jh]
 gi_upto_region 2 with (fail)
 rw[<-b4.o,show w.heap.size+1+1=R+2 by rw[HR.o],<-HR.o]
 gi_wp2_with (gi_at_call 95;refine b1.mono ?_;rintro e A ⟨rfl,hA⟩;obtain rfl:=hA)
 refine aAr hF bn h1 (enc:=encP) (w0:=A) (xs:=fR s) gh (λargs w=>by simp[go_sem,callFunc];rfl) (λx=>by rfl) (M:=A.heap.size+2+4) (G:=NumVars) (R:=λk=>A.heap.size+2<=k/\k<A.heap.size+2+4) (R':=λk=>R+4<=k/\k<R+10) bz (gx _ _) (λk hk=>by have:=ao.o;omega) ga ga (by have:=ao.o;omega) (by have:=ao.o;omega)
  (λp W=>∃d,eU ⟨0,0,[]⟩ p=some d/\StOwn (R+10) (R+2) W d/\Below R w W/\W.heap[R]?=some (.cells sZ 85 (0,0))/\W.heap[R+1]?=some (.cells #[I6 0] 31 (0,0)))
  (λp W=>Below R w W/\W.heap[R]?=some (.cells sZ 85 (0,0))/\W.heap[R+1]?=some (.cells #[I6 3] 31 (0,0))/\eU ⟨0,0,[]⟩ p=none/\p <+: fR s)
  ?hI ?hIx ?hG ?h0 (λx=>{ tmps:=#[Sv s,undef,Pt R 0,Pt (R+1) 0,Pt (R+2) 0,Sv x.1,Sv x.2,undef,undef,Sv s,.func (.func 149) #[] #[Pt (R+3) 0],Sv x.1,Sv x.2,undef,undef,undef,undef,undef,undef,undef,undef,undef,undef,undef,undef,undef,undef,undef,undef,undef,undef,undef],defers:=[] }) ?hassign ?hbody ?hdone ?hstop
 case hI =>
  rintro p X Y ⟨d,h1,h2,h3,h4,h5⟩ ht;have hb:Below R X Y:=⟨ht.os,ht.tape,ht.output,ht.size,λk hk=>ht.block k (by have:=h3.size;have:=HR.o;omega) ga⟩
  obtain⟨sv,g1,_⟩:=id h2;exact⟨d,h1,h2.move (ht.block _ (ltOf g1) ga) (λk hk hl=>ht.block k hl ga) ht.size,h3.trans hb,ht.keep h4 ga,ht.keep h5 ga⟩
 case hIx =>
  rintro p X Y ⟨h3,h4,h5,h6⟩ ht;have hb:Below R X Y:=⟨ht.os,ht.tape,ht.output,ht.size,λk hk=>ht.block k (by have:=h3.size;have:=HR.o;omega) ga⟩
  exact⟨h3.trans hb,ht.keep h4 ga,ht.keep h5 ga,h6⟩
 case hG =>
  rintro p X ⟨d,h1,h2,h3,_⟩;exact(ax.o X h3).2.2
 case h0=>exact⟨⟨0,0,[]⟩,rfl,⟨.slice none 0 0,HK.2.2,⟨by decide,by decide⟩,⟨by decide,by decide⟩,.inl ⟨rfl,lf _ _ _ _⟩⟩,ag.o,HK.1,HK.2.1⟩
 case hassign =>
  intro l x W K hK
  gi_wp2
  exact hK
 case hbody =>
  rintro l p x W ⟨d,ad,a4,af,ak,al⟩ hM ap;have hx:x∈fR s:=ap.subset ge;have a8:p.length<=1999:=HP.o p d ((List.prefix_append _ _).trans ap) ad;have aq:Sz p.length d.l:=by
   have h:=pA p 0 ⟨0,0,[]⟩ d ⟨gy _,λx hx=>absurd hx ge⟩ ad;rw[ir] at h;exact h
  have bj:=mo l (HC.o (n-1-1-1) _ _ _ _ (aK6 (R+10) (R+2) d x.1 x.2 W a4 ga (by have:=ao.o;omega) p.length aq ga (λW' h=>ax.o W' (af.trans (h.mono ga))) (b5.o x hx)));obtain⟨bv,bh⟩:=h_2 bj ad;have HW:=f8 (ie ak (ie al (ie af (ltOf (Classical.choose_spec a4).1))));obtain⟨b7,HM⟩:=h_2 ap hM;have bt:1<=n-1-1:=by have:=br.o;omega
  clear bj ad a4 af ak al hM ap hx a8 aq
  gi_upto_region 6 with ((try refine⟨λ_=>bt,?_⟩);gi_at_call 96;refine bv.mono ?_;rintro e W2 ⟨bb,rfl,ht,ai⟩;have z0:=ht.keep HW.1 ga;have z1:=ht.keep HW.2.1 ga;obtain⟨ab,bo⟩:=h_2 ht ai;have Z:=f8 (ie z0 z1);obtain⟨⟨x0,x1,x2⟩,y0,y1,y2⟩:=jC z0;obtain⟨e0,e1⟩:=bB z1;clear ht ai z0 z1;cases bb)
  ·gi_wp2
   have aa:=aD4 Z.1 Z.2 (I6 0) (I6 0) Z0 (I6 3);have aj:Below R W W2:=⟨ab.os,ab.tape,ab.output,ab.size,λk hk=>ab.block k (by have:=HW.2.2.2;omega) ga⟩
   have ae:Below R w ((((W2.setCell ⟨R,0,none⟩ (I6 0)).setCell ⟨R,1,none⟩ (I6 0)).setCell ⟨R,2,none⟩ Z0).setCell ⟨R+1,0,none⟩ (I6 3)):=((((HW.2.2.1.trans aj).setCell (p:=⟨R,0,none⟩) lr _).setCell (p:=⟨R,1,none⟩) lr _).setCell (p:=⟨R,2,none⟩) lr _).setCell (p:=⟨R+1,0,none⟩) (mp _) _;have ac:W.heap.size<=((((W2.setCell ⟨R,0,none⟩ (I6 0)).setCell ⟨R,1,none⟩ (I6 0)).setCell ⟨R,2,none⟩ Z0).setCell ⟨R+1,0,none⟩ (I6 3)).heap.size:=by
    have:=ab.size
    simpa [World.setCell] using this
   have bw:eV d x.1 x.2=none:=by
    rcases bo.o with ⟨h,_⟩|⟨_,h⟩
    ·simp at h
    ·exact h
   refine⟨ac,λk hk hkl=>(aa.2.2 k ga ga).trans (ab.block k hkl ga),ae,aa.1,aa.2.1,?_,b7.o⟩;rw[qJ p [x] _ _ bh.o,eU,bw]
  ·have aj:Below R W W2:=⟨ab.os,ab.tape,ab.output,ab.size,λk hk=>ab.block k (by have:=HW.2.2.2;omega) ga⟩
   obtain⟨d',bs,a6⟩:∃d',eV d x.1 x.2=some d'/\StOwn (R+10) (R+2) W2 d':=by
    rcases bo.o with ⟨_,h⟩|⟨h,_⟩
    ·exact h
    ·simp at h
   refine⟨ab.size,λk hk hkl=>ab.block k hkl ga,d',?_,a6,HW.2.2.1.trans aj,Z.1,Z.2⟩;rw[qJ p [x] _ _ bh.o,eU,bs];rfl
 case hdone =>
  rintro D W hD ⟨d,ad,⟨sv,hb,bk,bp,bl⟩,af,ak,al⟩ aw;have b3:=ao.o;have aq:Sz (fR s).length d.l:=by
   have h:=pA (fR s) 0 ⟨0,0,[]⟩ d ⟨gy _,λx hx=>absurd hx ge⟩ ad;rw[ir] at h;exact h
  have a8:(fR s).length<=1999:=HP.o _ d (List.prefix_refl _) ad;have ac:Sz 2000 d.l:=⟨by have:=aq.1;omega,λx hx=>by have:=aq.2 x hx;omega⟩
  obtain⟨a,cap,bx,av⟩:=Built.row' (bl.built ac gb) rfl (by show d.l.length * 152<=_;have:=ac.1;omega);subst bx;have an:IsSta (λk=>R+10<=k/\k<W.heap.size) W ⟨d.n,d.t,a,d.l.length,cap⟩ d:=⟨rfl,bk,rfl,bp,av⟩
  have ba:=HC.o (n-1) _ _ _ _ (tM ⟨d.n,d.t,a,d.l.length,cap⟩ d W (an.same λk hk=>⟨hk.2,rfl⟩) (ax.o W af).1 (ax.o W af).2.1 ac);obtain⟨t,ht⟩:=xe ((jQ d).1)
  obtain⟨er,a5⟩:=xe ((jQ d).2)
  rw[<-ht,<-a5] at ba;have a7:=f8 (show aLl s=if jQ d=(s,0) then some d else none by unfold aLl;rw[ad]);have b6:=f8 ba;have ay:=f8 (ie ht a5);have HW:=f8 (ie ak (ie al (ie hb (ie aw af))));have b2:=f8 an;obtain⟨⟨x0,x1,x2⟩,_⟩:=jC hb;clear ad hb bk bp bl af ak al aw aq ac av an ba ht a5 a8
  gi_upto_region 8 with (gi_at_call 35;refine b6.mono ?_;rintro e W2 ⟨rfl,au⟩;have ag:=f8 au;clear au)
  clear x0 x1 x2;have Z:=f8 (ie (aB ag.o HW.1) (ie (aB ag.o HW.2.1) (ie (aB ag.o HW.2.2.1) (ie (aB ag.o HW.2.2.2.1) (HW.2.2.2.2.trans (ag.mono (by have:=ltOf HW.1;omega)))))));obtain⟨⟨x0,x1,x2⟩,y0,y1,y2⟩:=jC Z.1;obtain⟨e0,e1⟩:=bB Z.2.1;obtain⟨⟨u0,u1,u2⟩,_⟩:=jC Z.2.2.1;by_cases he:er=0
  ·subst he;obtain⟨bq,be⟩:∃bq,(t.toList==s.toList)=bq:=⟨_,rfl⟩
   have ca:(t.toList != s.toList) = !bq:=by rw[<-be];rfl
   have bc:=f8 be;cases bq
   ·gi_wp2
    have aa:=aD4 Z.1 Z.2.1 (I6 0) (I6 0) Z0 (I6 3);have ae:Below R w ((((W2.setCell ⟨R,0,none⟩ (I6 0)).setCell ⟨R,1,none⟩ (I6 0)).setCell ⟨R,2,none⟩ Z0).setCell ⟨R+1,0,none⟩ (I6 3)):=(((Z.2.2.2.2.setCell (p:=⟨R,0,none⟩) lr _).setCell (p:=⟨R,1,none⟩) lr _).setCell (p:=⟨R,2,none⟩) lr _).setCell (p:=⟨R+1,0,none⟩) (mp _) _;generalize ((((W2.setCell ⟨R,0,none⟩ (I6 0)).setCell ⟨R,1,none⟩ (I6 0)).setCell ⟨R,2,none⟩ Z0).setCell ⟨R+1,0,none⟩ (I6 3))=Wf at aa ae ⊢
    refine⟨by simp,.inl ⟨_,_,rfl,ni ((aa.2.2 D ga ga).trans Z.2.2.2.1),?_⟩⟩;exact aD3 (c:=⟨0,0,none,0,0⟩) (d:=⟨0,0,[]⟩) HR.o rfl rfl aa.1 aa.2.1 ga ae ⟨rfl,⟨by decide,by decide⟩,rfl,⟨by decide,by decide⟩,rfl,gy _,by decide,.inl rfl⟩ (.inr ⟨rfl,by rw[a7.o,f9 (λh=>by have h1:=ay.1;rw[h] at h1;have h2:=bc.o;rw[h1] at h2;simp at h2)],rfl⟩)
   ·have bm:t=s:=by
     have h2:=bc.o;rw[aOm] at h2;exact ld h2
    have bu:=f8 bm;clear bm
    gi_wp2
    have aa:=aD4 Z.1 Z.2.1 (I6 d.n) (I6 d.t) (Sl a d.l.length cap) (I6 0);have ae:Below R w ((((W2.setCell ⟨R,0,none⟩ (I6 d.n)).setCell ⟨R,1,none⟩ (I6 d.t)).setCell ⟨R,2,none⟩ (Sl a d.l.length cap)).setCell ⟨R+1,0,none⟩ (I6 0)):=(((Z.2.2.2.2.setCell (p:=⟨R,0,none⟩) lr _).setCell (p:=⟨R,1,none⟩) lr _).setCell (p:=⟨R,2,none⟩) lr _).setCell (p:=⟨R+1,0,none⟩) (mp _) _;have a3:((((W2.setCell ⟨R,0,none⟩ (I6 d.n)).setCell ⟨R,1,none⟩ (I6 d.t)).setCell ⟨R,2,none⟩ (Sl a d.l.length cap)).setCell ⟨R+1,0,none⟩ (I6 0)).heap.size=W2.heap.size:=by simp[World.setCell]
    generalize ((((W2.setCell ⟨R,0,none⟩ (I6 d.n)).setCell ⟨R,1,none⟩ (I6 d.t)).setCell ⟨R,2,none⟩ (Sl a d.l.length cap)).setCell ⟨R+1,0,none⟩ (I6 0))=Wf at aa ae a3 ⊢;refine⟨by simp,.inl ⟨_,_,rfl,ni ((aa.2.2 D ga ga).trans Z.2.2.2.1),?_⟩⟩;refine aD3 (c:=⟨d.n,d.t,a,d.l.length,cap⟩) (d:=d) HR.o rfl rfl aa.1 aa.2.1 ga ae (b2.same λk hk=>⟨⟨by omega,by have:=ag.size;omega⟩,(aa.2.2 k ga ga).trans (ag.block k hk.2)⟩) (.inl ⟨rfl,?_⟩);rw[a7.o,gw];rw[<-bu.o,ay.1];exact Prod.ext rfl ay.2.symm
  ·have b9:(er==0)=false:=by simp;exact he
   have b8:(er != 0)=true:=by simp;exact he
   have HE:=f8 he;clear he
   gi_wp2
   have aa:=aD4 Z.1 Z.2.1 (I6 0) (I6 0) Z0 (I6 3);have ae:Below R w ((((W2.setCell ⟨R,0,none⟩ (I6 0)).setCell ⟨R,1,none⟩ (I6 0)).setCell ⟨R,2,none⟩ Z0).setCell ⟨R+1,0,none⟩ (I6 3)):=(((Z.2.2.2.2.setCell (p:=⟨R,0,none⟩) lr _).setCell (p:=⟨R,1,none⟩) lr _).setCell (p:=⟨R,2,none⟩) lr _).setCell (p:=⟨R+1,0,none⟩) (mp _) _;generalize ((((W2.setCell ⟨R,0,none⟩ (I6 0)).setCell ⟨R,1,none⟩ (I6 0)).setCell ⟨R,2,none⟩ Z0).setCell ⟨R+1,0,none⟩ (I6 3))=Wf at aa ae ⊢
   refine⟨by simp,.inl ⟨_,_,rfl,ni ((aa.2.2 D ga ga).trans Z.2.2.2.1),?_⟩⟩;exact aD3 (c:=⟨0,0,none,0,0⟩) (d:=⟨0,0,[]⟩) HR.o rfl rfl aa.1 aa.2.1 ga ae ⟨rfl,⟨by decide,by decide⟩,rfl,⟨by decide,by decide⟩,rfl,gy _,by decide,.inl rfl⟩ (.inr ⟨rfl,by rw[a7.o,f9 (λh=>by have h1:=ay.2;rw[h] at h1;exact HE.o h1)],rfl⟩)
 case hstop =>
  rintro D p W hD ⟨af,ak,al,ad,ap⟩ aw;have b3:=ao.o
  gi_wp2
  refine⟨by simp,.inl ⟨_,_,rfl,ni aw,?_⟩⟩;exact aD3 (c:=⟨0,0,none,0,0⟩) (d:=⟨0,0,[]⟩) HR.o rfl rfl ak al ga af ⟨rfl,⟨by decide,by decide⟩,rfl,⟨by decide,by decide⟩,rfl,gy _,by decide,.inl rfl⟩ (.inr ⟨rfl,by
   obtain⟨t,ht⟩:=ap;unfold aLl;rw[<-ht,uC p t _ ad],rfl⟩)
end
end Go.Proofs.YtoodnaghjpkjfaaGreatDoor
