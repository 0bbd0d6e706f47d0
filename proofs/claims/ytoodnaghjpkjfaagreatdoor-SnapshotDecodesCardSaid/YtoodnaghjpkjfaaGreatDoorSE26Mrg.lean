/- A part. -/
import Derived.Test.YtoodnaghjpkjfaaGreatDoorSE13Mrg
import Derived.Test.YtoodnaghjpkjfaaGreatDoorSE17Mrg
namespace Go.Proofs.YtoodnaghjpkjfaaGreatDoor
open Tryz
set_option linter.unusedVariables false
set_option maxRecDepth 100000
set_option maxHeartbeats 64000000
set_option linter.unusedSimpArgs false
open Go Go.RowKit Go.Shelf
section
attribute [local go_sem] nj
def fC (c:UInt8) (s:BA):List BA:=(spl c s.data.toList).map λl=>⟨l.toArray⟩
theorem zJ (x:BA):x.data.toList.length=x.size:=by rw[ByteArray.size,lu]
theorem sT {c:UInt8} {x:BA} (h:spl c x.data.toList=[x.data.toList]):fC c x=[x]:=by
 unfold fC;rw[h];rfl
theorem aDr {c:UInt8} {x:BA} {i:Nat} (h:spl c x.data.toList=x.data.toList.take i :: spl c (x.data.toList.drop (i+1))):fC c x=x.extract 0 i :: fC c (x.extract (i+1) x.size):=by
 unfold fC;rw[h,jv];congr 1
 ·apply kn;apply lk;exact(Lib.extract_from_zero x i).symm
 ·rw[Lib.extract_to_end]
theorem aAb (c:UInt8) (s x:BA) (h:x∈fC c s):x.size<=s.size:=by
 unfold fC at h;rw[oa] at h;obtain⟨l,hl,rfl⟩:=h;have:=(aA9 c _ l hl).2;rw[zJ] at this;exact this
theorem qG (c:UInt8) (s:BA):(fC c s).length<=s.size+1:=by
 unfold fC;rw[jy];have:=aAa c s.data.toList;rw[zJ] at this;exact this
def eQ (bs:Nat) (w:World):Nat:=match w.cell? ⟨bs,0,none⟩ with
 | some (.string x)=>x.size
 | _=>0
theorem bB {w:World} {b:Nat} {v:Value} {t:TypeId} (h:w.heap[b]?=some (.cells #[v] t (0,0))):w.cell? ⟨b,0,none⟩=some v/\w.frozen? ⟨b,0,none⟩=false:=by
 constructor<;>simp[World.cell?,World.frozen?,h]
theorem splitIt (F:Fence) (hF:∀f,F.fn f) (a2:F.round=none) (n:Nat) (h1:1<=n) (l bs bp bv:Nat) (az:bs≠bp) (a1:bs≠bv) (c:UInt8) (sp s:BA) (aj:sp.size=1) (hs:s.size<=1000000)
 (ad:∀(x:BA) (w:World),CallsIn F (n-1) prog 90 #[Sv x,Sv sp] w λe w'=>e=.returned (I6 (Lib.index x.data.toList [c]))/\w'=w)
 (J Jx:List BA->World->Prop) (hJ:Abb bs J)
 (hY:∀p x W1,J p W1->p++[x] <+: fC c s->YieldAt F (n-1) prog l #[Sv x] W1 λe W' =>
   (e=.returned (.bool true)/\J (p++[x]) W'/\∀k∈[bs,bp,bv],W'.heap[k]?=W1.heap[k]?)\/(e=.returned (.bool false)/\Jx (p++[x]) W'))
 (W:World) (hS:W.heap[bs]?=some (.cells #[Sv s] 9 (0,0))) (hP:W.heap[bp]?=some (.cells #[Sv sp] 9 (0,0))) (hV:W.heap[bv]?=some (.cells #[I6 0] 3 (0,0))) (h0:J [] W) :
 CallsIn F n prog 210 #[.func (.yield l) #[] #[],Pt bp 0,Pt bs 0,Pt bv 0] W λe W'=>(∃v,e=.returned v)/\(J (fC c s) W'\/∃p,Jx p W'):=by
 obtain⟨ao,HY,HJ⟩:=h_3 ad hY hJ;have c1:=(bB hP).1;have hz:((sp.size:Int)==0)=false:=by rw[aj];rfl
 have ay:=f8 aj;have ap:=f8 (ie hP hV);obtain⟨a0,H0⟩:=h_2 hS h0;clear ad hY hJ hP hV hS h0 aj;refine callsIn_of_wp func210 rfl (hF _) ?_ a2;simp only[ntmps210,oh,im,i7,Nat.reduceAdd,Nat.reduceSub,oy,ox,o0,oz,ji,jh]
 gi_wp2
 gi_loopw [] (λwr=>∃(p:List BA) (x:BA),wr.heap[bs]?=some (.cells #[Sv x] 9 (0,0))/\wr.heap[bp]?=some (.cells #[Sv sp] 9 (0,0))/\wr.heap[bv]?=some (.cells #[I6 0] 3 (0,0))/\p++fC c x=fC c s/\x.size<=s.size/\J p wr)
  (λwr=>eQ bs wr)
 case atStart=>exact⟨[],s,a0.o,ap.1,ap.2,rfl,gy _,H0.o⟩
 case round =>
  clear c1;obtain⟨p,x,hS,hP,hV,hx,ak,al⟩:=hrel;obtain⟨c0,f0⟩:=bB hS;have c1:=(bB hP).1;have c2:=(bB hV).1;obtain⟨HX,av,aq⟩:=h_3 hx ak hS;have am:=f8 (ie hP hV);have au:=f8 al;clear hx hS hP hV al;rcases sS c x.data.toList with ⟨k1,k2⟩|⟨i,k1,k2,k3⟩
  ·have ab:=ao.o x wr;rw[k1] at ab;have HI:=f8 ab;have he:p++[x]=fC c s:=by rw[<-HX.o,sT k2]
   obtain⟨fn,tmps,ac,ai,hy,hR⟩:=HY.o p x wr au.o (by rw[he];exact List.prefix_refl _);obtain⟨HR,HE⟩:=h_2 hR he;clear ab k1 k2 hR he
   gi_wp2_with (gi_at_call 90;refine HI.mono ?_;rintro e w2 ⟨rfl,hw⟩;obtain rfl:=hw)
   refine HR.mono ?_;rintro e W3 (⟨rfl,ae,_⟩|⟨rfl,aa⟩)
   ·gi_wp2
    go_end0
    exact⟨⟨_,rfl⟩,.inl (by rw[<-HE.o];exact ae)⟩
   ·gi_wp2
    go_end0
    exact⟨⟨_,rfl⟩,.inr ⟨_,aa⟩⟩
  ·have ab:=ao.o x wr;rw[k1] at ab;have HI:=f8 ab;have hh:=aDr k3;have he:(p++[x.extract 0 i])++fC c (x.extract (i+1) x.size)=fC c s:=by rw[<-HX.o,hh];simp
   have ad:i<x.size:=by rw[zJ] at k2;exact k2
   obtain⟨fn,tmps,ac,ai,hy,hR⟩:=HY.o p (x.extract 0 i) wr au.o ⟨_,he⟩;obtain⟨HR,HE⟩:=h_2 hR he;have b1:¬ ((i:Int)<0):=ga
   have b2:(i:Int)<=(x.size:Int):=ga
   have b3:(i:Int)+1<=(x.size:Int):=ga
   have b4:wrap64 (i:Int)=(i:Int):=by unfold wrap64;omega
   have b5:wrap64 ((i:Int)+(sp.size:Int))=(i:Int)+1:=by rw[ay.o];unfold wrap64;omega
   have b6:((i:Int)).toNat=i:=rfl;have HK:=f8 ad;clear ab k1 k2 k3 hR he hh ad ak
   gi_wp2_with (gi_at_call 90;refine HI.mono ?_;rintro e w2 ⟨rfl,hw⟩;obtain rfl:=hw)
   refine HR.mono ?_;rintro e W3 (⟨rfl,ae,af⟩|⟨rfl,aa⟩)
   ·have ah:=(af bs ge).trans aq.o;have ag:=(af bp ge).trans am.1;have ar:=(af bv ge).trans am.2;obtain⟨d0,g0⟩:=bB ah;have d1:=(bB ag).1;obtain⟨an,ax,aw,a3⟩:=h_4 ah ag ar ae;clear ah ag ar ae af c0 f0 c1 c2
    gi_wp2
    have hb:x.extract (i+1) x.size=x.extract ((i:Int)+1).toNat x.size:=by rw[show((i:Int)+1).toNat=i+1 by omega]
    go_roundw
    case rel =>
     refine⟨p++[x.extract 0 i],x.extract (i+1) x.size,?_,?_,?_,HE.o,?_,?_⟩
     ·rw[hb];exact Boxed.set (W:=W3) (B:=bs) (t:=9) (v:=Sv x) _ an.o
     ·exact(ij W3 ⟨bs,0,none⟩ _ bp (λe=>az e.symm)).trans ax.o
     ·exact(ij W3 ⟨bs,0,none⟩ _ bv (λe=>a1 e.symm)).trans aw.o
     ·rw[k9];have:=av.o;omega
     ·exact HJ.o _ _ _ a3.o (grownBy_setCell' W3 bs _)
    case measure =>
     have e1:eQ bs w2=x.size:=by unfold eQ;rw[(bB aq.o).1]
     have e2:∀y:BA,eQ bs (W3.setCell ⟨bs,0,none⟩ (Sv y))=y.size:=λy=>by
      unfold eQ;rw[(bB (Boxed.set (W:=W3) (B:=bs) (t:=9) (v:=Sv x) (Sv y) an.o)).1]
     rw[e2,e1,k9];have:=HK.o;omega
   ·gi_wp2
    refine ig (iu rfl _ _ _) rfl ?_;exact⟨⟨_,rfl⟩,.inr ⟨_,aa⟩⟩
theorem vU (s sp:BA) (w:World):Calls prog 159 #[Sv s,Sv sp,I6 0] w λe w' =>
 e=.returned (.func (.func 210) #[] #[Pt (w.heap.size+1) 0,Pt w.heap.size 0,Pt (w.heap.size+2) 0]) /\
 w'=((w.alloc (.cells #[Sv s] 9)).alloc (.cells #[Sv sp] 9)).alloc (.cells #[I6 0] 3):=by
 go_enter func159,ntmps159
 go_wp2;go_ret;exact⟨rfl,rfl⟩
theorem yV (s sp:BA) (w:World):Calls prog 104 #[Sv s,Sv sp] w λe w' =>
 e=.returned (.func (.func 210) #[] #[Pt (w.heap.size+1) 0,Pt w.heap.size 0,Pt (w.heap.size+2) 0]) /\
 w'=((w.alloc (.cells #[Sv s] 9)).alloc (.cells #[Sv sp] 9)).alloc (.cells #[I6 0] 3):=by
 go_enter func104,ntmps104
 go_wp2_with (go_at_call 159;refine(vU _ _ _).mono ?_;rintro e w2 ⟨rfl,rfl⟩)
 go_ret;exact⟨rfl,rfl⟩
theorem aC3 (F:Fence) (aa:F=Fence.wide) (c:UInt8) (n:Nat) (h1:1<=n) (s:BA) (hs:s.size<=1000000) (bs:Nat) (w0:World)
 (hS:w0.heap[bs]?=some (.cells #[Sv s] 9 (0,0))) (hP:w0.heap[bs+1]?=some (.cells #[Sv ⟨#[c]⟩] 9 (0,0))) (hV:w0.heap[bs+2]?=some (.cells #[I6 0] 3 (0,0))) :
 aOr F n prog 210 #[Pt (bs+1) 0,Pt bs 0,Pt (bs+2) 0] bs [bs,bs+1,bs+2] (fC c s) w0:=by
 subst aa;intro l J Jx W hW hJ ab hY h0;have up:∀{k:Nat} {o:Obj},w0.heap[k]?=some o->W.heap[k]?=some o:=λh=>(hW.block _ (Array.getElem?_eq_some_iff.1 h).1).trans h;refine splitIt Fence.wide (λ_=>trivial) rfl n h1 l bs (bs+1) (bs+2) ga ga c ⟨#[c]⟩ s rfl hs (λx w=>callsIn_wide.2 ((Tryz.strings_Index1 x c w).mono ?_)) J Jx hJ hY W (up hS) (up hP) (up hV) h0;rintro e w' ⟨rfl,rfl⟩;exact⟨by rw[Lib.index_one],rfl⟩
end
theorem aAu (s:BA) (hs:s.size<=1000000) (w:World) (hT:Tabs w) (hN:NumVars w) :
 Calls prog 103 #[Sv s] w λe w'=>e=.returned (.tuple #[I6 (dW s.data.toList).1,.bool (dW s.data.toList).2])/\Below w.heap.size w w':=by
 have HZ:=f8 (show s.data.toList.length=s.size by rw[ByteArray.size,lu]);obtain⟨⟨e1,h1,k1⟩,⟨e2,h2,k2⟩,_⟩:=hN;obtain⟨r,hr⟩:∃r,Lib.atoiAll s.data.toList=r:=⟨_,rfl⟩
 by_cases ac:∃v,r=.ok v
 ·obtain⟨v,rfl⟩:=ac;obtain⟨b0,b1⟩:=Lib.atoiAll_bounds hr;have HA:=f8 (Tryz.strconv_Atoi_ok s ga v hr w);obtain⟨t,ht⟩:=xe (aE v)
  have hI:=λw hT=>bM v ⟨b0,b1⟩ w hT;rw[<-ht] at hI;have HI:=f8 hI;obtain⟨b,hb⟩:∃b,(t.toList==s.toList)=b:=⟨_,rfl⟩
  have he:aHw s.data.toList=(v,b):=by
   unfold aHw;rw[hr,<-hb,aIr,ht];rfl
  by_cases h7:s.size<=7
  ·have HE:=f8 (show dW s.data.toList=(v,b) by
    unfold dW;rw[he,lg (by rw[HZ.o];exact h7),Bool.and_true])
   have ag:(s.size:Int)<=7:=ga
   clear hr b0 b1 hI ht h1 h2 k1 k2 he h7;cases b
   all_goals go_enter func103,ntmps103
   all_goals go_wp2_with (first
    | (go_at_call 64;refine(HI.o w1 (hT.below aa.o)).mono ?_;rintro e w2 ⟨rfl,af⟩)
    | (go_at_call 45;refine HA.mono ?_;rintro e w1 ⟨rfl,ab⟩;have aa:=f8 (show Below w.heap.size w w1 from ab.elim (λh=>h▸gx _ _) (λ⟨_,h⟩=>h▸Lib.bytesWorld_below _ _ _));clear ab))
   ·refine ig (v:=.tuple #[I6 v,.bool false]) (by simp[results,results103,go_sem]) rfl ?_;exact⟨by rw[HE.o],aa.trans (af.mono aa.size)⟩
   ·refine ig (v:=.tuple #[I6 v,.bool true]) (by simp[results,results103,go_sem]) rfl ?_;exact⟨by rw[HE.o],aa.trans (af.mono aa.size)⟩
  ·have HE:=f8 (show dW s.data.toList=(v,false) by
    unfold dW;rw[he,mc (by rw[HZ.o];exact h7),Bool.and_false])
   have ag:¬ (s.size:Int)<=7:=ga
   clear hr b0 b1 hI ht h1 h2 k1 k2 he h7 hb HI;go_enter func103,ntmps103
   go_wp2_with (go_at_call 45;refine HA.mono ?_;rintro e w1 ⟨rfl,ab⟩;have aa:=f8 (show Below w.heap.size w w1 from ab.elim (λh=>h▸gx _ _) (λ⟨_,h⟩=>h▸Lib.bytesWorld_below _ _ _));clear ab)
   refine ig (v:=.tuple #[I6 v,.bool false]) (by simp[results,results103,go_sem]) rfl ?_;exact⟨by rw[HE.o],aa.o⟩
 by_cases ad:r=.range
 ·subst ad;have HA:=f8 (Tryz.strconv_Atoi_range s ga hr e2 w h2 k2);have HE:=f8 (show dW s.data.toList=(Lib.atoiSat s.data.toList,false) by unfold dW aHw;rw[hr];rfl);clear hr h1 h2 k1 k2;go_enter func103,ntmps103
  go_wp2_with (go_at_call 45;refine HA.mono ?_;rintro e w1 ⟨N,rfl,_,_,ae⟩)
  refine ig (v:=.tuple #[I6 (Lib.atoiSat s.data.toList),.bool false]) (by simp[results,results103,go_sem]) rfl ?_;exact⟨by rw[HE.o],ae⟩
 have HA:=f8 (aFr s ga (λv h=>ac ⟨v,hr.symm.trans h⟩) (λh=>ad (hr.symm.trans h)) e1 w h1 k1);have HE:=f8 (show dW s.data.toList=(0,false) by
  unfold dW aHw;rw[hr];cases r
  ·exact absurd ⟨_,rfl⟩ ac
  ·rfl
  ·exact absurd rfl ad)
 clear hr ac ad h1 h2 k1 k2;go_enter func103,ntmps103
 go_wp2_with (go_at_call 45;refine HA.mono ?_;rintro e w1 ⟨N,rfl,_,_,ae⟩)
 refine ig (v:=.tuple #[I6 0,.bool false]) (by simp[results,results103,go_sem]) rfl ?_;exact⟨by rw[HE.o],ae⟩
section
attribute [local go_sem] nj
theorem eI {W:World} {b:Nat} {u v:Value} {t:TypeId} (h:W.heap[b]?=some (.cells #[u,v] t (0,0))) :
 W.cell? ⟨b,0,none⟩=some u/\W.cell? ⟨b,1,none⟩=some v/\W.frozen? ⟨b,0,none⟩=false/\W.frozen? ⟨b,1,none⟩=false:=by
 refine⟨?_,?_,?_,?_⟩<;>simp[World.cell?,World.frozen?,h]
theorem dR {W:World} {b i:Nat} {v:Value} {aa:Array Value} {t:TypeId} {fr:Nat × Nat} (h:W.heap[b]?=some (.cells aa t fr)):(W.setCell ⟨b,i,none⟩ v).heap[b]?=some (.cells (aa.setIfInBounds i v) t fr):=by
 obtain⟨ab,hk⟩:=Array.getElem?_eq_some_iff.1 h;show(W.heap.modify b _)[b]?=_;rw[jc (by rw[ol];exact ab),Array.getElem_modify_self,hk];rfl
theorem aIs {tmps:Array Value} {W:World} {R:Nat} {x y v:Value} (h2:tmps.getD 2 undef=.pointer (So R 0)) (h3:tmps.getD 3 undef=.pointer (So (R+1) 0))
 (hR:W.heap[R]?=some (.cells #[x,y] 63 (0,0))) (hE:W.heap[R+1]?=some (.cells #[v] 31 (0,0))) :
 (results Tryz.f57 tmps).run prog W=.ok (.tuple #[.agg #[x,y],v]) W:=by
 have ab:tmps[2]?.getD undef=.pointer (So R 0):=by simpa using h2
 have aa:tmps[3]?.getD undef=.pointer (So (R+1) 0):=by simpa using h3
 obtain⟨c0,c1,_,_⟩:=eI hR;have e0:=(bB hE).1;simp[results,results57,go_sem,ab,aa,c0,c1,e0]
theorem aAk {w:World} {aa:Nat} {e:TypeId} {size n:Nat} {v:Value} {xs:List Value} (h:w.ownsRow aa e size v (n+1) xs):∃g cap,v=Sl (So g 0) (n+1) cap/\g<w.heap.size/\aa<=g:=by
 rcases h.2 with ⟨_,h0⟩|⟨g,cap,cur,rfl,hb,hh,_⟩
 ·omega
 ·exact⟨g,cap,rfl,(Array.getElem?_eq_some_iff.1 hh).1,hb⟩
theorem aCi {W W':World} {aa:Nat} {e:TypeId} {size n:Nat} {v:Value} {xs:List Value} (h:W.ownsRow aa e size v n xs) (hk:∀k o,v.ownBlock=some k->W.heap[k]?=some o->W'.heap[k]?=some o):W'.ownsRow aa e size v n xs:=by
 refine⟨h.1,?_⟩;rcases h.2 with h0|⟨g,cap,cur,rfl,hb,hh,r⟩
 ·exact .inl h0
 ·exact .inr ⟨g,cap,cur,rfl,hb,hk g _ rfl hh,r⟩
theorem kE {W:World} {aa:Nat} {e:TypeId} {size n:Nat} {v:Value} {xs:List Value} (h:W.ownsRow aa e size v n xs) (k:Nat) (hk:v.ownBlock=some k):aa<=k/\∃c f,W.heap[k]?=some (.cells c e f):=by
 rcases h.2 with ⟨rfl,_⟩|⟨g,cap,cur,rfl,hb,hh,r⟩
 ·cases hk
 ·cases hk;exact⟨hb,_,_,hh⟩
theorem aEv:(prog.info? 3).map (λi=>(i.zero,i.size,i.bytes))=some (some (I6 0),1,8):=by kernel_rfl
theorem aE9 {s:List UInt8} (h:(dW s).2=true):I64 (dW s).1:=by
 unfold dW aHw at *;cases hr:Lib.atoiAll s with
 | ok v=>exact Lib.atoiAll_bounds hr
 | _=>rw[hr] at h;simp at h
theorem aMp {A:World} {R:Nat} (hR:A.heap[R]?=some (.cells #[I6 0,Z0] 63 (0,0))) (hE:A.heap[R+1]?=some (.cells #[I6 0] 31 (0,0))) {w:World} (hB:Below R w A) :
 (((A.setCell ⟨R,0,none⟩ (I6 0)).setCell ⟨R,1,none⟩ Z0).setCell ⟨R+1,0,none⟩ (I6 13)).heap[R]?=some (.cells #[I6 0,Z0] 63 (0,0)) /\
 (((A.setCell ⟨R,0,none⟩ (I6 0)).setCell ⟨R,1,none⟩ Z0).setCell ⟨R+1,0,none⟩ (I6 13)).heap[R+1]?=some (.cells #[I6 13] 31 (0,0)) /\
 Below R w (((A.setCell ⟨R,0,none⟩ (I6 0)).setCell ⟨R,1,none⟩ Z0).setCell ⟨R+1,0,none⟩ (I6 13)):=by
 refine⟨?_,?_,((hB.setCell (p:=⟨R,0,none⟩) lr _).setCell (p:=⟨R,1,none⟩) lr _).setCell (p:=⟨R+1,0,none⟩) (mp _) _⟩
 ·exact(ij _ _ _ _ gl).trans (dR (dR hR))
 ·exact dR ((ij _ _ _ _ gl).trans ((ij _ _ _ _ gl).trans hE))
theorem rG (s:ByteArray) (hs:s.size<=1000000) (w:World) (hT:Tabs w) (hN:NumVars w) :
 Calls prog 57 #[Sv s] w λx w' =>
  ((∃(c:SC) (d:St),lS s.data.toList=some d/\x=.returned (.tuple #[c.v,I6 0])/\IsSt (λb=>w.heap.size<=b/\b<w'.heap.size) w' c d) \/
   (lS s.data.toList=none/\x=.returned (.tuple #[.agg #[I6 0,Z0],I6 13])))/\Below w.heap.size w w':=by
 obtain⟨n,hn⟩:=xe (9:Nat)
 rw[<-callsIn_wide (n:=n)];obtain⟨F,ar⟩:=xe Fence.wide
 have hF:∀f,F.fn f:=λf=>by rw[ar];trivial
 have cv:F.round=none:=by rw[ar];rfl
 have h1:1<=n:=ga
 have cw:=f8 hn;clear hn;have HC:=f8 (λ(k:Nat) (f:FuncId) (args:Array Value) (w:World) (R:Ending->World->Prop) (h:Calls prog f args w R)=>(show CallsIn F k prog f args w R by rw[ar];exact callsIn_wide.2 h));rw[<-ar];have cz:=f8 ar;clear ar;obtain⟨R,hR⟩:=xe w.heap.size
 obtain⟨A1,av⟩:=xe ((w.alloc (.cells #[I6 0,Z0] 63)).alloc (.cells #[I6 0] 31))
 have a0:A1.heap[R]?=some (.cells #[I6 0,Z0] 63 (0,0)):=by
  rw[av,hR];exact(iy _ _ _ ge).trans (mj w _)
 have a1:A1.heap[R+1]?=some (.cells #[I6 0] 31 (0,0)):=by
  rw[av,hR];have h:=mj (w.alloc (.cells #[I6 0,Z0] 63)) (.cells #[I6 0] 31);rwa[jb] at h
 have bg:Below R w A1:=by rw[av,hR];exact((bR w).alloc lr _).alloc ge _
 have cc:∀W,Below R w W->Tabs W:=λW h=>hT.below (by rw[hR] at h;exact h);have br:∀W,Below R w W->NumVars W:=λW h=>hN.below (by rw[hR] at h;exact h);obtain⟨p,hp⟩:=xe (Lib.cut s.data.toList [47])
 obtain⟨hd,bc⟩:=xe (⟨p.1.toArray⟩:ByteArray)
 obtain⟨tl,bd⟩:=xe (⟨p.2.1.toArray⟩:ByteArray)
 have a8:=sC s.data.toList [47];rw[zJ,<-hp] at a8;have be:hd.size<=1000000:=by rw[bc,bE];omega
 have bb:tl.size<=1000000:=by rw[bd,bE];omega
 have hcut:CallsIn F (n-1) prog 50 #[Sv s,Sv ⟨#[47]⟩] A1 λe w'=>e=.returned (.tuple #[Sv hd,Sv tl,.bool p.2.2])/\Below A1.heap.size A1 w':=by
  obtain⟨m,hm⟩:=(br A1 bg).2.2;refine HC.o _ _ _ _ _ ((Tryz.strings_Cut s ⟨#[47]⟩ m A1 ga hm).mono ?_);rintro e w' ⟨rfl,k,rfl⟩;exact⟨by rw[show(⟨#[47]⟩:ByteArray).data.toList=[47] from rfl,<-hp,<-bc,<-bd],below_drewN _ _⟩
 obtain⟨a7,ca,HR⟩:=h_3 hcut av hR;have cu:=f8 (ie a0 a1);obtain⟨ct,cj,b8⟩:=h_3 bg cc br;have HZ:=f8 (ie be bb);have HP:=f8 (show lS s.data.toList=(if (dW hd.data.toList).2=true/\(spl 46 tl.data.toList).all (λx=>(dW x).2)=true/\aZ ⟨(dW hd.data.toList).1,(spl 46 tl.data.toList).map λx=>(dW x).1⟩=0
  then some ⟨(dW hd.data.toList).1,(spl 46 tl.data.toList).map λx=>(dW x).1⟩ else none) by
  unfold lS;rw[<-hp,bc,bd])
 obtain⟨fl,ck⟩:=xe p.2.2
 rw[<-ck] at a7;rw[<-hR];clear hcut av hR a0 a1 bg cc br be bb a8 bc bd hp ck hT hN hs;refine callsIn_of_wp_marks func57 rfl (hF _) ?_ cv;simp only[ntmps57,oh,im,i7,Nat.reduceAdd,Nat.reduceSub,oy,ox,o0,oz,ji,jh]
 gi_upto_region 1 with (fail)
 rw[<-ca.o,<-HR.o]
 gi_upto_region 2 with (gi_at_call 50;refine a7.mono ?_;rintro e A2 ⟨rfl,ai⟩;have a4:=f8 ai;clear ai)
 obtain⟨B,hB⟩:=xe A2.heap.size
 obtain⟨A3,ax⟩:=xe (A2.alloc (.cells #[I6 0,Z0] 63))
 have bz:R<=A1.heap.size:=by rw[HR.o];exact ct.size
 have ci:R<=A2.heap.size:=io bz a4.size;have b2:Below R w A2:=ct.trans (a4.mono bz);have b3:Below R w A3:=by rw[ax];exact b2.alloc ci _
 have a3:A3.heap[B]?=some (.cells #[I6 0,Z0] 63 (0,0)):=by rw[ax,hB];exact mj A2 _
 have bk:R+2<=B:=by
  have h1:=a4.size;have h2:A1.heap.size=w.heap.size+2:=by rw[ca.o];simp
  rw[hB];rw[HR.o];omega
 have ac:=HC.o (n-1) _ _ _ _ (aAu hd HZ.1 A3 (cj.o _ b3) (b8.o _ b3));obtain⟨n1,bq⟩:=xe ((dW hd.data.toList).1)
 obtain⟨k1,bi⟩:=xe ((dW hd.data.toList).2)
 rw[<-bq,<-bi] at ac;have bj:=f8 ac;have au:=f8 (ie bq bi);obtain⟨dc,c8,bo,B3,H3⟩:=h_5 ax hB bk b3 a3;have ab:∀W,Below A3.heap.size A3 W->W.heap[R]?=some (.cells #[I6 0,Z0] 63 (0,0))/\W.heap[R+1]?=some (.cells #[I6 0] 31 (0,0))/\W.heap[B]?=some (.cells #[I6 0,Z0] 63 (0,0))/\Below R w W:=λW hW=>by
  have aw:=(Array.getElem?_eq_some_iff.1 a3).1;have up:∀(k:Nat) (o:Obj),A1.heap[k]?=some o->W.heap[k]?=some o:=λk o h=>by
   have h1:=(Array.getElem?_eq_some_iff.1 h).1;have h2:=a4.size;refine(hW.block k ga).trans ?_;rw[ax];exact(iy _ _ _ ga).trans ((a4.block k h1).trans h)
  exact⟨up _ _ cu.1,up _ _ cu.2,(hW.block B aw).trans a3,b3.trans (hW.mono (by have:=b3.size;rw[HR.o] at *;omega))⟩
 have bn:=f8 ab;clear ac bq bi b2 b3 a3 bk ab bz ci ax hB
 gi_upto_region 3 with (fail)
 rw[<-dc.o,<-c8.o]
 gi_upto_region 5 with (gi_at_call 103;go_loud (refine bj.mono ?_);rintro e A4 ⟨rfl,ce⟩;obtain⟨cf,cp,b5,b4⟩:=bn.o A4 ce;obtain⟨df,c6,cy,c3⟩:=eI b5;have H4:=f8 (ie cf (ie cp (ie b5 b4)));clear ce cf cp b5 b4)
 obtain⟨A5,bp⟩:=xe (A4.setCell ⟨B,0,none⟩ (I6 n1))
 have s5:A5.heap[R]?=some (.cells #[I6 0,Z0] 63 (0,0))/\A5.heap[R+1]?=some (.cells #[I6 0] 31 (0,0))/\A5.heap[B]?=some (.cells #[I6 n1,Z0] 63 (0,0))/\Below R w A5:=by
  obtain⟨h1,h2,h3,h4⟩:=H4.o;have:=bo.o;rw[bp];exact⟨(ij A4 _ _ _ gl).trans h1,(ij A4 _ _ _ gl).trans h2,dR h3,h4.setCell (p:=⟨B,0,none⟩) gl _⟩
 rw[<-bp];have S5:=f8 s5;clear bp df c6 cy c3 s5;obtain⟨p0,p1,g0,g1⟩:=eI S5.1;obtain⟨q0,r0⟩:=bB S5.2.1;cases k1
 ·gi_wp2
  obtain⟨e1,e2,e3⟩:=aMp S5.1 S5.2.1 S5.2.2.2;refine⟨_,aIs (R:=R) (x:=I6 0) (y:=Sl none 0 0) (v:=I6 13) rfl rfl e1 e2,.inr ⟨?_,rfl⟩,?_⟩
  ·rw[HP.o,f9 (λh=>by rw[<-au.2] at h;cases h.1)]
  ·exact e3
 gi_wp2_with (gi_at_call 104;refine(HC.o _ _ _ _ _ (yV tl ⟨#[46]⟩ A5)).mono ?_;rintro e A6 ⟨rfl,ak⟩)
 obtain⟨bs,am⟩:=xe A5.heap.size
 have dd:B<bs:=by rw[am];exact(Array.getElem?_eq_some_iff.1 S5.2.2.1).1
 have cx:A6.heap.size=bs+3:=by rw[ak,am];simp
 have k0:A6.heap[bs]?=some (.cells #[Sv tl] 9 (0,0)):=by
  rw[ak,am];exact(iy _ _ _ gi).trans ((iy _ _ _ ge).trans (mj A5 _))
 have k1:A6.heap[bs+1]?=some (.cells #[Sv ⟨#[46]⟩] 9 (0,0)):=by
  rw[ak,am];refine(iy _ _ _ ge).trans ?_;have h:=mj (A5.alloc (.cells #[Sv tl] 9)) (.cells #[Sv ⟨#[46]⟩] 9);rwa[jb] at h
 have k2:A6.heap[bs+2]?=some (.cells #[I6 0] 3 (0,0)):=by
  rw[ak,am];have h:=mj ((A5.alloc (.cells #[Sv tl] 9)).alloc (.cells #[Sv ⟨#[46]⟩] 9)) (.cells #[I6 0] 3);rwa[jb,jb] at h
 have a9:∀k o,A5.heap[k]?=some o->A6.heap[k]?=some o:=λk o h=>by
  have aw:=(Array.getElem?_eq_some_iff.1 h).1;rw[ak];exact(iy _ _ _ gi).trans ((iy _ _ _ gi).trans ((iy _ _ _ aw).trans h))
 have b6:Below R w A6:=by
  have h:=S5.2.2.2;have h0:=bo.o;rw[ak];exact((h.alloc ga _).alloc gi _).alloc gi _
 have i6:=ie (a9 _ _ S5.1) (ie (a9 _ _ S5.2.1) (a9 _ _ S5.2.2.1));have bk:=bo.o;rw[<-am];rw[<-ak];have da:=aC3 F cz.o 46 (n-1) (by have:=cw.o;omega) tl HZ.2 bs A6 k0 k1 k2;obtain⟨dj,dh⟩:=h_2 ak am;clear ak am k0 k1 k2 a9 p0 p1 g0 g1 q0 r0;refine aN1 hF cv h1 (w0:=A6) (xs:=fC 46 tl) (bs:=bs) (Bx:=[bs,bs+1,bs+2]) gh (λargs w=>by simp[go_sem,callFunc];rfl) gh da (gx _ _) ga gi
  (λp W=>Below R w W/\W.heap[R]?=some (.cells #[I6 0,Z0] 63 (0,0))/\W.heap[R+1]?=some (.cells #[I6 0] 31 (0,0))/\(∃v,W.heap[B]?=some (.cells #[I6 n1,v] 63 (0,0))/\W.ownsRow A6.heap.size 3 1 v p.length (p.map λx=>I6 (dW x.data.toList).1))/\(∀x∈p,(dW x.data.toList).2=true)/\A6.heap.size<=W.heap.size)
  (λp W=>Below R w W/\W.heap[R]?=some (.cells #[I6 0,Z0] 63 (0,0))/\W.heap[R+1]?=some (.cells #[I6 13] 31 (0,0))/\∃x∈fC 46 tl,(dW x.data.toList).2=false)
  ?hI ?hIx ?h0 (λx=>{ tmps:=#[Sv s,undef,Pt R 0,Pt (R+1) 0,Sv hd,Sv tl,.bool fl,Pt B 0,.bool true,Sv x,undef,undef,.tuple #[Sv hd,Sv tl,.bool fl],Sv s,.tuple #[Sv hd,Sv tl,.bool fl],Sv hd,Sv tl,.bool fl,.tuple #[I6 n1,.bool true],Sv hd,.tuple #[I6 n1,.bool true],I6 n1,.bool true,Pt B 0,.bool true,.bool false,undef,Sv tl,.func (.func 210) #[] #[Pt (bs+1) 0,Pt bs 0,Pt (bs+2) 0],Sv x,undef,undef,undef,undef,undef,undef,undef,undef,undef,undef,undef,undef,undef,undef,undef,undef,undef,undef,undef],defers:=[] }) ?hassign ?hbody ?hdone ?hstop
 case hI =>
  rintro p X Y row ⟨h1,h2,h3,⟨v,h4,h5⟩,h6,h7⟩ hg ae;have hn:∀k,k<bs->some k≠row:=λk hk e=>by
   rcases ae k e.symm with h|⟨h,_⟩<;>omega
  have bt:=h1.size;refine⟨h1.grown hg (by rw[HR.o];exact bt) (λk e=>by rcases ae k e with h|⟨h,_⟩<;>omega),(hg.block R (Array.getElem?_eq_some_iff.1 h2).1 (hn R ga)).trans h2,(hg.block (R+1) (Array.getElem?_eq_some_iff.1 h3).1 (hn (R+1) ga)).trans h3,⟨v,(hg.block B (Array.getElem?_eq_some_iff.1 h4).1 (hn B dd)).trans h4,h5.kept hg ?_⟩,h6,io h7 hg.size⟩;rcases h5.2 with ⟨rfl,_⟩|⟨g,cap,cur,rfl,hb,hh,_⟩
  ·exact .inl rfl
  ·refine .inr λe=>?_;rcases ae g (by simpa [Value.ownBlock] using e.symm) with h|⟨_,o,ho,hc⟩
   ·omega
   ·rw[hh] at ho;cases ho;cases hc
 case hIx =>
  rintro p X Y row ⟨h1,h2,h3,h6⟩ hg ae;have hn:∀k,k<bs->some k≠row:=λk hk e=>by
   rcases ae k e.symm with h|⟨h,_⟩<;>omega
  have bt:=h1.size;exact⟨h1.grown hg (by rw[HR.o];exact bt) (λk e=>by rcases ae k e with h|⟨h,_⟩<;>omega),(hg.block R (Array.getElem?_eq_some_iff.1 h2).1 (hn R ga)).trans h2,(hg.block (R+1) (Array.getElem?_eq_some_iff.1 h3).1 (hn (R+1) ga)).trans h3,h6⟩
 case h0=>exact⟨b6,i6.1,i6.2.1,⟨_,i6.2.2,lf _ _ _ _⟩,λx hx=>absurd hx ge,gy _⟩
 case hassign =>
  intro l x W K hK
  gi_wp2
  exact hK
 case hbody =>
  rintro l p x W ⟨ag,hr,he,⟨v,hb,aa⟩,af,a5⟩ bl;have an:x∈fC 46 tl:=bl.subset ge;have cb:x.size<=1000000:=io (aAb _ _ _ an) HZ.2;have ac:=mo l (HC.o (n-1-1-1) _ _ _ _ (aAu x cb W (cj.o _ ag) (b8.o _ ag)));obtain⟨m,hm⟩:=xe ((dW x.data.toList).1)
  obtain⟨k,hk⟩:=xe ((dW x.data.toList).2)
  rw[<-hm,<-hk] at ac;have bx:p.length+1<=1000001:=by
   have h1:=bl.length_le;have h2:=qG 46 tl;have h3:=HZ.2;simp at h1;omega
  have ab:∀W2,Below W.heap.size W W2->W2.heap[R]?=some (.cells #[I6 0,Z0] 63 (0,0))/\W2.heap[R+1]?=some (.cells #[I6 0] 31 (0,0))/\W2.heap[B]?=some (.cells #[I6 n1,v] 63 (0,0))/\Below R w W2/\W2.ownsRow A6.heap.size 3 1 v p.length (p.map λx=>I6 (dW x.data.toList).1):=λW2 h =>
   ⟨aB h hr,aB h he,aB h hb,ag.trans (h.mono (by have:=ag.size;rw[HR.o];exact this)),fS aa h⟩
  have c7:=f8 ac;have HM:=f8 (ie hm hk);obtain⟨HO,db,bu,c4,ch⟩:=h_5 ab af an bx a5;have HW:=f8 (ie hr (ie he (ie hb (ie ag aa))));clear ac hm hk ab af an bx hr he hb ag aa cb bl a5
  gi_upto_region 10 with ((try refine⟨hF _,?_⟩);(try refine⟨λ_=>(by have:=cw.o;omega),?_⟩);gi_at_call 103;refine c7.mono ?_;rintro e W2 ⟨rfl,ai⟩;have aq:=f8 ai;clear ai)
  obtain⟨z1,z2,z3,z4,z5⟩:=HO.o _ aq.o;obtain⟨p0,p1,g0,g1⟩:=eI z1;obtain⟨q0,r0⟩:=bB z2;obtain⟨u0,u1,t0,t1⟩:=eI z3;have Z:=f8 (ie z1 (ie z2 (ie z3 (ie z4 z5))));clear z1 z2 z3 z4 z5;cases k
  ·gi_wp2
   obtain⟨e1,e2,e3⟩:=aMp Z.1 Z.2.1 Z.2.2.2.1;refine⟨⟨by have:=aq.size;simp[World.setCell];omega,λk o hk ho=>?_⟩,e3,e1,e2,x,bu.o,HM.2.symm⟩;have hz:∀j,(∃c t f,W.heap[j]?=some (.cells c t f))->k≠j:=by
    rintro j ⟨c,t,f,h⟩ rfl;rw[h] at hk;cases hk;cases ho
   have bf:=(aq.block k (Array.getElem?_eq_some_iff.1 hk).1).trans hk;have n1:k≠R:=hz R ⟨_,_,_,HW.1⟩;have n2:k≠R+1:=hz (R+1) ⟨_,_,_,HW.2.1⟩;exact(ij _ _ _ _ gl).trans ((ij _ _ _ _ gl).trans ((ij _ _ _ _ gl).trans bf))
  ·clear p0 p1 g0 g1 q0 r0;obtain⟨ti,hi,c5,be,bb⟩:=jr aEv;have bx:=c4.o;have a2:p.length+1<=maxLen:=by unfold maxLen;omega
   have az:(p.length+1) * 8<=140737488355328:=ga
   have dm:A6.heap.size<=W2.heap.size:=by
    have h1:=aq.size;have h2:=ch.o;omega
   have cl:=f8 (show ∀k,k<A6.heap.size->some k≠v.ownBlock from λk hk e=>by have:=(World.ownsRow.lt Z.2.2.2.2 k e.symm).1;omega);have cd:f7 (∀w5,(W2.alloc (.cells #[I6 m] 3)).grownBy w5 v.ownBlock->w5.heap[B]?=some (.cells #[I6 n1,v] 63 (0,0))):=f8 λw5 h=>by
    have h1:=Z.2.2.1;have h2:=(Array.getElem?_eq_some_iff.1 h1).1;exact(h.block B gi (cl.o B ga)).trans ((iy _ _ _ h2).trans h1)
   gi_wp2_with (gi_at_builtin;go_loud (refine wpListIn_append_own_at _ gh _ _ 61 gh A6.heap.size 3 ti _ 1 8 underlying61 hi c5 be bb rfl ga v p.length _ gh (Z.2.2.2.2.alloc _) ⟨W2.heap.size,0,none⟩ 1 1 [I6 m] gh gh (cell_one_new _ _ _) gj a2 az gi ?_;intro v' w5 aj ah b7 a6;obtain⟨g,cap,rfl,c2⟩:=aAk aj;obtain⟨cm,HG,di⟩:=h_3 aj ah a6;obtain⟨y0,y1,y2,y3⟩:=eI (cd.o w5 ah);clear aj ah b7 a6 u0 u1 t0 t1 c2))
   have cq:∀k o,W.heap[k]?=some o->some k≠v.ownBlock->k≠B->(w5.setCell ⟨B,1,none⟩ (Sl (So g 0) (p.length+1) cap)).heap[k]?=some o:=λk o h h1 h2=>by
    have hk:=(Array.getElem?_eq_some_iff.1 h).1;refine(ij _ _ _ _ gl).trans ?_;have h3:=aq.size;exact(HG.block k gi h1).trans ((iy _ _ _ ga).trans ((aq.block k hk).trans h))
   have de:=HG.size;simp only[jb] at de;have dk:=aq.size;have a5:=ch.o;have b1:∀k o,k<A6.heap.size->k≠B->W.heap[k]?=some o->(w5.setCell ⟨B,1,none⟩ (Sl (So g 0) (p.length+1) cap)).heap[k]?=some o:=λk o h1 h2 h=>cq k o h (cl.o k h1) h2;refine⟨⟨by simp[World.setCell];omega,λk o hk ho=>?_⟩,λk hk=>?_,?_,b1 _ _ ga ga HW.1,b1 _ _ ga ga HW.2.1,⟨_,dR (cd.o w5 HG.o),?_⟩,λy hy=>?_,by simp[World.setCell];omega⟩
   ·refine cq k o hk (λe=>?_) (λe=>?_)
    ·obtain⟨_,c,f,h⟩:=kE HW.2.2.2.2 k e.symm;rw[h] at hk;cases hk;cases ho
    ·subst e;rw[HW.2.2.1] at hk;cases hk;cases ho
   ·have dp:bs<=k/\k<bs+3:=by simp at hk;omega
    have aw:k<W.heap.size:=ga
    have bf:W.heap[k]?=some W.heap[k]:=jc aw;rw[bf];exact b1 k _ ga ga bf
   ·have h1:=(Z.2.2.2.1.alloc (by rw[HR.o];exact Z.2.2.2.1.size) (.cells #[I6 m] 3)).grown HG.o (by rw[HR.o];have:=Z.2.2.2.1.size;simp;omega) (λk e=>by have:=(World.ownsRow.lt Z.2.2.2.2 k e).1;omega);exact h1.setCell (p:=⟨B,1,none⟩) gl _
   ·rw[ik,kh,py,List.map_singleton,<-HM.1];exact aCi cm.o λk o hk h=>(ij _ _ _ _ (by
     have:=(kE cm.o k hk).1;dsimp only;omega)).trans h
   ·rcases List.mem_append.1 hy with hy|hy
    ·exact db.o y hy
    ·obtain rfl:=List.mem_singleton.1 hy;exact HM.2.symm
 case hdone =>
  rintro D W hD ⟨ag,hr,he,⟨v,hb,aa⟩,af,a5⟩ ba;have ao:(fC 46 tl).length<=1000001:=by
   have h2:=qG 46 tl;have h3:=HZ.2;omega
  have ay:(fC 46 tl).map (λx=>I6 (dW x.data.toList).1)=((fC 46 tl).map λx=>(dW x.data.toList).1).map (Value.int .i64):=by rw[List.map_map];rfl
  have al:∀z∈(fC 46 tl).map (λx=>(dW x.data.toList).1),I64 z:=λz hz=>by
   obtain⟨x,hx,rfl⟩:=List.mem_map.1 hz;exact aE9 (af x hx)
  rw[ay] at aa;obtain⟨a,c,rfl,ad⟩:=oE aa ga al;obtain⟨zs,bm⟩:=xe ((fC 46 tl).map (λx=>(dW x.data.toList).1))
  have bh:=f8 (show lS s.data.toList=if aZ ⟨n1,zs⟩=0 then some ⟨n1,zs⟩ else none by
   have e1:(spl 46 tl.data.toList).map (λx=>(dW x).1)=zs:=by rw[bm];unfold fC;rw[List.map_map];rfl
   have e2:(spl 46 tl.data.toList).all (λx=>(dW x).2)=true:=by
    rw[oc];intro z hz;exact af ⟨z.toArray⟩ (by unfold fC;exact List.mem_map.2 ⟨z,hz,rfl⟩)
   rw[HP.o,e1,e2,<-au.2,<-au.1];simp only[true_and])
  rw[<-bm] at aa ad al;obtain⟨nz,cg⟩:=xe ((fC 46 tl).length)
  rw[<-cg] at aa ad ao hb;have ap:I64 n1:=by rw[au.1];exact aE9 au.2.symm
  have cn:IsSt (λb=>A6.heap.size<=b/\b<W.heap.size) W ⟨n1,a,nz,c⟩ ⟨n1,zs⟩:=⟨rfl,ap,ad⟩
  have b0:=HC.o (n-1) _ _ _ _ (eD _ ⟨n1,a,nz,c⟩ ⟨n1,zs⟩ W W cn (λb hb=>⟨hb.2,rfl⟩));obtain⟨E,hE⟩:=xe (aZ ⟨n1,zs⟩)
  rw[<-hE] at b0 bh;have co:=f8 b0;have ab:∀W2,Below W.heap.size W W2->W2.heap[R]?=some (.cells #[I6 0,Z0] 63 (0,0))/\W2.heap[R+1]?=some (.cells #[I6 0] 31 (0,0))/\W2.heap[B]?=some (.cells #[I6 n1,Sl a nz c] 63 (0,0))/\Below R w W2/\W2.ownsRow A6.heap.size 3 1 (Sl a nz c) nz (zs.map (Value.int .i64))/\W2.heap[D]?=some (.deferred (some [])):=λW2 h =>
   ⟨aB h hr,aB h he,aB h hb,ag.trans (h.mono (by have:=ag.size;rw[HR.o];exact this)),fS aa h,aB h ba⟩
  have HO:=f8 ab;have HI:=f8 (ie al (ie ap ao));obtain⟨u0,u1,_,_⟩:=eI hb;clear ag hr he hb aa af a5 ba ay al ad bm cg ap cn b0 hE ab ao;have dl:R+1<D/\B<D:=⟨by omega,by omega⟩
  by_cases h0:E=0
  ·subst h0
   gi_wp2_with (gi_at_call 105;refine co.mono ?_;rintro e W2 ⟨rfl,ai⟩;have Z:=f8 (HO.o W2 ai);obtain⟨p0,p1,g0,g1⟩:=eI Z.1;obtain⟨q0,r0⟩:=bB Z.2.1;obtain⟨t0,t1,_,_⟩:=eI Z.2.2.1;clear ai u0 u1)
   obtain⟨z1,z2,z3,z4,z5,z6⟩:=Z.o;have hf:∀k o,k≠R->k≠R+1->W2.heap[k]?=some o->(((W2.setCell ⟨R,0,none⟩ (I6 n1)).setCell ⟨R,1,none⟩ (Sl a nz c)).setCell ⟨R+1,0,none⟩ (I6 0)).heap[k]?=some o:=λk o h1 h2 h =>
    (ij _ _ _ _ gl).trans ((ij _ _ _ _ gl).trans ((ij _ _ _ _ gl).trans h))
   have dg:(((W2.setCell ⟨R,0,none⟩ (I6 n1)).setCell ⟨R,1,none⟩ (Sl a nz c)).setCell ⟨R+1,0,none⟩ (I6 0)).heap[R]?=some (.cells #[I6 n1,Sl a nz c] 63 (0,0)) :=
    (ij _ _ _ _ gl).trans (dR (dR z1))
   have cR:(((W2.setCell ⟨R,0,none⟩ (I6 n1)).setCell ⟨R,1,none⟩ (Sl a nz c)).setCell ⟨R+1,0,none⟩ (I6 0)).heap[R+1]?=some (.cells #[I6 0] 31 (0,0)) :=
    dR ((ij _ _ _ _ gl).trans ((ij _ _ _ _ gl).trans z2))
   have b9:Below R w (((W2.setCell ⟨R,0,none⟩ (I6 n1)).setCell ⟨R,1,none⟩ (Sl a nz c)).setCell ⟨R+1,0,none⟩ (I6 0)) :=
    ((z4.setCell (p:=⟨R,0,none⟩) lr _).setCell (p:=⟨R,1,none⟩) lr _).setCell (p:=⟨R+1,0,none⟩) (mp _) _
   have bv:=hf D _ ga ga z6;have cr:=aCi z5 λk o hk h=>hf k o (by have:=(kE z5 k hk).1;omega) (by have:=(kE z5 k hk).1;omega) h;generalize ((W2.setCell ⟨R,0,none⟩ (I6 n1)).setCell ⟨R,1,none⟩ (Sl a nz c)).setCell ⟨R+1,0,none⟩ (I6 0)=Wf at *;refine⟨by simp,.inl ⟨_,_,rfl,ni bv,?_⟩⟩;have cL:=b9.grown (o4 Wf D (.deferred none)) (by rw[HR.o];exact b9.size) (λk e=>by cases e;omega)
   refine⟨_,aIs (R:=R) (x:=I6 n1) (y:=Sl a nz c) (v:=I6 0) rfl rfl ((jx ga).trans dg) ((jx ga).trans cR),.inl ⟨⟨n1,a,nz,c⟩,⟨n1,zs⟩,?_,rfl,rfl,HI.2.1,?_⟩,cL⟩
   ·rw[bh.o];simp
   ·have ho:=aCi (W':=Wf.putObj D (.deferred none)) cr λk o hk h=>(jx (λe=>by
     subst e;obtain⟨_,c',f',h'⟩:=kE cr _ hk;rw[h'] at bv;cases bv)).trans h
    obtain⟨a',c',e',c9⟩:=oE ho (by have:=HI.2.2;omega) HI.1;cases e'
    exact c9.same λb hb=>⟨⟨by have:=hb.1;omega,hb.2⟩,rfl⟩
  ·have dq:(E==0)=false:=by simp;exact h0
   have dn:(E != 0)=true:=by simp;exact h0
   have H0:=f8 h0;clear h0
   gi_wp2_with (gi_at_call 105;refine co.mono ?_;rintro e W2 ⟨rfl,ai⟩;have Z:=f8 (HO.o W2 ai);obtain⟨p0,p1,g0,g1⟩:=eI Z.1;obtain⟨q0,r0⟩:=bB Z.2.1;clear ai u0 u1)
   obtain⟨e1,e2,e3⟩:=aMp Z.1 Z.2.1 Z.2.2.2.1;have e4:(((W2.setCell ⟨R,0,none⟩ (I6 0)).setCell ⟨R,1,none⟩ Z0).setCell ⟨R+1,0,none⟩ (I6 13)).heap[D]?=some (.deferred (some [])) :=
    (ij _ _ _ _ gl).trans ((ij _ _ _ _ gl).trans ((ij _ _ _ _ gl).trans Z.2.2.2.2.2))
   generalize ((W2.setCell ⟨R,0,none⟩ (I6 0)).setCell ⟨R,1,none⟩ Z0).setCell ⟨R+1,0,none⟩ (I6 13)=Wf at *;refine⟨by simp,.inl ⟨_,_,rfl,ni e4,?_⟩⟩;refine⟨_,aIs (R:=R) (x:=I6 0) (y:=Sl none 0 0) (v:=I6 13) rfl rfl ((jx ga).trans e1) ((jx ga).trans e2),.inr ⟨?_,rfl⟩,?_⟩
   ·rw[bh.o,f9 H0.o]
   ·exact e3.grown (o4 Wf D _) (by rw[HR.o];exact e3.size) (λk e=>by cases e;omega)
 case hstop =>
  rintro D p W hD ⟨ag,hr,he,x,hx,bw⟩ ba
  gi_wp2
  refine⟨by simp,.inl ⟨_,_,rfl,ni ba,?_⟩⟩;refine⟨_,aIs (R:=R) (x:=I6 0) (y:=Sl none 0 0) (v:=I6 13) rfl rfl ((jx ga).trans hr) ((jx ga).trans he),.inr ⟨?_,rfl⟩,?_⟩
  ·rw[HP.o,f9];rintro⟨_,h,_⟩;obtain⟨z,hz,rfl⟩:∃z,z∈spl 46 tl.data.toList/\(⟨z.toArray⟩:ByteArray)=x:=by unfold fC at hx;exact List.mem_map.1 hx
   have:=List.all_eq_true.1 h z hz;rw[show(⟨z.toArray⟩:ByteArray).data.toList=z from rfl] at bw;rw[this] at bw;cases bw
  ·exact ag.grown (o4 W D _) (by rw[HR.o];exact ag.size) (λk e=>by cases e;omega)
end
end Go.Proofs.YtoodnaghjpkjfaaGreatDoor
