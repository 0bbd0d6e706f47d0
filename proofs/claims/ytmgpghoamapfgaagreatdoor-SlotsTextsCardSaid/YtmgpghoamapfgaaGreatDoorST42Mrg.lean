/- A part. -/
import Derived.Test.YtmgpghoamapfgaaGreatDoorST38Mrg
import Derived.Test.YtmgpghoamapfgaaGreatDoorST32Mrg
import Derived.Test.YtmgpghoamapfgaaGreatDoorST39Mrg
namespace Go.Proofs.YtmgpghoamapfgaaGreatDoor
set_option linter.unusedVariables false
set_option maxRecDepth 100000
set_option maxHeartbeats 16000000
set_option linter.unusedSimpArgs false
section
open Go Go.RowKit Go.Shelf
attribute [local go_sem] Oper.semAt_some
def lnS (s:ByteArray):List ByteArray:=(lns s.data.toList).map fun l=>⟨l.toArray⟩
theorem aDq {x:ByteArray} (h:x.size=0):lnS x=[]:=by
 unfold lnS;rw[show x.data.toList=[] from List.eq_nil_of_length_eq_zero (by rw[xM,h])];rfl
theorem aMk {x:ByteArray} (h:lns x.data.toList=[x.data.toList]):lnS x=[x]:=by
 unfold lnS;rw[h];rfl
theorem lnS_hit {x:ByteArray} {i:Nat} (h:lns x.data.toList=x.data.toList.take (i+1) :: lns (x.data.toList.drop (i+1))):lnS x=x.extract 0 (i+1) :: lnS (x.extract (i+1) x.size):=by
 unfold lnS;rw[h,List.map_cons];congr 1
 ·apply ByteArray.ext;apply Array.ext';exact(Lib.extract_from_zero x (i+1)).symm
 ·rw[Lib.extract_to_end]
theorem lineIt (F:Fence) (hFe:F=Fence.wide) (hF:∀f,F.fn f) (hro:F.round=none) (n:Nat) (h1:1<=n) (l bs M:Nat) (s:ByteArray) (hs:s.size<=1000000000)
 (hix:∀(x:ByteArray) (w:World),CallsIn F (n-1) Tryz.prog 145 #[.string x,.int .u8 10] w fun e w'=>e=.returned (I6 (Lib.index x.data.toList [10]))/\w'=w)
 (J Jx:List ByteArray->World->Prop) (hJ:AbT (· = bs) J)
 (hY:∀p x W1,J p W1->M<=W1.heap.size->p++[x] <+: lnS s->YieldAt F (n-1) Tryz.prog l #[.string x] W1 fun e W' =>
   ((e=.returned (.bool true)/\J (p++[x]) W')\/(e=.returned (.bool false)/\Jx (p++[x]) W'))/\W1.heap.size<=W'.heap.size/\∀k,k=bs->k<W1.heap.size->W'.heap[k]?=W1.heap[k]?)
 (W:World) (hM:M<=W.heap.size) (hS:W.heap[bs]?=some (.cells #[.string s] 9 (0,0))) (h0:J [] W) :
 CallsIn F n Tryz.prog 144 #[.func (.yield l) #[] #[],.pointer (some ⟨bs,0,none⟩)] W fun e W'=>(∃v,e=.returned v)/\(J (lnS s) W'\/∃p,Jx p W'):=by
 have HFE:=hid hFe;clear hFe;have HIX:=hid hix;have HY:=hid hY;have HJ:=hid hJ;have HS0:=hid hS;have H0:=hid h0;have HM:=hid hM;clear hix hY hJ hS h0 hM;refine callsIn_of_wp Tryz.func144 rfl (hF _) ?_ hro;simp only[Tryz.ntmps144,List.size_toArray,List.length_cons,List.length_nil,Nat.reduceAdd,Nat.reduceSub,Array.replicate_succ,Array.replicate_zero,List.push_toArray,List.append_toArray,List.nil_append,List.cons_append]
 gi_wp2
 gi_loopw [] (fun wr=>∃(p:List ByteArray) (x:ByteArray),wr.heap[bs]?=some (.cells #[.string x] 9 (0,0))/\p++lnS x=lnS s/\x.size<=s.size/\M<=wr.heap.size/\J p wr)
  (fun wr=>eP bs wr)
 case atStart=>exact⟨[],s,HS0.out,rfl,Nat.le_refl _,HM.out,H0.out⟩
 case round =>
  obtain⟨p,x,hS,hx,hxs,hMr,hJp⟩:=hrel;obtain⟨c0,f0⟩:=aY hS;have HX:=hid hx;have HXS:=hid hxs;have HSx:=hid hS;have HJp:=hid hJp;have HMr:=hid hMr;clear hx hS hJp hMr;by_cases hz:x.size=0
  ·have hz':¬ (0:Int)<(x.size:Int):=by omega
   have HE:=hid (show p=lnS s by rw[<-HX.out,aDq hz,List.append_nil]);clear hz hxs
   gi_wp2
   go_end0
   exact⟨⟨_,rfl⟩,.inl (by rw[<-HE.out];exact HJp.out)⟩
  have hz':(0:Int)<(x.size:Int):=by omega
  have HZ:=hid hz;rcases aJv x.data.toList (fun e=>hz (by rw[<-xM,e];rfl)) with ⟨k1,k2⟩ | ⟨i,k1,k2,k3⟩
  ·have hIX:=HIX.out x wr;rw[k1] at hIX;have HI:=hid hIX;have he:p++[x]=lnS s:=by rw[<-HX.out,aMk k2]
   obtain⟨W1,hW1⟩:=ez (wr.setCell ⟨bs,0,none⟩ (.string ⟨#[]⟩))
   have hs1:W1.heap.size=wr.heap.size:=by rw[hW1];simp[World.setCell]
   have hb1:W1.heap[bs]?=some (.cells #[.string ⟨#[]⟩] 9 (0,0)):=by rw[hW1];exact Boxed.set (W:=wr) (B:=bs) (t:=9) (v:=.string x) _ HSx.out
   have hJ1:J p W1:=by rw[hW1];exact HJ.out _ _ _ HJp.out (Turn.of_grown (grownBy_setCell' wr bs _) (fun r e=>by cases e;rfl))
   obtain⟨fn,tmps,assign,body,hy,hR⟩:=HY.out p x W1 hJ1 (by rw[hs1];exact HMr.out) (by rw[he];exact List.prefix_refl _);have HR:=hid hR;have HE:=hid he;have HB1:=hid hb1;have HS1:=hid hs1;rw[hW1] at hy;have HW1:=hid hW1;clear hIX k1 k2 hR he hz hxs hb1 hs1 hJ1 hW1
   gi_wp2_with (gi_at_call 145;refine HI.out.mono ?_;rintro e w2 ⟨rfl,hw⟩;obtain rfl:=hw)
   rw[<-HW1.out];refine HR.out.mono ?_;rintro e W3 ⟨(⟨rfl,hJ3⟩ | ⟨rfl,hJx3⟩),hz3,hk3⟩
   ·have hS3:=(hk3 bs rfl (ltOf HB1.out)).trans HB1.out;obtain⟨d0,g0⟩:=aY hS3;have HS3:=hid hS3;have HJ3:=hid hJ3;have HZ3:=hid hz3;clear hS3 hJ3 hk3 c0 f0 hy hz3
    gi_wp2
    go_roundw
    case rel=>exact⟨p++[x],⟨#[]⟩,HS3.out,by rw[HE.out,aDq (x:=⟨#[]⟩) rfl,List.append_nil],Nat.zero_le _,by have:=HMr.out;have:=HS1.out;have:=HZ3.out;omega,HJ3.out⟩
    case measure =>
     have e1:eP bs w2=x.size:=by unfold eP;rw[(aY HSx.out).1]
     have e2:eP bs W3=0:=by unfold eP;rw[(aY HS3.out).1];rfl
     rw[e2,e1];have:=HZ.out;omega
   ·gi_wp2
    refine bodyPost_ret (results_none rfl _ _ _) rfl ?_;exact⟨⟨_,rfl⟩,.inr ⟨_,hJx3⟩⟩
  ·have hIX:=HIX.out x wr;rw[k1] at hIX;have HI:=hid hIX;have hh:=lnS_hit k3;have he:(p++[x.extract 0 (i+1)])++lnS (x.extract (i+1) x.size)=lnS s:=by rw[<-HX.out,hh];simp
   have hix:i<x.size:=by rw[xM] at k2;exact k2
   obtain⟨W1,hW1⟩:=ez ((wr.setCell ⟨bs,0,none⟩ (.string (x.extract (i+1) x.size))).drew)
   have hs1:W1.heap.size=wr.heap.size:=by rw[hW1];simp[World.setCell,World.size_drew]
   have hb1:W1.heap[bs]?=some (.cells #[.string (x.extract (i+1) x.size)] 9 (0,0)):=by rw[hW1];exact Boxed.set (W:=wr) (B:=bs) (t:=9) (v:=.string x) _ HSx.out
   have hJ1:J p W1:=by rw[hW1];exact HJ.out _ _ _ HJp.out ((Turn.of_grown (grownBy_setCell' wr bs _) (fun r e=>by cases e;rfl)).trans (Turn.of_below (Below.refl _ _).drew))
   obtain⟨fn,tmps,assign,body,hy,hR⟩:=HY.out p (x.extract 0 (i+1)) W1 hJ1 (by rw[hs1];exact HMr.out) ⟨_,he⟩;have HR:=hid hR;have HE:=hid he;have HB1:=hid hb1;have HS1:=hid hs1;have HW1:=hid hW1;have b1:¬ ((i:Int)<0):=by omega
   have b2:(0:Int)<=(i:Int):=by omega
   have b3:(i:Int)+1<=(x.size:Int):=by omega
   have b4:wrap64 ((i:Int)+1)=(i:Int)+1:=by unfold wrap64;omega
   have b5:((i:Int)+1).toNat=i+1:=by omega
   have b6:(0:Int)<=(i:Int)+1:=by omega
   have b7:IntKind.i64.wrap ((i:Int)+1)=(i:Int)+1:=IntWalk.i64_in _ ga;have HK:=hid hix;clear hIX k1 k2 k3 hR he hh hix hxs hz hb1 hs1 hJ1 hW1
   gi_upto_region 4 with (gi_at_call 145;refine HI.out.mono ?_;rintro e w2 ⟨rfl,hw⟩;obtain rfl:=hw)
   refine sU HFE.out 9 { tmps:=#[.func (.yield l) #[] #[],.pointer (some ⟨bs,0,none⟩),undef,.string (x.extract 0 (i+1)),I6 (i:Int),.string x,I6 (x.size:Int),.bool true,.string x,I6 (i:Int),I6 (i:Int),.bool true,.string x,I6 (i:Int),I6 ((i:Int)+1),.string (x.extract 0 (i+1)),.string x,I6 (i:Int),I6 ((i:Int)+1),.string (x.extract (i+1) x.size),u20,u21,u22,u23,u24],defers:=[] } W1 ge ?_ ?_
   ·
    refine kI (i:=0) (oi:=_) (v:=?_) rfl gc ge ge ge ge ge (fun _ _ _ h=>by cases h.1) (Or.inl ⟨by rfl,?_⟩) (fun _=>rfl) ?_;rotate_left
    ·intro w' hw'
     (try rw[hw'])
     go_simp
     (try rfl)
    simp only[Act.put,pq];refine bO (i:=1) (oi:=_) (v:=?_) rfl gc ge ge ge (fun _ _ _ h=>by cases h.1) (Or.inl ⟨by rfl,?_⟩) (fun _=>rfl) ?_;rotate_left
    ·intro w' hw'

     go_simp
     (try rfl)
    simp only[Act.put,pq];refine bO (i:=2) (oi:=_) (v:=?_) rfl gc ge ge ge (fun _ _ _ h=>by cases h.1) (Or.inl ⟨by rfl,?_⟩) (fun _=>rfl) ?_;rotate_left
    ·intro w' hw'

     go_simp
     (try rfl)
    simp only[Act.put,pq];refine bO (i:=3) (oi:=_) (v:=?_) rfl gc ge ge ge (fun _ _ _ h=>by cases h.1) (Or.inl ⟨by rfl,?_⟩) (fun _=>rfl) ?_;rotate_left
    ·intro w' hw'

     go_simp
     (try rfl)
    simp only[Act.put,pq];refine kI (i:=4) (oi:=_) (v:=?_) rfl gc ge ge ge ge ge (fun _ _ _ h=>by cases h.1) (Or.inl ⟨by rfl,?_⟩) (fun _=>rfl) ?_;rotate_left
    ·intro w' hw'
     (try rw[hw'])
     go_simp
     (try rfl)
    simp only[Act.put,pq];refine bO (i:=5) (oi:=_) (v:=?_) rfl gc ge ge ge (fun _ _ _ h=>by cases h.1) (Or.inl ⟨by rfl,?_⟩) (fun _=>rfl) ?_;rotate_left
    ·intro w' hw'

     go_simp
     (try rfl)
    simp only[Act.put,pq];refine bO (i:=6) (oi:=_) (v:=?_) rfl gc ge ge ge (fun _ _ _ h=>by cases h.1) (Or.inl ⟨by rfl,?_⟩) (fun _=>rfl) ?_;rotate_left
    ·intro w' hw'

     go_simp
     (try rfl)
    simp only[Act.put,pq];refine bO (i:=7) (oi:=_) (v:=?_) rfl gc ge ge ge (fun _ _ _ h=>by cases h.1) (Or.inl ⟨by rfl,?_⟩) (fun _=>rfl) ?_;rotate_left
    ·intro w' hw'

     go_simp
     (try rfl)
    simp only[Act.put,pq];refine bO (i:=8) (oi:=_) (v:=?_) rfl gc ge ge ge (fun _ _ _ h=>by cases h.1) (Or.inl ⟨by rfl,?_⟩) (fun _=>rfl) ?_;rotate_left
    ·intro w' hw'

     go_simp
     (try rfl)
    simp only[Act.put,pq];refine oW (i:=9) (o:=_) ge ge rfl (fun K hK=>?_);go_simp;rw[<-HW1.out];refine hK.out _ _ ?_;clear hK K
    (try simp only[Act.put,pq])
    refine mR ge ?_ _;exact⟨rfl,rfl,rfl⟩
   gi_wp2
   refine HR.out.mono ?_;rintro e W3 ⟨(⟨rfl,hJ3⟩ | ⟨rfl,hJx3⟩),hz3,hk3⟩
   ·have hS3:=(hk3 bs rfl (ltOf HB1.out)).trans HB1.out;obtain⟨d0,g0⟩:=aY hS3;have HS3:=hid hS3;have HJ3:=hid hJ3;have HZ3:=hid hz3;clear hS3 hJ3 hk3 c0 f0 hy hz3
    gi_wp2
    go_roundw
    case rel=>exact⟨p++[x.extract 0 (i+1)],x.extract (i+1) x.size,HS3.out,HE.out,by rw[ByteArray.size_extract];have:=HXS.out;omega,by have:=HMr.out;have:=HS1.out;have:=HZ3.out;omega,HJ3.out⟩
    case measure =>
     have e1:eP bs w2=x.size:=by unfold eP;rw[(aY HSx.out).1]
     have e2:eP bs W3=(x.extract (i+1) x.size).size:=by unfold eP;rw[(aY HS3.out).1]
     rw[e2,e1,ByteArray.size_extract];have:=HK.out;omega
   ·gi_wp2
    refine bodyPost_ret (results_none rfl _ _ _) rfl ?_;exact⟨⟨_,rfl⟩,.inr ⟨_,hJx3⟩⟩
theorem aGv (s:ByteArray) (w:World):CP 80 #[.string s] w fun e w' =>
 e=.returned (.func (.func 144) #[] #[.pointer (some ⟨w.heap.size,0,none⟩)])/\w'=w.alloc (.cells #[.string s] 9):=by
 go_enter Tryz.func80,Tryz.ntmps80
 go_wp2;go_ret;exact⟨rfl,rfl⟩
theorem aK1 (F:Fence) (hFe:F=Fence.wide) (n:Nat) (h1:1<=n) (s:ByteArray) (hs:s.size<=1000000000) (bs S:Nat) (w0:World) (hS:w0.heap[bs]?=some (.cells #[.string s] 9 (0,0))) :
 SeqT F n Tryz.prog 144 #[.pointer (some ⟨bs,0,none⟩)] (fun x:ByteArray => #[.string x]) (· = bs) S S (fun _=>True) (lnS s) w0:=by
 subst hFe;intro l J Jx W hW hWS hJ hJx _ hY h0;have up:∀{k:Nat} {o:Obj},w0.heap[k]?=some o->W.heap[k]?=some o:=fun h=>(hW.block _ (Array.getElem?_eq_some_iff.1 h).1).trans h;refine lineIt Fence.wide rfl (fun _=>trivial) rfl n h1 l bs S s hs (fun x w=>callsIn_wide.2 ((Tryz.strings_IndexByte x 10 w).mono ?_)) J Jx hJ hY W ga (up hS) h0;rintro e w' ⟨rfl,rfl⟩;exact⟨by rw[Lib.index_one];rfl,rfl⟩
end
section
open Go Go.RowKit Go.Shelf
attribute [local go_sem] Oper.semAt_some
def sB (x:ByteArray):ByteArray × ByteArray:=jS x.data.toList
theorem aJj (s:ByteArray):(lnS s).map sB=jY s:=by
 unfold lnS jY sB;rw[List.map_map];rfl
abbrev encP (x:ByteArray × ByteArray):Array Value:=#[.string x.1,.string x.2]
theorem aAf {n m:Nat} {P:Program} {l l':Nat} {args:Array Value} {W:World} {R:Ending->World->Prop} (h:YieldAt Fence.wide n P l args W R):YieldAt (Fence.wide.inRound l') m P l args W R:=by
 obtain⟨fn,tmps,assign,body,hy,h1,h2⟩:=h;exact⟨fn,tmps,assign,body,hy,h1,fun c cs _=>h2 c cs (room_wide _)⟩
theorem aG4 (F:Fence) (hFe:F=Fence.wide) (n:Nat) (h1:5<=n) (s:ByteArray) (hs:s.size<=1000000000) (bx S:Nat) (w0:World) (hbx:w0.heap[bx]?=some (.cells #[.string s] 9 (0,0))) :
 SeqT F n Tryz.prog 79 #[.pointer (some ⟨bx,0,none⟩)] encP (fun k=>S<=k/\k<S+4) S (S+4) NumVars (jY s) w0:=by
 intro l J Jx W hW hWS hJ hJx hG hY h0;have hF:∀f,F.fn f:=fun f=>by rw[hFe];trivial
 have hro:F.round=none:=by rw[hFe];rfl
 have HC:=hid (fun (k:Nat) (f:FuncId) (args:Array Value) (w:World) (R:Ending->World->Prop) (h:CP f args w R)=>(show CallsIn F k Tryz.prog f args w R by rw[hFe];exact callsIn_wide.2 h));have hbW:W.heap[bx]?=some (.cells #[.string s] 9 (0,0)):=(hW.block _ (ltOf hbx)).trans hbx;have hbl:=ltOf hbW;obtain⟨V,hV⟩:=ez (W.alloc (.cells #[.func (.yield l) #[] #[]] 133))
 have hbV:V.heap[bx]?=some (.cells #[.string s] 9 (0,0)):=by rw[hV];exact aD _ hbW
 have hyV:V.heap[S]?=some (.cells #[.func (.yield l) #[] #[]] 133 (0,0)):=by rw[hV,<-hWS];exact heap_alloc_new W _
 have hVS:V.heap.size=S+1:=by rw[hV];simp[hWS]
 have hVT:Turn (fun k=>S<=k/\k<S+4) W V:=Turn.of_below (by rw[hV];exact(Below.refl _ W).alloc lr _);have hJV:=hJ _ _ _ h0 hVT;have c0:=(aY hbV).1;rw[hV] at c0;obtain⟨A,hA⟩:=ez (V.alloc (.cells #[.string s] 9))
 have hAS:A.heap.size=S+2:=by rw[hA];simp[hVS]
 have hbA:A.heap[S+1]?=some (.cells #[.string s] 9 (0,0)):=by rw[hA,<-hVS];exact heap_alloc_new V _
 have hyA:A.heap[S]?=some (.cells #[.func (.yield l) #[] #[]] 133 (0,0)):=by rw[hA];exact aD _ hyV
 have hJA:=hJ _ _ _ hJV (Turn.of_below (R:=fun k=>S<=k/\k<S+4) (show BB V A by rw[hA];exact(Below.refl _ V).alloc lr _));have hLC:=HC.out (n-1) _ _ _ _ (aGv s V);rw[hVS,<-hA,hV] at hLC;have HLC:=hid hLC;have HSQ:=aK1 F hFe (n-1) ga s hs (S+1) (A.heap.size+2) A hbA;have HJ:=hid hJ;have HJX:=hid hJx;have HG:=hid hG;have HY:=hid hY;have HN:=hid h1;have h1n:1<=n:=by omega
 have HFE:=hid hFe;have HSZ:=hid hs;have HAS:=hid hAS;clear hJ hJx hG hY h0 hW hbW h1 hFe hs hbV hyV hVT hJV hLC hV hVS hA hAS hbl;refine callsIn_of_wp_marks Tryz.func79 rfl (hF _) ?_ hro;simp only[Tryz.ntmps79,List.size_toArray,List.length_cons,List.length_nil,Nat.reduceAdd,Nat.reduceSub,Array.replicate_succ,Array.replicate_zero,List.push_toArray,List.append_toArray,List.nil_append,List.cons_append]
 gi_wp2_with (gi_at_call 80;refine HLC.out.mono ?_;rintro e A' ⟨rfl,hA'⟩;obtain rfl:=hA')
 refine yX hF hro h1n (enc:=fun x:ByteArray => #[.string x]) (w0:=A') (xs:=lnS s) gh (fun args w=>by simp[go_sem,callFunc];rfl) (fun x=>by rfl) (M:=A'.heap.size+2) (G:=fun _=>True) (R:=(· = S+1)) (R':=fun k=>S+1<=k/\k<S+4) (by rw[HAS.out] at HSQ ⊢;exact HSQ) (Below.refl _ _) (fun k hk=>by omega) (by have:=HAS.out;omega) (by have:=HAS.out;omega) (by have:=HAS.out;omega) (by have:=HAS.out;omega)
  (fun p W=>J (p.map sB) W/\W.heap[S]?=some (.cells #[.func (.yield l) #[] #[]] 133 (0,0)))
  (fun p W=>∃q,Jx q W)
  ?hI ?hIx (fun _ _ _=>trivial) ?h0 (fun x=>{ tmps:=#[.func (.yield l) #[] #[],.pointer (some ⟨bx,0,none⟩),.pointer (some ⟨S,0,none⟩),.string x,undef,undef,undef,.string s,.func (.func 144) #[] #[.pointer (some ⟨S+1,0,none⟩)],.string x,undef,undef,undef,undef,undef,undef,undef,undef,undef,undef,undef,undef],defers:=[] }) ?hassign ?hbody ?hdone ?hstop
 case hI =>
  rintro p X Y ⟨h1,h2⟩ ht;exact⟨HJ.out _ _ _ h1 (ht.mono fun k hk=>by omega),ht.keep h2 ga⟩
 case hIx =>
  rintro p X Y ⟨q,h1⟩ ht;exact⟨q,HJX.out _ _ _ h1 (ht.mono fun k hk=>by omega)⟩
 case h0=>exact⟨hJA,hyA⟩
 case hassign =>
  intro l' x W K hK
  gi_wp2
  exact hK
 case hbody =>
  rintro l' p x W ⟨hJp,hyW⟩ hM hpx;have hpx':p.map sB++[sB x] <+: jY s:=by
   rw[<-aJj,<-List.map_singleton,<-List.map_append];exact hpx.map _
  have hN:=HG.out _ _ hJp;have hxz:x.size<=1000000000:=by
   have hm:x∈lnS s:=hpx.subset gd;unfold lnS at hm;obtain⟨z,hz,rfl⟩:=List.mem_map.1 hm;have h1:=(aMj s.data.toList).1 z hz;rw[xM] at h1;rw[aU];have:=HSZ.out;omega
  obtain⟨m,hm⟩:=hN.2.2;obtain⟨tr,htr⟩:=ez (⟨(Lib.trimSuffix x.data.toList [10]).toArray⟩:ByteArray)
  obtain⟨wd,hwd⟩:=ez ((oO tr).1)
  obtain⟨rs,hrs⟩:=ez ((oO tr).2)
  obtain⟨fl,hfl⟩:=ez ((Lib.cut tr.data.toList [32]).2.2)
  have hws:sB x=(wd,rs):=by rw[hwd,hrs,htr];rfl
  have htz:tr.size<=1000000000:=by
   have:=trim_le x.data.toList;rw[xM] at this;rw[htr,aU];omega
  have HTR:=hid (CallsIn.inRound l' (HC.out (n-1-1-1) _ _ _ _ ((Tryz.strings_TrimSuffix x ⟨#[10]⟩ W ga).mono (fun e w' h=>(show e=.returned (.string tr)/\w'=W from⟨by rw[h.1,htr],h.2⟩)))));have HCU:=hid (CallsIn.inRound l' (HC.out (n-1-1-1) _ _ _ _ ((Tryz.strings_Cut tr ⟨#[32]⟩ m W ga hm).mono (fun e w' h=>(show e=.returned (.tuple #[.string wd,.string rs,.bool fl])/\BB W w' from⟨by rw[h.1,hwd,hrs,hfl];rfl,by obtain⟨_,k,hk⟩:=h;rw[hk];exact below_drewN _ _⟩)))));have HYW:=hid hyW;have HPX:=hid hpx';have HJP:=hid hJp;have HWS:=hid hws;have HM:=hid hM
  clear hN hxz hm htr hwd hrs hfl hws htz hyW hpx hpx' hJp hM;have hn1:1<=n-1-1:=by have:=HN.out;omega
  gi_upto_region 4 with (first
   | (gi_at_call 81;refine HCU.out.mono ?_;rintro e w2 ⟨rfl,hb2⟩;have HB2:=hid hb2;clear hb2)
   | (gi_at_call 82;refine HTR.out.mono ?_;rintro e w1 ⟨rfl,hw1⟩;obtain rfl:=hw1))
  have hy2:=aB HB2.out HYW.out;have cy:=(aY hy2).1;have hJ2:=HJ.out _ _ _ HJP.out (Turn.of_below (R:=fun k=>S<=k/\k<S+4) HB2.out);obtain⟨fn,tmps,assign,body,hy,hR⟩:=aAf (l':=l') (m:=n-1-1-1) (show YieldAt Fence.wide (n-1) Tryz.prog l (encP (sB x)) w2 _ from by
   have h:=HY.out _ (sB x) w2 hJ2 (by have:=HB2.out.size;have:=HM.out;have:=HAS.out;omega) HPX.out;rw[HFE.out] at h;exact h)
  rw[HWS.out] at hy;rw[<-HFE.out] at hR;have HR:=hid hR;have HJ2:=hid hJ2;have HY2:=hid hy2;clear hy2 hJ2 hR
  gi_wp2
  refine HR.out.mono ?_;have hsz:=HB2.out.size;rintro e W3 ⟨(⟨rfl,hJ3⟩ | ⟨rfl,hJx3⟩),hz3,hk3⟩
  ·have HE:=hid (And.intro hJ3 (And.intro hz3 hk3));clear hJ3 hz3 hk3 hy cy
   gi_wp2
   obtain⟨hJ3,hz3,hk3⟩:=HE.out;refine⟨by omega,fun k hk hkl=>(hk3 k ⟨by omega,hk.2⟩ ga).trans (HB2.out.block k hkl),?_,(hk3 S ⟨by omega,by omega⟩ (ltOf HY2.out)).trans HY2.out⟩;rw[List.map_append,List.map_singleton];exact hJ3
  ·have HE:=hid (And.intro hJx3 (And.intro hz3 hk3));clear hJx3 hz3 hk3 hy cy
   gi_wp2
   obtain⟨hJx3,hz3,hk3⟩:=HE.out;exact⟨by omega,fun k hk hkl=>(hk3 k ⟨by omega,hk.2⟩ ga).trans (HB2.out.block k hkl),_,hJx3⟩
 case hdone =>
  rintro D W hD ⟨hJp,hyW⟩ hdf
  gi_wp2
  rw[aJj] at hJp;refine⟨by simp,.inl ⟨_,_,rfl,run_takeDeferred hdf,?_⟩⟩;exact⟨_,results_none rfl _ _ _,⟨_,rfl⟩,.inl (HJ.out.put _ hJp (by have:=HAS.out;omega))⟩
 case hstop =>
  rintro D p W hD ⟨q,hq⟩ hdf
  gi_wp2
  refine⟨by simp,.inl ⟨_,_,rfl,run_takeDeferred hdf,?_⟩⟩;exact⟨_,results_none rfl _ _ _,⟨_,rfl⟩,.inr ⟨q,HJX.out.put _ hq (by have:=HAS.out;omega)⟩⟩
end
end Go.Proofs.YtmgpghoamapfgaaGreatDoor
