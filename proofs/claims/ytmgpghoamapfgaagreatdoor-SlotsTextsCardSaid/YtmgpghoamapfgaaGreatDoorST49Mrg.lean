/- A part. -/
import Derived.Test.YtmgpghoamapfgaaGreatDoorST17Mrg
import Derived.Test.YtmgpghoamapfgaaGreatDoorST13Mrg
import Derived.ProofKit
import Derived.OpenShut
import Derived.Carry
import Derived.Test.YtmgpghoamapfgaaGreatDoorTie
import Derived.Lib.LaidU8T
import Derived.Lib.LaidTab
import Derived.PinnedBridge
import Derived.Lay
import Derived.Test.YtmgpghoamapfgaaGreatDoorCards
import Derived.SevenTiedAt
import Derived.Stop.Joined
import Derived.Shelf.Vars
import Derived.Stop.LaidErr
import Derived.Handed
namespace Go.Proofs.YtmgpghoamapfgaaGreatDoor
set_option linter.unusedVariables false
set_option maxRecDepth 100000
set_option maxHeartbeats 16000000
set_option linter.unusedSimpArgs false
section
open Go Go.RowKit Go.ChangeShapes Go.WideShapes Go.ChangeAt
theorem lD {α:Type} {Q:Nat->α->Prop}:∀(n:Nat),(∀i,i<n->∃x,Q i x)->∃l:List α,l.length=n/\∀i (h:i<l.length),Q i l[i]
 | 0,_=>⟨[],rfl,fun i h=>absurd h (Nat.not_lt_zero i)⟩
 | n+1,h=>by
   obtain⟨l,hl,hq⟩:=lD n fun i hi=>h i (Nat.lt_succ_of_lt hi);obtain⟨x,hx⟩:=h n (Nat.lt_succ_self n);refine⟨l++[x],by simp[hl],fun i hi=>?_⟩;by_cases h1:i<l.length
   ·rw[List.getElem_append_left h1];exact hq i h1
   ·have h2:i=n:=by simp at hi;omega
    subst h2;rw[List.getElem_append_right ga]
    simpa [hl] using hx
theorem aJ6 {w:World} {a:Addr} {v:Value} (h:w.cell? a=some v):a.spot=none:=by
 unfold World.cell? at h;split at h
 ·split at h
  ·cases h
  ·rename_i h1
   simpa using h1
 ·cases h
theorem row_at {w:World} {b o i n:Nat} {cs:List Value} (h:w.cells? 0 ((⟨b,o,none⟩:Addr).add (i * n)) n=some cs):cs.length=n/\∀j,j<n->w.cell? ⟨b,o+i * n+j,none⟩=cs[j]?:=by
 obtain⟨_,hl,hc⟩:=World.cells?_some h;refine⟨hl,fun j hj=>?_⟩;rw[<-hc j hj];congr 1;unfold Addr.add;split<;>split<;>simp_all
theorem aLx {w:World} {a:Addr} {n:Nat} {cs:List Value} (h:w.cells? 0 (a.add (0 * n)) n=some cs) (hn:0<n):∃b o,a=⟨b,o,none⟩/\b<w.heap.size:=by
 obtain⟨_,hl,hc⟩:=World.cells?_some h;have h0:=hc 0 hn;have e:(a.add (0 * n)).add 0=a:=by simp[Addr.add]
 rw[e] at h0;have h1:cs[0]?=some (cs[0]' ga):=List.getElem?_eq_getElem ga;rw[h1] at h0;have hs:=aJ6 h0;have hb:=World.block_lt_of_cell? w _ h0;obtain⟨b,o,s⟩:=a;dsimp only at hs hb;subst hs;exact⟨b,o,rfl,hb⟩
theorem lL:Tryz.prog.cellsOf 3=1:=by kernel_rfl
theorem aF3:Tryz.prog.cellsOf 9=1:=by kernel_rfl
theorem aA9:Tryz.prog.cellsOf 33=1:=by kernel_rfl
theorem aL2:Tryz.prog.cellsOf 34=1:=by kernel_rfl
theorem aAb:Tryz.prog.cellsOf 37=1:=by kernel_rfl
theorem lK:Tryz.prog.cellsOf 36=6:=by kernel_rfl
theorem aNj:Tryz.prog.cellsOf 202=7:=by kernel_rfl
theorem aIq:Tryz.prog.cellsOf 39=2:=by kernel_rfl
theorem aF4:Tryz.prog.cellsOf 86=10:=by kernel_rfl
theorem aNr:Tryz.prog.bytesOf 3=8:=by kernel_rfl
theorem aF7:Tryz.prog.bytesOf 36=88:=by kernel_rfl
theorem aNs:Tryz.prog.bytesOf 202=104:=by kernel_rfl
theorem aNq:Tryz.prog.bytesOf 86=152:=by kernel_rfl
section
variable {H:Type} {enc:TypeId × Value->H} {hld:Bool} {W:World}
noncomputable abbrev RdW (enc:TypeId × Value->H) (hld:Bool) (W:World):=DataW.trod enc Tryz.prog W 0 (fun _=>true) hld
abbrev Light (t:TypeId) (d:DataW H):Prop:=∀n∈d.weights Tryz.prog t,n<=reachBytes
theorem zF {e:TypeId}:∀{l:List (DataW H)},(∀n∈DataW.weightsAll Tryz.prog e l,n<=reachBytes)->∀d∈l,Light e d
 | [],_,d,hd=>by cases hd
 | x :: l,h,d,hd=>by
   simp only[DataW.weightsAll,List.mem_append] at h;rcases List.mem_cons.1 hd with rfl | hd
   ·exact fun n hn=>h n (.inl hn)
   ·exact zF (fun n hn=>h n (.inr hn)) d hd
theorem open_row' {t e:TypeId} {fuel:Nat} {cs:List Value} {x:DataW H × List MemPlace} (ht:Tryz.prog.underlying t=some (.slice e)) (n by':Nat) (hn:0<n) (hc:Tryz.prog.cellsOf e=n) (hby:Tryz.prog.bytesOf e=by') (h:RdW enc hld W fuel t cs=some x) (hw:Light t x.1) :
 ∃(a:Option Addr) (len cap:Nat),cs=[.slice a len cap]/\len<=cap/\len * by'<=reachBytes/\(len=0\/∃b o,a=some ⟨b,o,none⟩/\b<W.heap.size /\
  ∀i,i<len->∃(cs':List Value) (y:DataW H × List MemPlace) (f:Nat),f<fuel/\cs'.length=n/\(∀j,j<n->W.cell? ⟨b,o+i * n+j,none⟩=cs'[j]?)/\RdW enc hld W f e cs'=some y/\Light e y.1):=by
 rcases DataW.trod_slice ht h with ⟨rfl,rfl⟩ | ⟨a,len,cap,elems,rest,m,rfl,rfl,rfl,_,hlc,_,hel,hi,hsp,_⟩
 ·exact⟨none,0,0,rfl,Nat.le_refl _,by simp[reachBytes],.inl rfl⟩
 ·have hrl:rest.length=cap-len:=(hsp rfl).1;have hw':∀k∈(elems.length+rest.length) * by' :: (DataW.weightsAll Tryz.prog e (elems.map (·.1))++DataW.weightsAll Tryz.prog e (rest.map (·.1))),k<=reachBytes:=by
   intro k hk;refine hw k ?_;simp only[DataW.weights,ht,hby,List.length_map];exact hk
  have h1:=hw' _ (List.mem_cons_self ..);refine⟨some a,len,cap,rfl,hlc,Nat.le_trans (Nat.mul_le_mul_right _ ga) h1,?_⟩;rcases Nat.eq_zero_or_pos len with h0 | h0
  ·exact .inl h0
  ·right;have el:∀i,i<len->∃(cs':List Value) (y:DataW H × List MemPlace),W.cells? 0 (a.add (i * n)) n=some cs'/\RdW enc hld W m e cs'=some y/\Light e y.1:=fun i hlt=>by
    have:=hi i hlt;rw[hc,List.getElem?_eq_getElem ga] at this;obtain⟨cs',h2,h3⟩:=Option.bind_eq_some_iff.1 this;refine⟨cs',_,h2,h3,?_⟩;exact zF (fun k hk=>hw' k (List.mem_cons_of_mem _ (List.mem_append_left _ hk))) _ (List.mem_map.2 ⟨_,List.getElem_mem _,rfl⟩)
   obtain⟨cs0,y0,h2,_,_⟩:=el 0 h0;obtain⟨b,o,rfl,hb⟩:=aLx h2 hn;refine⟨b,o,rfl,hb,fun i hlt=>?_⟩;obtain⟨cs',y,h3,h4,h5⟩:=el i hlt;obtain⟨h6,h7⟩:=row_at h3;exact⟨cs',y,m,Nat.lt_succ_self m,h6,h7,h4,h5⟩
theorem mD {n:Int} (h:(Lit.int .i64 n).wf=true):I64 n:=bounds_i64 h
theorem aHz {fuel:Nat} {cs:List Value} {x:DataW H × List MemPlace} (h:RdW enc hld W fuel 9 cs=some x) (hw:Light 9 x.1):∃s:ByteArray,cs=[.string s]/\s.size<=reachBytes:=by
 obtain⟨s,h1,rfl,h3⟩:=DataW.trod_string Tryz.underlying9 h;refine⟨s,h1,?_⟩;have:=hw s.data.toList.length (by simp[DataW.weights])
 simpa using this
theorem uT:∀(fuel:Nat) (cs:List Value) (x:DataW H × List MemPlace),RdW enc hld W fuel 36 cs=some x->Light 36 x.1->∃(c:VC) (d:Val),cs=c.cs/\IsVal (· < W.heap.size) W c d:=by
 intro fuel
 induction fuel using Nat.strongRecOn with
 | _ fuel ih =>
 intro cs x h hw;obtain⟨xs,n,rfl,rfl,hl,hlen,hf⟩:=DataW.trod_struct Tryz.underlying36 h;rw[lK] at hl
 match cs,hl with
 | [c0,c1,c2,c3,c4,c5],_ =>
 match xs,hlen with
 | [y0,y1,y2,y3,y4,y5],_ =>
 have f0:=hf 0 _ rfl;have f1:=hf 1 _ rfl;have f2:=hf 2 _ rfl;have f3:=hf 3 _ rfl;have f4:=hf 4 _ rfl;have f5:=hf 5 _ rfl;simp only[lL,aF3,aA9,aL2,List.drop_zero,List.drop_succ_cons,List.take_succ_cons,List.take_zero,List.getElem?_cons_zero,List.getElem?_cons_succ] at f0 f1 f2 f3 f4 f5;obtain⟨k,e0,rfl,w0⟩:=DataW.trod_int Tryz.underlying3 f0;obtain⟨i,e1,rfl,w1⟩:=DataW.trod_int Tryz.underlying3 f1;obtain⟨s,e2,rfl,w2⟩:=DataW.trod_int Tryz.underlying3 f2;cases e0;cases e1;cases e2
 have hw':∀m∈y3.1.weights Tryz.prog 9++(y4.1.weights Tryz.prog 33++y5.1.weights Tryz.prog 34),m<=reachBytes:=fun m hm=>hw m (by
  simp only[DataW.weights,Tryz.underlying36,DataW.weightsEach,List.map_cons,List.map_nil,List.append_nil,List.nil_append];exact hm)
 obtain⟨t,e3,ht⟩:=aHz f3 (fun m hm=>hw' m (List.mem_append_left _ hm));obtain⟨la,ll,lc,e4,hlc,hlb,hl⟩:=open_row' Tryz.underlying33 6 88 gc lK aF7 f4 (fun m hm=>hw' m (List.mem_append_right _ (List.mem_append_left _ hm)));obtain⟨fa,fl,fc,e5,hfc,hfb,hfl⟩:=open_row' Tryz.underlying34 7 104 gc aNj aNs f5 (fun m hm=>hw' m (List.mem_append_right _ (List.mem_append_right _ hm)));cases e3;cases e4;cases e5
 have L:∃l:List Val,l.length=ll/\(l=[]\/∃b o,la=some ⟨b,o,none⟩/\b<W.heap.size/\IsVals (· < W.heap.size) W b o l):=by
  rcases hl with h0 | ⟨b,o,rfl,hb,he⟩
  ·exact⟨[],by rw[h0];rfl,.inl rfl⟩
  ·obtain⟨l,hll,hq⟩:=lD (Q:=fun i (d:Val)=>∃c,At W b (o+i * 6) c/\IsVal (· < W.heap.size) W c d) ll fun i hi=>by
    obtain⟨cs',y,f,hf',hcl,hc,hr,hwy⟩:=he i hi;obtain⟨c,d,rfl,hv⟩:=ih f ga cs' y hr hwy;exact⟨d,c,⟨hc 0 gc,hc 1 gc,hc 2 gc,hc 3 gc,hc 4 gc,hc 5 gc⟩,hv⟩
   exact⟨l,hll,.inr ⟨b,o,rfl,hb,IsVals.of hq⟩⟩
 have F:∃(ns:List ByteArray) (fs:List Val),fs.length=fl/\ns.length=fs.length/\(fs=[]\/∃b o,fa=some ⟨b,o,none⟩/\b<W.heap.size/\IsFlds (· < W.heap.size) W b o ns fs):=by
  rcases hfl with h0 | ⟨b,o,rfl,hb,he⟩
  ·exact⟨[],[],by rw[h0];rfl,rfl,.inl rfl⟩
  ·obtain⟨l,hll,hq⟩:=lD (Q:=fun i (p:ByteArray × Val)=>(W.cell? ⟨b,o+i * 7,none⟩=some (.string p.1)/\p.1.size<=140737488351232)/\∃c,At W b (o+i * 7+1) c/\IsVal (· < W.heap.size) W c p.2) fl fun i hi=>by
    obtain⟨cs',y,f,hf',hcl,hc,hr,hwy⟩:=he i hi;obtain⟨xs,m,hfm,rfl,hl2,hlen2,hg⟩:=DataW.trod_struct Tryz.underlying202 hr
    match cs',hcl with
    | [d0,d1,d2,d3,d4,d5,d6],_ =>
    match xs,hlen2 with
    | [y0,y1],_ =>
    have g0:=hg 0 _ rfl;have g1:=hg 1 _ rfl;simp only[aF3,lK,List.drop_zero,List.drop_succ_cons,List.take_succ_cons,List.take_zero,List.getElem?_cons_zero,List.getElem?_cons_succ] at g0 g1;have hwf:∀q∈y0.1.weights Tryz.prog 9++y1.1.weights Tryz.prog 36,q<=reachBytes:=fun q hq=>hwy q (by
     simp only[DataW.weights,Tryz.underlying202,DataW.weightsEach,List.map_cons,List.map_nil,List.append_nil,List.nil_append];exact hq)
    obtain⟨nm,e0,hnm⟩:=aHz g0 (fun q hq=>hwf q (List.mem_append_left _ hq));cases e0
    obtain⟨c,d,e1,hv⟩:=ih m ga _ y1 g1 (fun q hq=>hwf q (List.mem_append_right _ hq));cases e1
    exact⟨(nm,d),⟨by have h0:=hc 0 gc;rw[Nat.add_zero] at h0;exact h0,hnm⟩,c,⟨hc 1 gc,hc 2 gc,hc 3 gc,hc 4 gc,hc 5 gc,hc 6 gc⟩,hv⟩
   refine⟨l.map (·.1),l.map (·.2),by simp[hll],by simp,.inr ⟨b,o,rfl,hb,IsFlds.of gd fun j hj hn=>?_⟩⟩
   simpa using hq j (by simpa using hj)
 obtain⟨l,hl1,hl2⟩:=L;obtain⟨ns,fs,hf1,hf2,hf3⟩:=F;exact⟨⟨k,i,s,t,la,ll,lc,fa,fl,fc⟩,.mk k i s t l ns fs,rfl,⟨rfl,rfl,rfl,rfl,⟨mD w0,mD w1,mD w2,ht,hlb,hfb,hlc,hfc⟩,hl1.symm,hf1.symm,hf2⟩,hl2,hf3⟩
theorem yZ {fuel:Nat} {cs:List Value} {x:DataW H × List MemPlace} (h:RdW enc hld W fuel 37 cs=some x) (hw:Light 37 x.1):∃(a:Option Addr) (n c:Nat) (xs:List Int),cs=[.slice a n c]/\IsInts (· < W.heap.size) W a n c xs:=by
 obtain⟨a,n,c,e,hc,hb,hr⟩:=open_row' Tryz.underlying37 1 8 gc lL aNr h hw;rcases hr with h0 | ⟨b,o,rfl,hlt,he⟩
 ·exact⟨a,n,c,[],e,⟨h0,hc,hb,(fun x hx=>by cases hx),.inl rfl⟩⟩
 ·obtain⟨l,hll,hq⟩:=lD (Q:=fun i (z:Int)=>W.cell? ⟨b,o+i,none⟩=some (.int .i64 z)/\I64 z) n fun i hi=>by
   obtain⟨cs',y,f,hf',hcl,hc,hr,hwy⟩:=he i hi;obtain⟨z,e1,rfl,w1⟩:=DataW.trod_int Tryz.underlying3 hr;subst e1;exact⟨z,by have h0:=hc 0 gc;rw[Nat.add_zero,Nat.mul_one] at h0;exact h0,mD w1⟩
  refine⟨_,n,c,l,e,⟨hll.symm,hc,hb,fun x hx=>?_,.inr ⟨b,o,rfl,hlt,fun j hj=>(hq j hj).1⟩⟩⟩;obtain⟨j,hj,rfl⟩:=List.getElem_of_mem hx;exact(hq j hj).2
theorem open_st {fuel:Nat} {cs:List Value} {x:DataW H × List MemPlace} (h:RdW enc hld W fuel 39 cs=some x) (hw:Light 39 x.1):∃(c:SC) (d:St),cs=[.int .i64 c.e,.slice c.a c.n c.c]/\IsSt (· < W.heap.size) W c d:=by
 obtain⟨y0,y1,m,rfl,hl2,g0,g1⟩:=trod_struct2 Tryz.underlying39 h;rw[aIq] at hl2
 match cs,hl2 with
 | [d0,d1],_ =>
 simp only[lL,aAb,List.drop_zero,List.drop_succ_cons,List.take_succ_cons,List.take_zero] at g0 g1;obtain⟨e,e0,rfl,w0⟩:=DataW.trod_int Tryz.underlying3 g0;obtain⟨a,n,c,xs,e1,hi⟩:=yZ g1 (fun q hq=>hw q (by
  simp only[DataW.weights,Tryz.underlying39,DataW.weightsEach,List.map_cons,List.map_nil,List.append_nil,List.nil_append];exact hq))
 cases e0;cases e1
 exact⟨⟨e,a,n,c⟩,⟨e,xs⟩,rfl,rfl,mD w0,hi⟩
theorem aM9 {fuel:Nat} {cs:List Value} {x:DataW H × List MemPlace} (h:RdW enc hld W fuel 86 cs=some x) (hw:Light 86 x.1):∃(c:MC) (d:Msg),cs=[.int .i64 c.st.e,.slice c.st.a c.st.n c.st.c,.int .i64 c.m,.slice c.a c.n c.c,.int .i64 c.b.k,.int .i64 c.b.i,.int .i64 c.b.s,.string c.b.t,.slice c.b.la c.b.ll c.b.lc,.slice c.b.fa c.b.fl c.b.fc]/\IsMsg (· < W.heap.size) W c d:=by
 obtain⟨xs,n,rfl,rfl,hl,hlen,hf⟩:=DataW.trod_struct Tryz.underlying86 h;rw[aF4] at hl
 match cs,hl with
 | [c0,c1,c2,c3,c4,c5,c6,c7,c8,c9],_ =>
 match xs,hlen with
 | [y0,y1,y2,y3],_ =>
 have f0:=hf 0 _ rfl;have f1:=hf 1 _ rfl;have f2:=hf 2 _ rfl;have f3:=hf 3 _ rfl;simp only[lL,aAb,aIq,lK,List.drop_zero,List.drop_succ_cons,List.take_succ_cons,List.take_zero,List.getElem?_cons_zero,List.getElem?_cons_succ] at f0 f1 f2 f3;have hw':∀m∈y0.1.weights Tryz.prog 39++(y1.1.weights Tryz.prog 3++(y2.1.weights Tryz.prog 37++y3.1.weights Tryz.prog 36)),m<=reachBytes:=fun m hm=>hw m (by
  simp only[DataW.weights,Tryz.underlying86,DataW.weightsEach,List.map_cons,List.map_nil,List.append_nil,List.nil_append];exact hm)
 obtain⟨c,d,e0,hs⟩:=open_st f0 (fun q hq=>hw' q (List.mem_append_left _ hq));obtain⟨m,e1,rfl,w1⟩:=DataW.trod_int Tryz.underlying3 f1;obtain⟨a,k,cc,es,e2,hi⟩:=yZ f2 (fun q hq=>hw' q (List.mem_append_right _ (List.mem_append_right _ (List.mem_append_left _ hq))));obtain⟨b,db,e3,hb⟩:=uT _ _ _ f3 (fun q hq=>hw' q (List.mem_append_right _ (List.mem_append_right _ (List.mem_append_right _ hq))));cases e0;cases e1;cases e2
 obtain⟨bk,bi,bs,bt,bla,bll,blc,bfa,bfl,bfc⟩:=b;simp only[VC.cs] at e3;cases e3
 exact⟨⟨c,m,a,k,cc,⟨bk,bi,bs,bt,bla,bll,blc,bfa,bfl,bfc⟩⟩,⟨d,m,es,db⟩,rfl,hs,rfl,mD w1,hi,hb⟩
end
end
section
open Go Go.RowKit Go.Shelf
theorem mT {P:Program} {W:World} {name:String} {k:IntKind} {zs:List Int} {g:Nat} {t e:TypeId} {n:Nat}
 (hg:P.globalNamed name=some g) (hty:(P.globals[g]?).map (·.type)=some t) (ht:P.underlying t=some (.array n e)) (he:P.underlying e=some (.int k)) (hce:P.cellsOf e=1) (hct:P.cellsOf t=n)
 (h:Lib.VarReads P W name (Lib.tabData k zs)):Lib.TabIs P W name k zs:=by
 obtain⟨g',t',cs,fuel,p,hg',ht',hvar,hd⟩:=h;obtain rfl:=Option.some.inj (hg.symm.trans hg');obtain rfl:=Option.some.inj (hty.symm.trans ht');unfold Lib.TabIs;rw[hvar,<-Lib.cells_of_tab ht he hce hct hd]
theorem pow_eq:(Rows.laid_internal_strconv_uint64pow10:DataW Unit)=Lib.tabData .u64 Lib.pow10Tab:=by kernel_rfl
theorem acc_eq:(Rows.laid_unicode_utf8_acceptRanges:DataW Unit)=Lib.acceptData:=by kernel_rfl
theorem aN1:(Rows.laid_unicode_utf8_first:DataW Unit)=Lib.firstData:=Pinned.utf8First_eq
theorem aMz:(Tryz.prog.globals[3]?).map (·.type)=some 303:=by kernel_rfl
theorem tabs_of {l : List (String × DataW Unit)} {W : World} (h : laidMet Tryz.prog l W) (h1 : ("unicode/utf8.first",Rows.laid_unicode_utf8_first) ∈ l) (h2 : ("unicode/utf8.acceptRanges",Rows.laid_unicode_utf8_acceptRanges) ∈ l)
 (h3 : ("internal/strconv.uint64pow10",Rows.laid_internal_strconv_uint64pow10) ∈ l) : Tabs W :=
 ⟨utf8Tabs_of_readsT (ρ:=Tryz.laysValid_ren) (U8Types.of196 Tryz.laysValid) ⟨by kernel_rfl,by kernel_rfl,by kernel_rfl,by kernel_rfl,by kernel_rfl,by kernel_rfl,by kernel_rfl⟩ (aN1▸Lib.laidMet.reads h h1) (acc_eq▸Lib.laidMet.reads h h2),
   mT gPow aMz Tryz.underlying303 Tryz.underlying239 ge ge (pow_eq▸Lib.laidMet.reads h h3)⟩
end
section
open Go Go.RowKit Go.ChangeShapes Go.WideShapes Go.ChangeAt
theorem own:ownKnob Tryz.prog.godebug=none:=by kernel_rfl
theorem laidOut:laidOutB Tryz.prog=true:=by kernel_rfl
theorem aCd {v:Value} {l:List Value} (h:v.cells.toList=l) (hl:l.length≠1):v=.agg l.toArray:=by
 cases v<;>first
  | (rename_i xs;have h':xs.toList=l:=h;rw[<-h'])
  | (exfalso;apply hl;rw[<-h];rfl)
section
variable {H:Type} {enc:TypeId × Value->H} {W:World}
theorem aMo {ts:List TypeId} {ds:List (DataW H)} (h:(DataW.weightsEach Tryz.prog ts ds).all (· <= reachBytes)=true):∀n∈DataW.weightsEach Tryz.prog ts ds,n<=reachBytes:=fun n hn=>by simpa using List.all_eq_true.1 h n hn
theorem aGx {t:TypeId} {ts:List TypeId} {d:DataW H} {ds:List (DataW H)} (h:∀n∈DataW.weightsEach Tryz.prog (t :: ts) (d :: ds),n<=reachBytes):Light t d:=fun n hn=>h n (by simp only[DataW.weightsEach,List.mem_append];exact .inl hn)
theorem aGw {t:TypeId} {ts:List TypeId} {d:DataW H} {ds:List (DataW H)} (h:∀n∈DataW.weightsEach Tryz.prog (t :: ts) (d :: ds),n<=reachBytes):∀n∈DataW.weightsEach Tryz.prog ts ds,n<=reachBytes:=fun n hn=>h n (by simp only[DataW.weightsEach,List.mem_append];exact .inr hn)
end
end
section
open Go Go.RowKit Go.ChangeShapes Go.WideShapes Go.ChangeAt
section
variable {H:Type} {enc:TypeId × Value->H} {hld:Bool} {W:World}
end
end
section
open Go Go.RowKit Go.Shelf Go.ChangeShapes
theorem aKb {P:Program} {W:World} {name nm:String} {g:Nat} {t:TypeId} {ms:Array (String × TypeId)} {d:DataW Unit}
 (hg:P.globalNamed name=some g) (ht:(P.globals[g]?).map (·.type)=some t) (hi:P.underlying t=some (.interface ms)) (h:Lib.VarReads P W name (.iface nm d)):IfCell g W:=by
 obtain⟨g',t',cs,fuel,p,hg',ht',hv,hd⟩:=h;obtain rfl:=Option.some.inj (hg.symm.trans hg');obtain rfl:=Option.some.inj (ht.symm.trans ht');obtain⟨f1,u,v,hcs,_⟩:=iface_of_trod hi hd;have hc:=World.var?_cell hg hv 0;have e:cs = #[.iface u v]:=by cases cs;simp_all
 refine⟨.iface u v,?_,.inr ⟨u,v,rfl⟩⟩;rw[hc,e];rfl
theorem gSyn : Tryz.prog.globalNamed "strconv.ErrSyntax" = some 4:=by kernel_rfl
theorem gRan : Tryz.prog.globalNamed "strconv.ErrRange" = some 5:=by kernel_rfl
theorem gSynT:(Tryz.prog.globals[4]?).map (·.type)=some 77:=by kernel_rfl
theorem gRanT:(Tryz.prog.globals[5]?).map (·.type)=some 77:=by kernel_rfl
theorem aJs {W:World} (h:W.ShapedOpen Tryz.prog):∃m,W.cell? ⟨2,0,none⟩=some (.int .i64 m) :=
 cell_of_shapedOpen_int (zero:=#[.int .i64 0]) (t:=3) h (of_decide_eq_true ge) ge rfl ge ge Tryz.underlying3
theorem aGq {l : List (String × DataW Unit)} {W : World} (h : laidMet Tryz.prog l W) (hs : W.ShapedOpen Tryz.prog) (h1 : ("strconv.ErrSyntax",Rows.laid_strconv_ErrSyntax) ∈ l) (h2 : ("strconv.ErrRange",Rows.laid_strconv_ErrRange) ∈ l) : NumVars W :=
 ⟨aKb gSyn gSynT Tryz.underlying77 (Lib.laidMet.reads h h1),aKb gRan gRanT Tryz.underlying77 (Lib.laidMet.reads h h2),aJs hs⟩
theorem oZ {H:Type} {enc:TypeId × Value->H} {a:Assume} {C:Checked} {os:Os} {f:FuncId} {fn:Func} {s:ChangeSpec} {conds:List PathCond} {apart fresh handsOn again:Bool} {X:World->Array Value->Prop}
 (hX:∀(w w':World) (args:Array Value),w.heap=w'.heap->X w args->X w' args)
 (own:ownKnob C.prog.godebug=none) (started:os.Started) (noInit:C.prog.inits.idxOf? f=none) (hfn:C.prog.funcs[f]?=some fn)
 (witness:∃(w:World) (tape:Tape) (i:Input),w.os=os/\(w.forCall tape i).Shaped C.prog/\i.vars=[]/\Input.okWide C.prog (w.forCall tape i) .any w.heap.size f i /\
   ((s.pre enc C.prog fn conds apart (w.forCall tape i).memory i.args/\X (w.forCall tape i).memory i.args)/\sizedMet enc C.prog fn (OpenSpec.ofChange s) apart (w.forCall tape i).memory i.args)/\a.holds C.prog (lone (Frame.enter C.prog f i.args .normal) [] (w.forCall tape i)))
 (contract:∀(W:World) (base:Nat) (args:Array Value) (ds gs:List (DataW H)) (before:List MemPlace),
   (∀(j:Nat) t v,fn.params[j]?=some t->args[j]?=some v->Value.okWide C.prog W .any base t v) ->
   DataW.Whole enc C.prog fn.params.toList s.vars apart W args.toList ds gs before ->
   conds.all (PathCond.test C.prog ⟨fn.params.toList,ds,s.plain.varTypes C.prog,gs⟩)=true ->
   (DataW.weightsEach C.prog (fn.params.toList++s.plain.varTypes C.prog) (ds++gs)).all (· <= reachBytes)=true->X W args->W.ShapedOpen C.prog ->
   a.holds C.prog (lone (Frame.enter C.prog f args .normal) [] W) ->
   Calls C.prog f args W fun e W'=>∃v,e=.returned v/\s.post enc C.prog fn apart fresh handsOn again W args v W') :
 ReturnsInHanded a C os f .any (fun w args=>(s.pre enc C.prog fn conds apart w args/\X w args)/\sizedMet enc C.prog fn (OpenSpec.ofChange s) apart w args) (s.post enc C.prog fn apart fresh handsOn again):=by
 refine returnsInHanded_of_calls own started noInit witness ?_;intro w tape i _ hsh _ hok hpre hholds;obtain⟨_,_,_,fn',hfn',_,_,_,_,hval⟩:=hok;have e:fn'=fn:=Option.some.inj (hfn'.symm.trans hfn);subst e;obtain⟨⟨⟨ds,gs,before,hw,hc⟩,hx⟩,hz⟩:=hpre;refine(contract (w.forCall tape i) w.heap.size i.args ds gs before hval (DataW.Whole.of_heap (w':=w.forCall tape i) gh hw) hc (hz.weights hw) (hX _ _ _ gh hx) hsh hholds).mono fun e W' ⟨v,he,hp⟩=>?_;subst he;exact ChangeSpec.post_blind hp
end
section
open Go Go.RowKit Go.Shelf
theorem z_eq:(Rows.laid_math_bits_deBruijn64tab:DataW Unit)=Lib.tabData .u8 (Lib.deBruijn64tab.map Int.ofNat):=by kernel_rfl
theorem gZ : Tryz.prog.globalNamed "math/bits.deBruijn64tab" = some 7:=by kernel_rfl
theorem gZType:(Tryz.prog.globals[7]?).map (·.type)=some 367:=by kernel_rfl
theorem zTab_of {l : List (String × DataW Unit)} {W : World} (h : laidMet Tryz.prog l W) (h1 : ("math/bits.deBruijn64tab",Rows.laid_math_bits_deBruijn64tab) ∈ l) : ZTab W:=by
 have hv : Lib.TabIs Tryz.prog W "math/bits.deBruijn64tab" .u8 (Lib.deBruijn64tab.map Int.ofNat) :=
  mT gZ gZType Tryz.underlying367 Tryz.underlying5 ge ge (z_eq▸Lib.laidMet.reads h h1)
 intro j hj;rw[World.var?_cell gZ hv j];rw[List.getElem?_toArray,List.getElem?_map,List.getElem?_map,List.getElem?_eq_getElem hj];simp[List.getD_eq_getElem?_getD,List.getElem?_eq_getElem hj]
end
end Go.Proofs.YtmgpghoamapfgaaGreatDoor
