/- A part. -/
import Derived.Test.YteladbdfiannjaaGreatDoorSX8Mrg
import Derived.Test.YteladbdfiannjaaGreatDoorSX13Mrg
import Derived.ProofKit
import Derived.OpenShut
import Derived.Carry
import Derived.Test.YteladbdfiannjaaGreatDoorTie
import Derived.Lib.LaidU8T
import Derived.Lib.LaidTab
import Derived.PinnedBridge
import Derived.Lay
import Derived.Test.YteladbdfiannjaaGreatDoorCards
import Derived.SevenTiedAt
import Derived.Stop.Joined
import Derived.Shelf.Vars
import Derived.Stop.LaidErr
import Derived.Handed
namespace Go.Proofs.YteladbdfiannjaaGreatDoor
set_option linter.unusedVariables false
set_option maxRecDepth 100000
set_option maxHeartbeats 64000000
set_option linter.unusedSimpArgs false
section
open Go Go.RowKit Go.ChangeShapes Go.WideShapes Go.ChangeAt
theorem fU {α:Type} {Q:Nat→α→Prop}:∀(n:Nat),(∀i,i<n→∃x,Q i x)→∃l:List α,l.length=n∧∀i (h:i<l.length),Q i l[i]
 | 0,_=>⟨[],rfl,fun i h=>absurd h (Nat.not_lt_zero i)⟩
 | n+1,h=>by
   obtain⟨l,hl,hq⟩:=fU n fun i hi=>h i (Nat.lt_succ_of_lt hi)
   obtain⟨x,hx⟩:=h n (Nat.lt_succ_self n)
   refine⟨l++[x],by simp[hl],fun i hi=>?_⟩
   by_cases h1:i<l.length
   ·rw[List.getElem_append_left h1];exact hq i h1
   ·have h2:i=n:=by simp at hi;omega
    subst h2
    rw[List.getElem_append_right (by omega)]
    simpa [hl] using hx
theorem zN {w:World} {a:Addr} {v:Value} (h:w.cell? a=some v):a.spot=none:=by
 unfold World.cell? at h
 split at h
 ·split at h
  ·cases h
  ·rename_i h1
   simpa using h1
 ·cases h
theorem row_at {w:World} {b o i n:Nat} {cs:List Value} (h:w.cells? 0 ((⟨b,o,none⟩:Addr).add (i * n)) n=some cs):cs.length=n∧∀j,j<n→w.cell? ⟨b,o+i * n+j,none⟩=cs[j]?:=by
 obtain⟨_,hl,hc⟩:=World.cells?_some h
 refine⟨hl,fun j hj=>?_⟩
 rw[←hc j hj]
 congr 1
 unfold Addr.add
 split<;>split<;>simp_all
theorem aC6 {w:World} {a:Addr} {n:Nat} {cs:List Value} (h:w.cells? 0 (a.add (0 * n)) n=some cs) (hn:0<n):∃b o,a=⟨b,o,none⟩∧b<w.heap.size:=by
 obtain⟨_,hl,hc⟩:=World.cells?_some h
 have h0:=hc 0 hn
 have e:(a.add (0 * n)).add 0=a:=by simp[Addr.add]
 rw[e] at h0
 have h1:cs[0]?=some (cs[0]'(by omega)):=List.getElem?_eq_getElem (by omega)
 rw[h1] at h0
 have hs:=zN h0
 have hb:=World.block_lt_of_cell? w _ h0
 obtain⟨b,o,s⟩:=a
 dsimp only at hs hb
 subst hs
 exact⟨b,o,rfl,hb⟩
theorem cN:Tryz.prog.cellsOf 3=1:=by kernel_rfl
theorem jH:Tryz.prog.cellsOf 9=1:=by kernel_rfl
theorem qT:Tryz.prog.cellsOf 63=1:=by kernel_rfl
theorem aBd:Tryz.prog.cellsOf 64=1:=by kernel_rfl
theorem qX:Tryz.prog.cellsOf 40=1:=by kernel_rfl
theorem gI:Tryz.prog.cellsOf 66=6:=by kernel_rfl
theorem aDk:Tryz.prog.cellsOf 208=7:=by kernel_rfl
theorem mR:Tryz.prog.cellsOf 62=2:=by kernel_rfl
theorem oJ:Tryz.prog.cellsOf 68=10:=by kernel_rfl
theorem aDr:Tryz.prog.bytesOf 3=8:=by kernel_rfl
theorem vJ:Tryz.prog.bytesOf 66=88:=by kernel_rfl
theorem aDs:Tryz.prog.bytesOf 208=104:=by kernel_rfl
theorem aDp:Tryz.prog.bytesOf 68=152:=by kernel_rfl
section
variable {H:Type} {enc:TypeId × Value→H} {hld:Bool} {W:World}
noncomputable abbrev RdW (enc:TypeId × Value→H) (hld:Bool) (W:World):=DataW.trod enc Tryz.prog W 0 (fun _=>true) hld
abbrev Light (t:TypeId) (d:DataW H):Prop:=∀n∈d.weights Tryz.prog t,n≤reachBytes
theorem qF {e:TypeId}:∀{l:List (DataW H)},(∀n∈DataW.weightsAll Tryz.prog e l,n≤reachBytes)→∀d∈l,Light e d
 | [],_,d,hd=>by cases hd
 | x :: l,h,d,hd=>by
   simp only[DataW.weightsAll,List.mem_append] at h
   rcases List.mem_cons.1 hd with rfl | hd
   ·exact fun n hn=>h n (.inl hn)
   ·exact qF (fun n hn=>h n (.inr hn)) d hd
theorem open_row' {t e:TypeId} {fuel:Nat} {cs:List Value} {x:DataW H × List MemPlace} (ht:Tryz.prog.underlying t=some (.slice e)) (n by':Nat) (hn:0<n) (hc:Tryz.prog.cellsOf e=n) (hby:Tryz.prog.bytesOf e=by') (h:RdW enc hld W fuel t cs=some x) (hw:Light t x.1) :
 ∃(a:Option Addr) (len cap:Nat),cs=[.slice a len cap]∧len≤cap∧len * by'≤reachBytes∧(len=0∨∃b o,a=some ⟨b,o,none⟩∧b<W.heap.size ∧
  ∀i,i<len→∃(cs':List Value) (y:DataW H × List MemPlace) (f:Nat),f<fuel∧cs'.length=n∧(∀j,j<n→W.cell? ⟨b,o+i * n+j,none⟩=cs'[j]?)∧RdW enc hld W f e cs'=some y∧Light e y.1):=by
 rcases DataW.trod_slice ht h with ⟨rfl,rfl⟩ | ⟨a,len,cap,elems,rest,m,rfl,rfl,rfl,_,hlc,_,hel,hi,hsp,_⟩
 ·exact⟨none,0,0,rfl,Nat.le_refl _,by simp[reachBytes],.inl rfl⟩
 ·have hrl:rest.length=cap-len:=(hsp rfl).1
  have hw':∀k∈(elems.length+rest.length) * by' :: (DataW.weightsAll Tryz.prog e (elems.map (·.1))++DataW.weightsAll Tryz.prog e (rest.map (·.1))),k≤reachBytes:=by
   intro k hk
   refine hw k ?_
   simp only[DataW.weights,ht,hby,List.length_map]
   exact hk
  have h1:=hw' _ (List.mem_cons_self ..)
  refine⟨some a,len,cap,rfl,hlc,Nat.le_trans (Nat.mul_le_mul_right _ (by omega)) h1,?_⟩
  rcases Nat.eq_zero_or_pos len with h0 | h0
  ·exact .inl h0
  ·right
   have el:∀i,i<len→∃(cs':List Value) (y:DataW H × List MemPlace),W.cells? 0 (a.add (i * n)) n=some cs'∧RdW enc hld W m e cs'=some y∧Light e y.1:=fun i hlt=>by
    have:=hi i hlt
    rw[hc,List.getElem?_eq_getElem (by omega)] at this
    obtain⟨cs',h2,h3⟩:=Option.bind_eq_some_iff.1 this
    refine⟨cs',_,h2,h3,?_⟩
    exact qF (fun k hk=>hw' k (List.mem_cons_of_mem _ (List.mem_append_left _ hk))) _ (List.mem_map.2 ⟨_,List.getElem_mem _,rfl⟩)
   obtain⟨cs0,y0,h2,_,_⟩:=el 0 h0
   obtain⟨b,o,rfl,hb⟩:=aC6 h2 hn
   refine⟨b,o,rfl,hb,fun i hlt=>?_⟩
   obtain⟨cs',y,h3,h4,h5⟩:=el i hlt
   obtain⟨h6,h7⟩:=row_at h3
   exact⟨cs',y,m,Nat.lt_succ_self m,h6,h7,h4,h5⟩
theorem cS {n:Int} (h:(Lit.int .i64 n).wf=true):I64 n:=bounds_i64 h
theorem dZ {fuel:Nat} {cs:List Value} {x:DataW H × List MemPlace} (h:RdW enc hld W fuel 9 cs=some x) (hw:Light 9 x.1):∃s:ByteArray,cs=[.string s]∧s.size≤reachBytes:=by
 obtain⟨s,h1,rfl,h3⟩:=DataW.trod_string Tryz.underlying9 h
 refine⟨s,h1,?_⟩
 have:=hw s.data.toList.length (by simp[DataW.weights])
 simpa using this
theorem lB:∀(fuel:Nat) (cs:List Value) (x:DataW H × List MemPlace),RdW enc hld W fuel 66 cs=some x→Light 66 x.1→∃(c:VC) (d:Val),cs=c.cs∧IsVal (· < W.heap.size) W c d:=by
 intro fuel
 induction fuel using Nat.strongRecOn with
 | _ fuel ih =>
 intro cs x h hw
 obtain⟨xs,n,rfl,rfl,hl,hlen,hf⟩:=DataW.trod_struct Tryz.underlying66 h
 rw[gI] at hl
 match cs,hl with
 | [c0,c1,c2,c3,c4,c5],_ =>
 match xs,hlen with
 | [y0,y1,y2,y3,y4,y5],_ =>
 have f0:=hf 0 _ rfl
 have f1:=hf 1 _ rfl
 have f2:=hf 2 _ rfl
 have f3:=hf 3 _ rfl
 have f4:=hf 4 _ rfl
 have f5:=hf 5 _ rfl
 simp only[cN,jH,qT,aBd,List.drop_zero,List.drop_succ_cons,List.take_succ_cons,List.take_zero,List.getElem?_cons_zero,List.getElem?_cons_succ] at f0 f1 f2 f3 f4 f5
 obtain⟨k,e0,rfl,w0⟩:=DataW.trod_int Tryz.underlying3 f0
 obtain⟨i,e1,rfl,w1⟩:=DataW.trod_int Tryz.underlying3 f1
 obtain⟨s,e2,rfl,w2⟩:=DataW.trod_int Tryz.underlying3 f2
 cases e0;cases e1;cases e2
 have hw':∀m∈y3.1.weights Tryz.prog 9++(y4.1.weights Tryz.prog 63++y5.1.weights Tryz.prog 64),m≤reachBytes:=fun m hm=>hw m (by
  simp only[DataW.weights,Tryz.underlying66,DataW.weightsEach,List.map_cons,List.map_nil,List.append_nil,List.nil_append]
  exact hm)
 obtain⟨t,e3,ht⟩:=dZ f3 (fun m hm=>hw' m (List.mem_append_left _ hm))
 obtain⟨la,ll,lc,e4,hlc,hlb,hl⟩:=open_row' Tryz.underlying63 6 88 (by decide) gI vJ f4 (fun m hm=>hw' m (List.mem_append_right _ (List.mem_append_left _ hm)))
 obtain⟨fa,fl,fc,e5,hfc,hfb,hfl⟩:=open_row' Tryz.underlying64 7 104 (by decide) aDk aDs f5 (fun m hm=>hw' m (List.mem_append_right _ (List.mem_append_right _ hm)))
 cases e3;cases e4;cases e5
 have L:∃l:List Val,l.length=ll∧(l=[]∨∃b o,la=some ⟨b,o,none⟩∧b<W.heap.size∧IsVals (· < W.heap.size) W b o l):=by
  rcases hl with h0 | ⟨b,o,rfl,hb,he⟩
  ·exact⟨[],by rw[h0];rfl,.inl rfl⟩
  ·obtain⟨l,hll,hq⟩:=fU (Q:=fun i (d:Val)=>∃c,At W b (o+i * 6) c∧IsVal (· < W.heap.size) W c d) ll fun i hi=>by
    obtain⟨cs',y,f,hf',hcl,hc,hr,hwy⟩:=he i hi
    obtain⟨c,d,rfl,hv⟩:=ih f (by omega) cs' y hr hwy
    exact⟨d,c,⟨hc 0 (by decide),hc 1 (by decide),hc 2 (by decide),hc 3 (by decide),hc 4 (by decide),hc 5 (by decide)⟩,hv⟩
   exact⟨l,hll,.inr ⟨b,o,rfl,hb,IsVals.of hq⟩⟩
 have F:∃(ns:List ByteArray) (fs:List Val),fs.length=fl∧ns.length=fs.length∧(fs=[]∨∃b o,fa=some ⟨b,o,none⟩∧b<W.heap.size∧IsFlds (· < W.heap.size) W b o ns fs):=by
  rcases hfl with h0 | ⟨b,o,rfl,hb,he⟩
  ·exact⟨[],[],by rw[h0];rfl,rfl,.inl rfl⟩
  ·obtain⟨l,hll,hq⟩:=fU (Q:=fun i (p:ByteArray × Val)=>(W.cell? ⟨b,o+i * 7,none⟩=some (.string p.1)∧p.1.size≤140737488351232)∧∃c,At W b (o+i * 7+1) c∧IsVal (· < W.heap.size) W c p.2) fl fun i hi=>by
    obtain⟨cs',y,f,hf',hcl,hc,hr,hwy⟩:=he i hi
    obtain⟨xs,m,hfm,rfl,hl2,hlen2,hg⟩:=DataW.trod_struct Tryz.underlying208 hr
    match cs',hcl with
    | [d0,d1,d2,d3,d4,d5,d6],_ =>
    match xs,hlen2 with
    | [y0,y1],_ =>
    have g0:=hg 0 _ rfl
    have g1:=hg 1 _ rfl
    simp only[jH,gI,List.drop_zero,List.drop_succ_cons,List.take_succ_cons,List.take_zero,List.getElem?_cons_zero,List.getElem?_cons_succ] at g0 g1
    have hwf:∀q∈y0.1.weights Tryz.prog 9++y1.1.weights Tryz.prog 66,q≤reachBytes:=fun q hq=>hwy q (by
     simp only[DataW.weights,Tryz.underlying208,DataW.weightsEach,List.map_cons,List.map_nil,List.append_nil,List.nil_append]
     exact hq)
    obtain⟨nm,e0,hnm⟩:=dZ g0 (fun q hq=>hwf q (List.mem_append_left _ hq))
    cases e0
    obtain⟨c,d,e1,hv⟩:=ih m (by omega) _ y1 g1 (fun q hq=>hwf q (List.mem_append_right _ hq))
    cases e1
    exact⟨(nm,d),⟨by have h0:=hc 0 (by decide);rw[Nat.add_zero] at h0;exact h0,hnm⟩,c,⟨hc 1 (by decide),hc 2 (by decide),hc 3 (by decide),hc 4 (by decide),hc 5 (by decide),hc 6 (by decide)⟩,hv⟩
   refine⟨l.map (·.1),l.map (·.2),by simp[hll],by simp,.inr ⟨b,o,rfl,hb,IsFlds.of (by simp) fun j hj hn=>?_⟩⟩
   simpa using hq j (by simpa using hj)
 obtain⟨l,hl1,hl2⟩:=L
 obtain⟨ns,fs,hf1,hf2,hf3⟩:=F
 exact⟨⟨k,i,s,t,la,ll,lc,fa,fl,fc⟩,.mk k i s t l ns fs,rfl,⟨rfl,rfl,rfl,rfl,⟨cS w0,cS w1,cS w2,ht,hlb,hfb,hlc,hfc⟩,hl1.symm,hf1.symm,hf2⟩,hl2,hf3⟩
theorem qE {fuel:Nat} {cs:List Value} {x:DataW H × List MemPlace} (h:RdW enc hld W fuel 40 cs=some x) (hw:Light 40 x.1):∃(a:Option Addr) (n c:Nat) (xs:List Int),cs=[.slice a n c]∧IsInts (· < W.heap.size) W a n c xs:=by
 obtain⟨a,n,c,e,hc,hb,hr⟩:=open_row' Tryz.underlying40 1 8 (by decide) cN aDr h hw
 rcases hr with h0 | ⟨b,o,rfl,hlt,he⟩
 ·exact⟨a,n,c,[],e,⟨h0,hc,hb,(fun x hx=>by cases hx),.inl rfl⟩⟩
 ·obtain⟨l,hll,hq⟩:=fU (Q:=fun i (z:Int)=>W.cell? ⟨b,o+i,none⟩=some (.int .i64 z)∧I64 z) n fun i hi=>by
   obtain⟨cs',y,f,hf',hcl,hc,hr,hwy⟩:=he i hi
   obtain⟨z,e1,rfl,w1⟩:=DataW.trod_int Tryz.underlying3 hr
   subst e1
   exact⟨z,by have h0:=hc 0 (by decide);rw[Nat.add_zero,Nat.mul_one] at h0;exact h0,cS w1⟩
  refine⟨_,n,c,l,e,⟨hll.symm,hc,hb,fun x hx=>?_,.inr ⟨b,o,rfl,hlt,fun j hj=>(hq j hj).1⟩⟩⟩
  obtain⟨j,hj,rfl⟩:=List.getElem_of_mem hx
  exact(hq j hj).2
theorem rP {fuel:Nat} {cs:List Value} {x:DataW H × List MemPlace} (h:RdW enc hld W fuel 62 cs=some x) (hw:Light 62 x.1):∃(c:SC) (d:St),cs=[.int .i64 c.e,.slice c.a c.n c.c]∧IsSt (· < W.heap.size) W c d:=by
 obtain⟨y0,y1,m,rfl,hl2,g0,g1⟩:=trod_struct2 Tryz.underlying62 h
 rw[mR] at hl2
 match cs,hl2 with
 | [d0,d1],_ =>
 simp only[cN,qX,List.drop_zero,List.drop_succ_cons,List.take_succ_cons,List.take_zero] at g0 g1
 obtain⟨e,e0,rfl,w0⟩:=DataW.trod_int Tryz.underlying3 g0
 obtain⟨a,n,c,xs,e1,hi⟩:=qE g1 (fun q hq=>hw q (by
  simp only[DataW.weights,Tryz.underlying62,DataW.weightsEach,List.map_cons,List.map_nil,List.append_nil,List.nil_append]
  exact hq))
 cases e0;cases e1
 exact⟨⟨e,a,n,c⟩,⟨e,xs⟩,rfl,rfl,cS w0,hi⟩
theorem tY {fuel:Nat} {cs:List Value} {x:DataW H × List MemPlace} (h:RdW enc hld W fuel 68 cs=some x) (hw:Light 68 x.1):∃(c:MC) (d:Msg),cs=[.int .i64 c.st.e,.slice c.st.a c.st.n c.st.c,.int .i64 c.m,.slice c.a c.n c.c,.int .i64 c.b.k,.int .i64 c.b.i,.int .i64 c.b.s,.string c.b.t,.slice c.b.la c.b.ll c.b.lc,.slice c.b.fa c.b.fl c.b.fc]∧IsMsg (· < W.heap.size) W c d:=by
 obtain⟨xs,n,rfl,rfl,hl,hlen,hf⟩:=DataW.trod_struct Tryz.underlying68 h
 rw[oJ] at hl
 match cs,hl with
 | [c0,c1,c2,c3,c4,c5,c6,c7,c8,c9],_ =>
 match xs,hlen with
 | [y0,y1,y2,y3],_ =>
 have f0:=hf 0 _ rfl
 have f1:=hf 1 _ rfl
 have f2:=hf 2 _ rfl
 have f3:=hf 3 _ rfl
 simp only[cN,qX,mR,gI,List.drop_zero,List.drop_succ_cons,List.take_succ_cons,List.take_zero,List.getElem?_cons_zero,List.getElem?_cons_succ] at f0 f1 f2 f3
 have hw':∀m∈y0.1.weights Tryz.prog 62++(y1.1.weights Tryz.prog 3++(y2.1.weights Tryz.prog 40++y3.1.weights Tryz.prog 66)),m≤reachBytes:=fun m hm=>hw m (by
  simp only[DataW.weights,Tryz.underlying68,DataW.weightsEach,List.map_cons,List.map_nil,List.append_nil,List.nil_append]
  exact hm)
 obtain⟨c,d,e0,hs⟩:=rP f0 (fun q hq=>hw' q (List.mem_append_left _ hq))
 obtain⟨m,e1,rfl,w1⟩:=DataW.trod_int Tryz.underlying3 f1
 obtain⟨a,k,cc,es,e2,hi⟩:=qE f2 (fun q hq=>hw' q (List.mem_append_right _ (List.mem_append_right _ (List.mem_append_left _ hq))))
 obtain⟨b,db,e3,hb⟩:=lB _ _ _ f3 (fun q hq=>hw' q (List.mem_append_right _ (List.mem_append_right _ (List.mem_append_right _ hq))))
 cases e0;cases e1;cases e2
 obtain⟨bk,bi,bs,bt,bla,bll,blc,bfa,bfl,bfc⟩:=b
 simp only[VC.cs] at e3
 cases e3
 exact⟨⟨c,m,a,k,cc,⟨bk,bi,bs,bt,bla,bll,blc,bfa,bfl,bfc⟩⟩,⟨d,m,es,db⟩,rfl,hs,rfl,cS w1,hi,hb⟩
end
end
section
open Go Go.RowKit Go.Shelf
theorem iW {P:Program} {W:World} {name:String} {k:IntKind} {zs:List Int} {g:Nat} {t e:TypeId} {n:Nat}
 (hg:P.globalNamed name=some g) (hty:(P.globals[g]?).map (·.type)=some t) (ht:P.underlying t=some (.array n e)) (he:P.underlying e=some (.int k)) (hce:P.cellsOf e=1) (hct:P.cellsOf t=n)
 (h:Lib.VarReads P W name (Lib.tabData k zs)):Lib.TabIs P W name k zs:=by
 obtain⟨g',t',cs,fuel,p,hg',ht',hvar,hd⟩:=h
 obtain rfl:=Option.some.inj (hg.symm.trans hg')
 obtain rfl:=Option.some.inj (hty.symm.trans ht')
 unfold Lib.TabIs
 rw[hvar,←Lib.cells_of_tab ht he hce hct hd]
theorem pow_eq:(Rows.laid_internal_strconv_uint64pow10:DataW Unit)=Lib.tabData .u64 Lib.pow10Tab:=by kernel_rfl
theorem acc_eq:(Rows.laid_unicode_utf8_acceptRanges:DataW Unit)=Lib.acceptData:=by kernel_rfl
theorem aD4:(Rows.laid_unicode_utf8_first:DataW Unit)=Lib.firstData:=Pinned.utf8First_eq
theorem aD1:(Tryz.prog.globals[5]?).map (·.type)=some 342:=by kernel_rfl
theorem tabs_of {l : List (String × DataW Unit)} {W : World} (h : laidMet Tryz.prog l W) (h1 : ("unicode/utf8.first",Rows.laid_unicode_utf8_first) ∈ l) (h2 : ("unicode/utf8.acceptRanges",Rows.laid_unicode_utf8_acceptRanges) ∈ l)
 (h3 : ("internal/strconv.uint64pow10",Rows.laid_internal_strconv_uint64pow10) ∈ l) : Tabs W :=
 ⟨utf8Tabs_of_readsT (ρ:=Tryz.laysValid_ren) (U8Types.of196 Tryz.laysValid) ⟨by kernel_rfl,by kernel_rfl,by kernel_rfl,by kernel_rfl,by kernel_rfl,by kernel_rfl,by kernel_rfl⟩ (aD4▸Lib.laidMet.reads h h1) (acc_eq▸Lib.laidMet.reads h h2),
   iW gPow aD1 Tryz.underlying342 Tryz.underlying216 (by kernel_rfl) (by kernel_rfl) (pow_eq▸Lib.laidMet.reads h h3)⟩
end
section
open Go Go.RowKit Go.ChangeShapes Go.WideShapes Go.ChangeAt
theorem own:ownKnob Tryz.prog.godebug=none:=by kernel_rfl
theorem laidOut:laidOutB Tryz.prog=true:=by kernel_rfl
theorem sS {v:Value} {l:List Value} (h:v.cells.toList=l) (hl:l.length≠1):v=.agg l.toArray:=by
 cases v<;>first
  | (rename_i xs;have h':xs.toList=l:=h;rw[←h'])
  | (exfalso;apply hl;rw[←h];rfl)
section
variable {H:Type} {enc:TypeId × Value→H} {W:World}
theorem aCp {ts:List TypeId} {ds:List (DataW H)} (h:(DataW.weightsEach Tryz.prog ts ds).all (· ≤ reachBytes)=true):∀n∈DataW.weightsEach Tryz.prog ts ds,n≤reachBytes:=fun n hn=>by simpa using List.all_eq_true.1 h n hn
theorem nL {t:TypeId} {ts:List TypeId} {d:DataW H} {ds:List (DataW H)} (h:∀n∈DataW.weightsEach Tryz.prog (t :: ts) (d :: ds),n≤reachBytes):Light t d:=fun n hn=>h n (by simp only[DataW.weightsEach,List.mem_append];exact .inl hn)
theorem nK {t:TypeId} {ts:List TypeId} {d:DataW H} {ds:List (DataW H)} (h:∀n∈DataW.weightsEach Tryz.prog (t :: ts) (d :: ds),n≤reachBytes):∀n∈DataW.weightsEach Tryz.prog ts ds,n≤reachBytes:=fun n hn=>h n (by simp only[DataW.weightsEach,List.mem_append];exact .inr hn)
end
end
section
open Go Go.RowKit Go.ChangeShapes Go.WideShapes Go.ChangeAt
theorem qW:Tryz.prog.cellsOf 73=11:=by kernel_rfl
theorem vG:Tryz.prog.cellsOf 75=18:=by kernel_rfl
theorem qU:Tryz.prog.cellsOf 9=1:=by kernel_rfl
theorem yO:Tryz.prog.cellsOf 4=1:=by kernel_rfl
theorem aDt:Tryz.prog.bytesOf 75=248:=by kernel_rfl
section
variable {H:Type} {enc:TypeId × Value→H} {hld:Bool} {W:World}
theorem zZ {fuel:Nat} {cs:List Value} {x:DataW H × List MemPlace} (h:RdW enc hld W fuel 73 cs=some x) (hw:Light 73 x.1):∃(sc:SC) (sd:St) (sv:ByteArray) (ca:Int) (un:Bool) (c:VC) (d:Val),cs=[.int .i64 sc.e,.slice sc.a sc.n sc.c,.string sv,.int .i64 ca,.bool un,.int .i64 c.k,.int .i64 c.i,.int .i64 c.s,.string c.t,.slice c.la c.ll c.lc,.slice c.fa c.fl c.fc]∧IsSt (· < W.heap.size) W sc sd∧I64 ca∧IsVal (· < W.heap.size) W c d:=by
 obtain⟨xs,n,rfl,rfl,hl,hlen,hf⟩:=DataW.trod_struct Tryz.underlying73 h
 rw[qW] at hl
 match cs,hl with
 | [c0,c1,c2,c3,c4,c5,c6,c7,c8,c9,c10],_ =>
 match xs,hlen with
 | [y0,y1,y2,y3,y4],_ =>
 have f0:=hf 0 _ rfl
 have f1:=hf 1 _ rfl
 have f2:=hf 2 _ rfl
 have f3:=hf 3 _ rfl
 have f4:=hf 4 _ rfl
 simp only[cN,qU,yO,gI,mR,List.drop_zero,List.drop_succ_cons,List.take_succ_cons,List.take_zero,List.getElem?_cons_zero,List.getElem?_cons_succ] at f0 f1 f2 f3 f4
 have hw':∀m∈y0.1.weights Tryz.prog 62++(y1.1.weights Tryz.prog 9++(y2.1.weights Tryz.prog 3++(y3.1.weights Tryz.prog 4++y4.1.weights Tryz.prog 66))),m≤reachBytes:=fun m hm=>hw m (by
  simp only[DataW.weights,Tryz.underlying73,DataW.weightsEach,List.map_cons,List.map_nil,List.append_nil,List.nil_append]
  exact hm)
 obtain⟨sc,sd,e0,hs⟩:=rP f0 (fun q hq=>hw' q (List.mem_append_left _ hq))
 obtain⟨sv,e1,-⟩:=dZ f1 (fun q hq=>hw' q (List.mem_append_right _ (List.mem_append_left _ hq)))
 obtain⟨m,e2,rfl,w2⟩:=DataW.trod_int Tryz.underlying3 f2
 obtain⟨un,e3,-⟩:=DataW.trod_bool Tryz.underlying4 f3
 obtain⟨b,db,e4,hb⟩:=lB _ _ _ f4 (fun q hq=>hw' q (List.mem_append_right _ (List.mem_append_right _ (List.mem_append_right _ (List.mem_append_right _ hq)))))
 cases e0;cases e1;cases e2;cases e3
 obtain⟨bk,bi,bs,bt,bla,bll,blc,bfa,bfl,bfc⟩:=b
 simp only[VC.cs] at e4
 cases e4
 exact⟨sc,sd,sv,m,un,⟨bk,bi,bs,bt,bla,bll,blc,bfa,bfl,bfc⟩,db,rfl,hs,cS w2,hb⟩
theorem aCg {fuel:Nat} {cs:List Value} {x:DataW H × List MemPlace} (h:RdW enc hld W fuel 75 cs=some x) (hw:Light 75 x.1):∃(c:EfC) (d:Ef),cs=EfC.cs c∧IsEf (· < W.heap.size) W c d:=by
 obtain⟨xs,n,rfl,rfl,hl,hlen,hf⟩:=DataW.trod_struct Tryz.underlying75 h
 rw[vG] at hl
 match cs,hl with
 | [c0,c1,c2,c3,c4,c5,c6,c7,c8,c9,c10,c11,c12,c13,c14,c15,c16,c17],_ =>
 match xs,hlen with
 | [y0,y1,y2,y3,y4,y5,y6],_ =>
 have f0:=hf 0 _ rfl
 have f1:=hf 1 _ rfl
 have f2:=hf 2 _ rfl
 have f3:=hf 3 _ rfl
 have f4:=hf 4 _ rfl
 have f5:=hf 5 _ rfl
 have f6:=hf 6 _ rfl
 simp only[cN,qU,qW,mR,List.drop_zero,List.drop_succ_cons,List.take_succ_cons,List.take_zero,List.getElem?_cons_zero,List.getElem?_cons_succ] at f0 f1 f2 f3 f4 f5 f6
 have hw':∀m∈y0.1.weights Tryz.prog 3++(y1.1.weights Tryz.prog 9++(y2.1.weights Tryz.prog 3++(y3.1.weights Tryz.prog 9++(y4.1.weights Tryz.prog 62++(y5.1.weights Tryz.prog 73++y6.1.weights Tryz.prog 9))))),m≤reachBytes:=fun m hm=>hw m (by
  simp only[DataW.weights,Tryz.underlying75,DataW.weightsEach,List.map_cons,List.map_nil,List.append_nil,List.nil_append]
  exact hm)
 have hr:∀{α:Type} {a b:List α} {q:α},q∈b→q∈a++b:=fun h=>List.mem_append_right _ h
 have hq:∀{α:Type} {a b:List α} {q:α},q∈a→q∈a++b:=fun h=>List.mem_append_left _ h
 obtain⟨k,e0,rfl,w0⟩:=DataW.trod_int Tryz.underlying3 f0
 obtain⟨nm,e1,hnm⟩:=dZ f1 (fun q h=>hw' q (hr (hq h)))
 obtain⟨nu,e2,rfl,w2⟩:=DataW.trod_int Tryz.underlying3 f2
 obtain⟨tx,e3,htx⟩:=dZ f3 (fun q h=>hw' q (hr (hr (hr (hq h)))))
 obtain⟨sc,sd,e4,hs⟩:=rP f4 (fun q h=>hw' q (hr (hr (hr (hr (hq h))))))
 obtain⟨rc,rd,sv,ca,un,b,db,e5,hrs,hca,hb⟩:=zZ f5 (fun q h=>hw' q (hr (hr (hr (hr (hr (hq h)))))))
 obtain⟨nd,e6,hnd⟩:=dZ f6 (fun q h=>hw' q (hr (hr (hr (hr (hr (hr h)))))))
 cases e0;cases e1;cases e2;cases e3;cases e4;cases e5;cases e6
 exact⟨⟨k,nm,nu,tx,sc,rc,sv,ca,un,b,nd⟩,⟨k,nm,nu,tx,sd,rd,sv,ca,un,db,nd⟩,rfl,⟨rfl,rfl,hnm,rfl,rfl,htx,hs,hrs,rfl,rfl,hca,rfl,hb,rfl,hnd⟩⟩
theorem aA0 {fuel:Nat} {cs:List Value} {x:DataW H × List MemPlace} (h:RdW enc hld W fuel 28 cs=some x) (hw:Light 28 x.1):∃(a:Option Addr) (n c:Nat) (l:List Ef),cs=[.slice a n c]∧IsRow efK (· < W.heap.size) W a n c l:=by
 obtain⟨a,n,c,e,hc,hb,hr⟩:=open_row' Tryz.underlying28 18 248 (by decide) vG aDt h hw
 rcases hr with h0 | ⟨b,o,rfl,hlt,he⟩
 ·exact⟨a,n,c,[],e,⟨h0,hc,hb,.inl rfl⟩⟩
 ·obtain⟨l,hll,hq⟩:=fU (Q:=fun i (d:Ef)=>∃x,AtG efK W b (o+i * 18) x∧IsEf (· < W.heap.size) W x d) n fun i hi=>by
   obtain⟨cs',y,f,hf',hcl,hc,hr,hwy⟩:=he i hi
   obtain⟨x,d,rfl,hm⟩:=aCg hr hwy
   exact⟨d,x,hc,hm⟩
  exact⟨_,n,c,l,e,⟨hll.symm,hc,hb,.inr ⟨b,o,rfl,hlt,hq⟩⟩⟩
end
end
section
open Go Go.RowKit Go.ChangeShapes Go.WideShapes Go.ChangeAt
theorem aBb:Tryz.prog.cellsOf 131=1:=by kernel_rfl
theorem qV:Tryz.prog.cellsOf 133=10:=by kernel_rfl
theorem yN:Tryz.prog.cellsOf 53=1:=by kernel_rfl
theorem vC:Tryz.prog.cellsOf 55=3:=by kernel_rfl
theorem aBh:Tryz.prog.bytesOf 133=152:=by kernel_rfl
section
variable {H:Type} {enc:TypeId × Value→H} {hld:Bool} {W:World}
theorem fE {C D:Type} (K:Kit C D) {t e:TypeId} {fuel:Nat} {cs:List Value} {x:DataW H × List MemPlace} (ht:Tryz.prog.underlying t=some (.slice e)) (hc:Tryz.prog.cellsOf e=K.n) (hby:Tryz.prog.bytesOf e=K.by')
 (ho:∀(f:Nat) (cs:List Value) (y:DataW H × List MemPlace),RdW enc hld W f e cs=some y→Light e y.1→∃(c:C) (d:D),cs=K.cs c∧K.Is (· < W.heap.size) W c d)
 (h:RdW enc hld W fuel t cs=some x) (hw:Light t x.1):∃(a:Option Addr) (n c:Nat) (l:List D),cs=[.slice a n c]∧IsRow K (· < W.heap.size) W a n c l:=by
 obtain⟨a,n,c,e1,hc1,hb,hr⟩:=open_row' ht K.n K.by' K.pos hc hby h hw
 rcases hr with h0 | ⟨b,o,rfl,hlt,he⟩
 ·exact⟨a,n,c,[],e1,⟨h0,hc1,hb,.inl rfl⟩⟩
 ·obtain⟨l,hll,hq⟩:=fU (Q:=fun i (d:D)=>∃x:C,AtG K W b (o+i * K.n) x∧K.Is (· < W.heap.size) W x d) n fun i hi=>by
   obtain⟨cs',y,f,hf',hcl,hc,hr,hwy⟩:=he i hi
   obtain⟨x,d,rfl,hm⟩:=ho f cs' y hr hwy
   exact⟨d,x,hc,hm⟩
  exact⟨_,n,c,l,e1,⟨hll.symm,hc1,hb,.inr ⟨b,o,rfl,hlt,hq⟩⟩⟩
theorem zY {fuel:Nat} {cs:List Value} {x:DataW H × List MemPlace} (h:RdW enc hld W fuel 133 cs=some x) (hw:Light 133 x.1):∃(c:SlC) (d:Slot),cs=c.cs∧IsSl (· < W.heap.size) W c d:=by
 obtain⟨xs,n,rfl,rfl,hl,hlen,hf⟩:=DataW.trod_struct Tryz.underlying133 h
 rw[qV] at hl
 match cs,hl with
 | [c0,c1,c2,c3,c4,c5,c6,c7,c8,c9],_ =>
 match xs,hlen with
 | [y0,y1,y2,y3,y4],_ =>
 have f0:=hf 0 _ rfl
 have f1:=hf 1 _ rfl
 have f2:=hf 2 _ rfl
 have f3:=hf 3 _ rfl
 have f4:=hf 4 _ rfl
 simp only[cN,aBb,qT,gI,List.drop_zero,List.drop_succ_cons,List.take_succ_cons,List.take_zero,List.getElem?_cons_zero,List.getElem?_cons_succ] at f0 f1 f2 f3 f4
 have hw':∀m∈y0.1.weights Tryz.prog 66++(y1.1.weights Tryz.prog 3++(y2.1.weights Tryz.prog 3++(y3.1.weights Tryz.prog 131++y4.1.weights Tryz.prog 63))),m≤reachBytes:=fun m hm=>hw m (by
  simp only[DataW.weights,Tryz.underlying133,DataW.weightsEach,List.map_cons,List.map_nil,List.append_nil,List.nil_append]
  exact hm)
 obtain⟨b,db,e0,hb⟩:=lB _ _ _ f0 (fun q hq=>hw' q (List.mem_append_left _ hq))
 obtain⟨m,e1,rfl,w1⟩:=DataW.trod_int Tryz.underlying3 f1
 obtain⟨m2,e2,rfl,w2⟩:=DataW.trod_int Tryz.underlying3 f2
 obtain⟨ia,il,ic,di,e3,hi⟩:=fE msgK Tryz.underlying131 oJ aDp (fun f cs y hr hl=>by obtain⟨c,d,e,hm⟩:=tY hr hl;exact⟨c,d,e,hm⟩) f3 (fun q hq=>hw' q (List.mem_append_right _ (List.mem_append_right _ (List.mem_append_right _ (List.mem_append_left _ hq)))))
 obtain⟨va,vl,vc,dv,e4,hv⟩:=fE valK Tryz.underlying63 gI vJ (fun f cs y hr hl=>by obtain⟨c,d,e,hm⟩:=lB f cs y hr hl;exact⟨c,d,e,hm⟩) f4 (fun q hq=>hw' q (List.mem_append_right _ (List.mem_append_right _ (List.mem_append_right _ (List.mem_append_right _ hq)))))
 cases e1;cases e2;cases e3;cases e4
 obtain⟨bk,bi,bs,bt,bla,bll,blc,bfa,bfl,bfc⟩:=b
 simp only[VC.cs] at e0
 cases e0
 exact⟨⟨⟨bk,bi,bs,bt,bla,bll,blc,bfa,bfl,bfc⟩,m,m2,ia,il,ic,va,vl,vc⟩,⟨db,m,m2,di,dv⟩,rfl,hb,rfl,cS w1,rfl,cS w2,hi,hv⟩
theorem xM {fuel:Nat} {cs:List Value} {x:DataW H × List MemPlace} (h:RdW enc hld W fuel 53 cs=some x) (hw:Light 53 x.1):∃(a:Option Addr) (n c:Nat) (l:List Slot),cs=[.slice a n c]∧IsRow slK (· < W.heap.size) W a n c l :=
 fE slK Tryz.underlying53 qV aBh (fun f cs y hr hl=>zY hr hl) h hw
theorem aCb {fuel:Nat} {cs:List Value} {x:DataW H × List MemPlace} (h:RdW enc hld W fuel 55 cs=some x) (hw:Light 55 x.1):∃(c:StC) (d:Sta),cs=[.int .i64 c.n,.int .i64 c.t,.slice c.a c.l c.c]∧IsSta (· < W.heap.size) W c d:=by
 obtain⟨xs,n,rfl,rfl,hl,hlen,hf⟩:=DataW.trod_struct Tryz.underlying55 h
 rw[vC] at hl
 match cs,hl with
 | [c0,c1,c2],_ =>
 match xs,hlen with
 | [y0,y1,y2],_ =>
 have f0:=hf 0 _ rfl
 have f1:=hf 1 _ rfl
 have f2:=hf 2 _ rfl
 simp only[cN,yN,List.drop_zero,List.drop_succ_cons,List.take_succ_cons,List.take_zero,List.getElem?_cons_zero,List.getElem?_cons_succ] at f0 f1 f2
 have hw':∀m∈y0.1.weights Tryz.prog 3++(y1.1.weights Tryz.prog 3++y2.1.weights Tryz.prog 53),m≤reachBytes:=fun m hm=>hw m (by
  simp only[DataW.weights,Tryz.underlying55,DataW.weightsEach,List.map_cons,List.map_nil,List.append_nil,List.nil_append]
  exact hm)
 obtain⟨m,e0,rfl,w0⟩:=DataW.trod_int Tryz.underlying3 f0
 obtain⟨m2,e1,rfl,w1⟩:=DataW.trod_int Tryz.underlying3 f1
 obtain⟨a,k,c,dl,e2,hi⟩:=xM f2 (fun q hq=>hw' q (List.mem_append_right _ (List.mem_append_right _ hq)))
 cases e0;cases e1;cases e2
 exact⟨⟨m,m2,a,k,c⟩,⟨m,m2,dl⟩,rfl,rfl,cS w0,rfl,cS w1,hi⟩
end
section
variable {H:Type} {enc:TypeId × Value→H} {W:World}
end
end
section
open Go Go.RowKit Go.ChangeShapes Go.WideShapes Go.ChangeAt
theorem oK:Tryz.prog.cellsOf 58=2:=by kernel_rfl
theorem vD:Tryz.prog.cellsOf 60=4:=by kernel_rfl
theorem vF:Tryz.prog.cellsOf 70=13:=by kernel_rfl
theorem vE:Tryz.prog.cellsOf 27=8:=by kernel_rfl
theorem aDj:Tryz.prog.cellsOf 30=9:=by kernel_rfl
theorem aB9:Tryz.prog.cellsOf 22=1:=by kernel_rfl
theorem aBf:Tryz.prog.cellsOf 23=1:=by kernel_rfl
theorem aBa:Tryz.prog.cellsOf 24=1:=by kernel_rfl
theorem aBc:Tryz.prog.cellsOf 25=1:=by kernel_rfl
theorem aBe:Tryz.prog.cellsOf 28=1:=by kernel_rfl
theorem vK:Tryz.prog.bytesOf 58=24:=by kernel_rfl
theorem aDo:Tryz.prog.bytesOf 60=48:=by kernel_rfl
theorem aDq:Tryz.prog.bytesOf 70=192:=by kernel_rfl
theorem aDn:Tryz.prog.bytesOf 55=40:=by kernel_rfl
section
variable {H:Type} {enc:TypeId × Value→H} {hld:Bool} {W:World}
theorem tZ {fuel:Nat} {cs:List Value} {x:DataW H × List MemPlace} (h:RdW enc hld W fuel 58 cs=some x) (hw:Light 58 x.1):∃(c d:Cnt),cs=c.cs∧IsCnt (· < W.heap.size) W c d:=by
 obtain⟨xs,n,rfl,rfl,hl,hlen,hf⟩:=DataW.trod_struct Tryz.underlying58 h
 rw[oK] at hl
 match cs,hl with
 | [c0,c1],_ =>
 match xs,hlen with
 | [y0,y1],_ =>
 have f0:=hf 0 _ rfl
 have f1:=hf 1 _ rfl
 simp only[cN,jH,List.drop_zero,List.drop_succ_cons,List.take_succ_cons,List.take_zero,List.getElem?_cons_zero,List.getElem?_cons_succ] at f0 f1
 have hw':∀m∈y0.1.weights Tryz.prog 9++(y1.1.weights Tryz.prog 3),m≤reachBytes:=fun m hm=>hw m (by
  simp only[DataW.weights,Tryz.underlying58,DataW.weightsEach,List.map_cons,List.map_nil,List.append_nil,List.nil_append]
  exact hm)
 have hr:∀{α:Type} {a b:List α} {q:α},q∈b→q∈a++b:=fun h=>List.mem_append_right _ h
 have hq:∀{α:Type} {a b:List α} {q:α},q∈a→q∈a++b:=fun h=>List.mem_append_left _ h
 obtain⟨nm,e0,hnm⟩:=dZ f0 (fun q h=>hw' q (hq h))
 obtain⟨nu,e1,rfl,w1⟩:=DataW.trod_int Tryz.underlying3 f1
 cases e0;cases e1
 exact⟨⟨nm,nu⟩,⟨nm,nu⟩,rfl,rfl,hnm,cS w1⟩
theorem aCd {fuel:Nat} {cs:List Value} {x:DataW H × List MemPlace} (h:RdW enc hld W fuel 60 cs=some x) (hw:Light 60 x.1):∃(c d:Que),cs=c.cs∧IsQue (· < W.heap.size) W c d:=by
 obtain⟨xs,n,rfl,rfl,hl,hlen,hf⟩:=DataW.trod_struct Tryz.underlying60 h
 rw[vD] at hl
 match cs,hl with
 | [c0,c1,c2,c3],_ =>
 match xs,hlen with
 | [y0,y1,y2,y3],_ =>
 have f0:=hf 0 _ rfl
 have f1:=hf 1 _ rfl
 have f2:=hf 2 _ rfl
 have f3:=hf 3 _ rfl
 simp only[cN,jH,List.drop_zero,List.drop_succ_cons,List.take_succ_cons,List.take_zero,List.getElem?_cons_zero,List.getElem?_cons_succ] at f0 f1 f2 f3
 have hw':∀m∈y0.1.weights Tryz.prog 9++(y1.1.weights Tryz.prog 3++(y2.1.weights Tryz.prog 3++(y3.1.weights Tryz.prog 9))),m≤reachBytes:=fun m hm=>hw m (by
  simp only[DataW.weights,Tryz.underlying60,DataW.weightsEach,List.map_cons,List.map_nil,List.append_nil,List.nil_append]
  exact hm)
 have hr:∀{α:Type} {a b:List α} {q:α},q∈b→q∈a++b:=fun h=>List.mem_append_right _ h
 have hq:∀{α:Type} {a b:List α} {q:α},q∈a→q∈a++b:=fun h=>List.mem_append_left _ h
 obtain⟨nm,e0,hnm⟩:=dZ f0 (fun q h=>hw' q (hq h))
 obtain⟨nu,e1,rfl,w1⟩:=DataW.trod_int Tryz.underlying3 f1
 obtain⟨vr,e2,rfl,w2⟩:=DataW.trod_int Tryz.underlying3 f2
 obtain⟨tx,e3,htx⟩:=dZ f3 (fun q h=>hw' q (hr (hr (hr h))))
 cases e0;cases e1;cases e2;cases e3
 exact⟨⟨nm,nu,vr,tx⟩,⟨nm,nu,vr,tx⟩,rfl,rfl,hnm,cS w1,cS w2,htx⟩
theorem aCf {fuel:Nat} {cs:List Value} {x:DataW H × List MemPlace} (h:RdW enc hld W fuel 70 cs=some x) (hw:Light 70 x.1):∃(c:LetC) (d:Let),cs=c.cs∧IsLet (· < W.heap.size) W c d:=by
 obtain⟨xs,n,rfl,rfl,hl,hlen,hf⟩:=DataW.trod_struct Tryz.underlying70 h
 rw[vF] at hl
 match cs,hl with
 | [c0,c1,c2,c3,c4,c5,c6,c7,c8,c9,c10,c11,c12],_ =>
 match xs,hlen with
 | [y0,y1,y2,y3],_ =>
 have f0:=hf 0 _ rfl
 have f1:=hf 1 _ rfl
 have f2:=hf 2 _ rfl
 have f3:=hf 3 _ rfl
 simp only[cN,oJ,jH,List.drop_zero,List.drop_succ_cons,List.take_succ_cons,List.take_zero,List.getElem?_cons_zero,List.getElem?_cons_succ] at f0 f1 f2 f3
 have hw':∀m∈y0.1.weights Tryz.prog 68++(y1.1.weights Tryz.prog 9++(y2.1.weights Tryz.prog 9++(y3.1.weights Tryz.prog 3))),m≤reachBytes:=fun m hm=>hw m (by
  simp only[DataW.weights,Tryz.underlying70,DataW.weightsEach,List.map_cons,List.map_nil,List.append_nil,List.nil_append]
  exact hm)
 have hr:∀{α:Type} {a b:List α} {q:α},q∈b→q∈a++b:=fun h=>List.mem_append_right _ h
 have hq:∀{α:Type} {a b:List α} {q:α},q∈a→q∈a++b:=fun h=>List.mem_append_left _ h
 obtain⟨mc,md,e0,hm⟩:=tY f0 (fun q h=>hw' q (hq h))
 obtain⟨nd,e1,hnd⟩:=dZ f1 (fun q h=>hw' q (hr (hq h)))
 obtain⟨tx,e2,htx⟩:=dZ f2 (fun q h=>hw' q (hr (hr (hq h))))
 obtain⟨vr,e3,rfl,w3⟩:=DataW.trod_int Tryz.underlying3 f3
 cases e0;cases e1;cases e2;cases e3
 exact⟨⟨mc,nd,tx,vr⟩,⟨md,nd,tx,vr⟩,rfl,hm,rfl,hnd,rfl,htx,rfl,cS w3⟩
theorem aCe {fuel:Nat} {cs:List Value} {x:DataW H × List MemPlace} (h:RdW enc hld W fuel 27 cs=some x) (hw:Light 27 x.1):∃(v e t:Int) (na:Option Addr) (nl nc:Nat) (nd:List Sta) (aa:Option Addr) (al ac:Nat) (ad:List Cnt) (sa:Option Addr) (sl sc:Nat) (sd:List Cnt) (qa:Option Addr) (ql qc:Nat) (qd:List Que) (la:Option Addr) (ll lc:Nat) (ld:List Let),cs=[.int .i64 v,.int .i64 e,.int .i64 t,.slice na nl nc,.slice aa al ac,.slice sa sl sc,.slice qa ql qc,.slice la ll lc]∧I64 v∧I64 e∧I64 t∧IsRow staK (· < W.heap.size) W na nl nc nd∧IsRow cntK (· < W.heap.size) W aa al ac ad∧IsRow cntK (· < W.heap.size) W sa sl sc sd∧IsRow queK (· < W.heap.size) W qa ql qc qd∧IsRow letK (· < W.heap.size) W la ll lc ld:=by
 obtain⟨xs,n,rfl,rfl,hl,hlen,hf⟩:=DataW.trod_struct Tryz.underlying27 h
 rw[vE] at hl
 match cs,hl with
 | [c0,c1,c2,c3,c4,c5,c6,c7],_ =>
 match xs,hlen with
 | [y0,y1,y2,y3,y4,y5,y6,y7],_ =>
 have f0:=hf 0 _ rfl
 have f1:=hf 1 _ rfl
 have f2:=hf 2 _ rfl
 have f3:=hf 3 _ rfl
 have f4:=hf 4 _ rfl
 have f5:=hf 5 _ rfl
 have f6:=hf 6 _ rfl
 have f7:=hf 7 _ rfl
 simp only[aBf,cN,aBc,aBa,aB9,List.drop_zero,List.drop_succ_cons,List.take_succ_cons,List.take_zero,List.getElem?_cons_zero,List.getElem?_cons_succ] at f0 f1 f2 f3 f4 f5 f6 f7
 have hw':∀m∈y0.1.weights Tryz.prog 3++(y1.1.weights Tryz.prog 3++(y2.1.weights Tryz.prog 3++(y3.1.weights Tryz.prog 22++(y4.1.weights Tryz.prog 23++(y5.1.weights Tryz.prog 23++(y6.1.weights Tryz.prog 24++(y7.1.weights Tryz.prog 25))))))),m≤reachBytes:=fun m hm=>hw m (by
  simp only[DataW.weights,Tryz.underlying27,DataW.weightsEach,List.map_cons,List.map_nil,List.append_nil,List.nil_append]
  exact hm)
 have hr:∀{α:Type} {a b:List α} {q:α},q∈b→q∈a++b:=fun h=>List.mem_append_right _ h
 have hq:∀{α:Type} {a b:List α} {q:α},q∈a→q∈a++b:=fun h=>List.mem_append_left _ h
 obtain⟨v,e0,rfl,w0⟩:=DataW.trod_int Tryz.underlying3 f0
 obtain⟨e,e1,rfl,w1⟩:=DataW.trod_int Tryz.underlying3 f1
 obtain⟨t,e2,rfl,w2⟩:=DataW.trod_int Tryz.underlying3 f2
 obtain⟨na,nl,nc,nd,e3,hn⟩:=fE staK Tryz.underlying22 vC aDn (fun f cs y hr hl=>by obtain⟨c,d,e,hm⟩:=aCb hr hl;exact⟨c,d,e,hm⟩) f3 (fun q h=>hw' q (hr (hr (hr (hq h)))))
 obtain⟨aa,al,ac,ad,e4,ha⟩:=fE cntK Tryz.underlying23 oK vK (fun f cs y hr hl=>tZ hr hl) f4 (fun q h=>hw' q (hr (hr (hr (hr (hq h))))))
 obtain⟨sa,sl,sc,sd,e5,hs⟩:=fE cntK Tryz.underlying23 oK vK (fun f cs y hr hl=>tZ hr hl) f5 (fun q h=>hw' q (hr (hr (hr (hr (hr (hq h)))))))
 obtain⟨qa,ql,qc,qd,e6,hq'⟩:=fE queK Tryz.underlying24 vD aDo (fun f cs y hr hl=>aCd hr hl) f6 (fun q h=>hw' q (hr (hr (hr (hr (hr (hr (hq h))))))))
 obtain⟨la,ll,lc,ld,e7,hl'⟩:=fE letK Tryz.underlying25 vF aDq (fun f cs y hr hl=>aCf hr hl) f7 (fun q h=>hw' q (hr (hr (hr (hr (hr (hr (hr h))))))))
 cases e0;cases e1;cases e2;cases e3;cases e4;cases e5;cases e6;cases e7
 exact⟨v,e,t,na,nl,nc,nd,aa,al,ac,ad,sa,sl,sc,sd,qa,ql,qc,qd,la,ll,lc,ld,rfl,cS w0,cS w1,cS w2,hn,ha,hs,hq',hl'⟩
theorem aCc {fuel:Nat} {cs:List Value} {x:DataW H × List MemPlace} (h:RdW enc hld W fuel 30 cs=some x) (hw:Light 30 x.1):∃(c:SnC) (d:Snp),cs=c.cs∧IsSn (· < W.heap.size) W c d:=by
 obtain⟨xs,n,rfl,rfl,hl,hlen,hf⟩:=DataW.trod_struct Tryz.underlying30 h
 rw[aDj] at hl
 match cs,hl with
 | [c0,c1,c2,c3,c4,c5,c6,c7,c8],_ =>
 match xs,hlen with
 | [y0,y1],_ =>
 have f0:=hf 0 _ rfl
 have f1:=hf 1 _ rfl
 simp only[aBe,vE,List.drop_zero,List.drop_succ_cons,List.take_succ_cons,List.take_zero,List.getElem?_cons_zero,List.getElem?_cons_succ] at f0 f1
 have hw':∀m∈y0.1.weights Tryz.prog 27++(y1.1.weights Tryz.prog 28),m≤reachBytes:=fun m hm=>hw m (by
  simp only[DataW.weights,Tryz.underlying30,DataW.weightsEach,List.map_cons,List.map_nil,List.append_nil,List.nil_append]
  exact hm)
 have hr:∀{α:Type} {a b:List α} {q:α},q∈b→q∈a++b:=fun h=>List.mem_append_right _ h
 have hq:∀{α:Type} {a b:List α} {q:α},q∈a→q∈a++b:=fun h=>List.mem_append_left _ h
 obtain⟨v,e,t,na,nl,nc,nd,aa,al,ac,ad,sa,sl,sc,sd,qa,ql,qc,qd,la,ll,lc,ld,e0,hv,he,ht,hn,ha,hs,hq',hl'⟩:=aCe f0 (fun q h=>hw' q (hq h))
 obtain⟨pa,pl,pc,pd,e1,hp⟩:=aA0 f1 (fun q h=>hw' q (hr h))
 cases e0;cases e1
 exact⟨⟨v,e,t,na,nl,nc,aa,al,ac,sa,sl,sc,qa,ql,qc,la,ll,lc,pa,pl,pc⟩,⟨v,e,t,nd,ad,sd,qd,ld,pd⟩,rfl,rfl,hv,rfl,he,rfl,ht,hn,ha,hs,hq',hl',hp⟩
end
section
variable {H:Type} {enc:TypeId × Value→H} {W:World}
theorem arg_snp {v:Value} {d:DataW H} {p:List MemPlace} (h:DataW.Trod enc Tryz.prog W 0 (fun _=>true) true 30 v d p) (hw:Light 30 d):∃(c:SnC) (x:Snp),v=c.w∧IsSn (· < W.heap.size) W c x:=by
 obtain⟨fuel,hr⟩:=h
 obtain⟨c,x,hc,hv⟩:=aCc hr hw
 exact⟨c,x,sS hc (by simp[SnC.cs]),hv⟩
end
end
section
open Go Go.RowKit Go.Shelf Go.ChangeShapes
theorem aAj {P:Program} {W:World} {name nm:String} {g:Nat} {t:TypeId} {ms:Array (String × TypeId)} {d:DataW Unit}
 (hg:P.globalNamed name=some g) (ht:(P.globals[g]?).map (·.type)=some t) (hi:P.underlying t=some (.interface ms)) (h:Lib.VarReads P W name (.iface nm d)):IfCell g W:=by
 obtain⟨g',t',cs,fuel,p,hg',ht',hv,hd⟩:=h
 obtain rfl:=Option.some.inj (hg.symm.trans hg')
 obtain rfl:=Option.some.inj (ht.symm.trans ht')
 obtain⟨f1,u,v,hcs,_⟩:=iface_of_trod hi hd
 have hc:=World.var?_cell hg hv 0
 have e:cs = #[.iface u v]:=by cases cs;simp_all
 refine⟨.iface u v,?_,.inr ⟨u,v,rfl⟩⟩
 rw[hc,e];rfl
theorem gSyn : Tryz.prog.globalNamed "strconv.ErrSyntax" = some 3:=by kernel_rfl
theorem gRan : Tryz.prog.globalNamed "strconv.ErrRange" = some 4:=by kernel_rfl
theorem gSynT:(Tryz.prog.globals[3]?).map (·.type)=some 144:=by kernel_rfl
theorem gRanT:(Tryz.prog.globals[4]?).map (·.type)=some 144:=by kernel_rfl
theorem aA3 {W:World} (h:W.ShapedOpen Tryz.prog):∃m,W.cell? ⟨2,0,none⟩=some (.int .i64 m) :=
 cell_of_shapedOpen_int (zero:=#[.int .i64 0]) (t:=3) h (of_decide_eq_true (by kernel_rfl)) (by kernel_rfl) rfl (by kernel_rfl) (by kernel_rfl) Tryz.underlying3
theorem xN {l : List (String × DataW Unit)} {W : World} (h : laidMet Tryz.prog l W) (hs : W.ShapedOpen Tryz.prog) (h1 : ("strconv.ErrSyntax",Rows.laid_strconv_ErrSyntax) ∈ l) (h2 : ("strconv.ErrRange",Rows.laid_strconv_ErrRange) ∈ l) : NumVars W :=
 ⟨aAj gSyn gSynT Tryz.underlying144 (Lib.laidMet.reads h h1),aAj gRan gRanT Tryz.underlying144 (Lib.laidMet.reads h h2),aA3 hs⟩
theorem kH {H:Type} {enc:TypeId × Value→H} {a:Assume} {C:Checked} {os:Os} {f:FuncId} {fn:Func} {s:ChangeSpec} {conds:List PathCond} {apart fresh handsOn again:Bool} {X:World→Array Value→Prop}
 (hX:∀(w w':World) (args:Array Value),w.heap=w'.heap→X w args→X w' args)
 (own:ownKnob C.prog.godebug=none) (started:os.Started) (noInit:C.prog.inits.idxOf? f=none) (hfn:C.prog.funcs[f]?=some fn)
 (witness:∃(w:World) (tape:Tape) (i:Input),w.os=os∧(w.forCall tape i).Shaped C.prog∧i.vars=[]∧Input.okWide C.prog (w.forCall tape i) .any w.heap.size f i ∧
   ((s.pre enc C.prog fn conds apart (w.forCall tape i).memory i.args∧X (w.forCall tape i).memory i.args)∧sizedMet enc C.prog fn (OpenSpec.ofChange s) apart (w.forCall tape i).memory i.args)∧a.holds C.prog (lone (Frame.enter C.prog f i.args .normal) [] (w.forCall tape i)))
 (contract:∀(W:World) (base:Nat) (args:Array Value) (ds gs:List (DataW H)) (before:List MemPlace),
   (∀(j:Nat) t v,fn.params[j]?=some t→args[j]?=some v→Value.okWide C.prog W .any base t v) →
   DataW.Whole enc C.prog fn.params.toList s.vars apart W args.toList ds gs before →
   conds.all (PathCond.test C.prog ⟨fn.params.toList,ds,s.plain.varTypes C.prog,gs⟩)=true →
   (DataW.weightsEach C.prog (fn.params.toList++s.plain.varTypes C.prog) (ds++gs)).all (· ≤ reachBytes)=true→X W args→W.ShapedOpen C.prog →
   a.holds C.prog (lone (Frame.enter C.prog f args .normal) [] W) →
   Calls C.prog f args W fun e W'=>∃v,e=.returned v∧s.post enc C.prog fn apart fresh handsOn again W args v W') :
 ReturnsInHanded a C os f .any (fun w args=>(s.pre enc C.prog fn conds apart w args∧X w args)∧sizedMet enc C.prog fn (OpenSpec.ofChange s) apart w args) (s.post enc C.prog fn apart fresh handsOn again):=by
 refine returnsInHanded_of_calls own started noInit witness ?_
 intro w tape i _ hsh _ hok hpre hholds
 obtain⟨_,_,_,fn',hfn',_,_,_,_,hval⟩:=hok
 have e:fn'=fn:=Option.some.inj (hfn'.symm.trans hfn)
 subst e
 obtain⟨⟨⟨ds,gs,before,hw,hc⟩,hx⟩,hz⟩:=hpre
 refine(contract (w.forCall tape i) w.heap.size i.args ds gs before hval (DataW.Whole.of_heap (w':=w.forCall tape i) (by rfl) hw) hc (hz.weights hw) (hX _ _ _ (by rfl) hx) hsh hholds).mono fun e W' ⟨v,he,hp⟩=>?_
 subst he
 exact ChangeSpec.post_blind hp
end
section
open Go Go.RowKit Go.Shelf
theorem z_eq:(Rows.laid_math_bits_deBruijn64tab:DataW Unit)=Lib.tabData .u8 (Lib.deBruijn64tab.map Int.ofNat):=by kernel_rfl
theorem gZ : Tryz.prog.globalNamed "math/bits.deBruijn64tab" = some 7:=by kernel_rfl
theorem gZType:(Tryz.prog.globals[7]?).map (·.type)=some 380:=by kernel_rfl
theorem zTab_of {l : List (String × DataW Unit)} {W : World} (h : laidMet Tryz.prog l W) (h1 : ("math/bits.deBruijn64tab",Rows.laid_math_bits_deBruijn64tab) ∈ l) : ZTab W:=by
 have hv : Lib.TabIs Tryz.prog W "math/bits.deBruijn64tab" .u8 (Lib.deBruijn64tab.map Int.ofNat) :=
  iW gZ gZType Tryz.underlying380 Tryz.underlying5 (by kernel_rfl) (by kernel_rfl) (z_eq▸Lib.laidMet.reads h h1)
 intro j hj
 rw[World.var?_cell gZ hv j]
 rw[List.getElem?_toArray,List.getElem?_map,List.getElem?_map,List.getElem?_eq_getElem hj]
 simp[List.getD_eq_getElem?_getD,List.getElem?_eq_getElem hj]
end
end Go.Proofs.YteladbdfiannjaaGreatDoor
