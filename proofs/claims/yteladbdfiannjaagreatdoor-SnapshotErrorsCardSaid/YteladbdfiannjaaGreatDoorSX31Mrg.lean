/- A part. -/
import Derived.Test.YteladbdfiannjaaGreatDoorSX27Mrg
import Derived.Test.YteladbdfiannjaaGreatDoorSX29Mrg
import Derived.Test.YteladbdfiannjaaGreatDoorSX30Mrg
namespace Go.Proofs.YteladbdfiannjaaGreatDoor
set_option linter.unusedVariables false
set_option maxRecDepth 100000
set_option maxHeartbeats 64000000
set_option linter.unusedSimpArgs false
open Go Go.RowKit Go.Shelf
def acc {D:Type} (p:List UInt8) (f:D→List UInt8) (l:List D) (k:Nat):List UInt8:=p++(l.take k).flatMap f
theorem cO {D:Type} (p:List UInt8) (f:D→List UInt8) (l:List D):acc p f l 0=p:=by simp[acc]
theorem cP {D:Type} (p:List UInt8) (f:D→List UInt8) (l:List D) (k:Nat) (h:k<l.length):acc p f l (k+1)=acc p f l k++f l[k]:=by
 unfold acc
 rw[List.take_succ_eq_append_getElem h,List.flatMap_append,List.append_assoc];simp
theorem dN {D:Type} (p:List UInt8) (f:D→List UInt8) (l:List D):acc p f l l.length=p++l.flatMap f:=by simp[acc]
theorem fK {D:Type} (p:List UInt8) (f:D→List UInt8) (l:List D) (k:Nat):(acc p f l k).length≤(p++l.flatMap f).length:=by
 have h:(l.flatMap f).length=((l.take k).flatMap f).length+((l.drop k).flatMap f).length:=by
  rw[←List.length_append,←List.flatMap_append,List.take_append_drop]
 unfold acc
 rw[List.length_append,List.length_append];omega
theorem dU {D:Type} {f:Nat→D→Int}:∀{l:List D} {m:Nat},aP f m l=0→∀j (h:j<l.length),f (m+j) l[j]=0
 | [],_,_,j,h=>absurd h (by simp)
 | x :: r,m,hz,j,h=>by
   have hz':(if f m x=0 then aP f (m+1) r else f m x)=0:=hz
   by_cases h0:f m x=0
   ·rw[if_pos h0] at hz'
    cases j with
    | zero=>exact h0
    | succ j =>
      have:=dU hz' j (by simpa using h)
      rw[show m+(j+1)=m+1+j by omega]
      simpa using this
   ·rw[if_neg h0] at hz';exact absurd hz' h0
theorem zX {a b c e f g:Int} (h:orL [a,b,c,e,f,g]=0):a=0∧b=0∧c=0∧e=0∧f=0∧g=0:=by
 by_cases h1:a=0<;>by_cases h2:b=0<;>by_cases h3:c=0<;>by_cases h4:e=0<;>by_cases h5:f=0<;>by_cases h6:g=0<;>simp_all [orL]
structure SnOk (d:Snp):Prop where
 v:0≤d.v∧d.v≤999
 e:0≤d.e∧d.e≤1048576
 t:0≤d.t∧d.t≤17592186044416
 ar:∀j (h:j<d.ar.length),0≤d.ar[j].nu∧d.ar[j].nu≤999999999999999
 se:∀j (h:j<d.se.length),0≤d.se[j].nu∧d.se[j].nu≤999999999999999
 qs:∀j (h:j<d.qs.length),1≤d.qs[j].nu∧d.qs[j].nu≤999999999999999∧1≤d.qs[j].vr∧d.qs[j].vr≤999∧d.qs[j].tx.size≤65536
 ls:∀j (h:j<d.ls.length),1≤d.ls[j].vr∧d.ls[j].vr≤999
 ps:∀j (h:j<d.ps.length),efE d.ps[j]=0
theorem qP {l:List Cnt} {k:Nat} {c:Cnt} (h:eG l k c=0):0≤c.nu∧c.nu≤999999999999999:=by
 unfold eG at h
 by_cases h1:aI c.nm=false
 ·rw[if_pos h1] at h;exact absurd h (by decide)
 rw[if_neg h1] at h
 by_cases h2:0<k∧leS c.nm (l.getD (k-1) c).nm=true
 ·rw[if_pos h2] at h;exact absurd h (by decide)
 rw[if_neg h2] at h
 by_cases h3:inQ c.nu 0 999999999999999=false
 ·rw[if_pos h3] at h;exact absurd h (by decide)
 exact kP (by simpa using h3)
theorem zR {c:Que} (h:fP c=0):1≤c.nu∧c.nu≤999999999999999∧1≤c.vr∧c.vr≤999∧c.tx.size≤65536:=by
 unfold fP at h
 by_cases h1:aI c.nm=false
 ·rw[if_pos h1] at h;exact absurd h (by decide)
 rw[if_neg h1] at h
 by_cases h2:inQ c.nu 1 999999999999999=false
 ·rw[if_pos h2] at h;exact absurd h (by decide)
 rw[if_neg h2] at h
 by_cases h3:inQ c.vr 1 999=false
 ·rw[if_pos h3] at h;exact absurd h (by decide)
 rw[if_neg h3] at h
 by_cases h4:65536<c.tx.size
 ·rw[if_pos h4] at h;exact absurd h (by decide)
 have a:=kP (show inQ c.nu 1 999999999999999=true by simpa using h2)
 have b:=kP (show inQ c.vr 1 999=true by simpa using h3)
 omega
theorem aA5 {c:Let} (h:kL c=0):1≤c.vr∧c.vr≤999:=by
 unfold kL at h
 by_cases h1:inQ c.vr 1 999=false
 ·rw[if_pos h1] at h;exact absurd h (by decide)
 exact kP (by simpa using h1)
theorem wN {d:Snp} (h:snE d=0):SnOk d:=by
 unfold snE at h
 by_cases h1:inQ d.v 0 999=false∨inQ d.e 0 1048576=false∨inQ d.t 0 17592186044416=false
 ·rw[if_pos h1] at h;exact absurd h (by decide)
 rw[if_neg h1] at h
 by_cases h2:128<d.ns.length
 ·rw[if_pos h2] at h;exact absurd h (by decide)
 rw[if_neg h2] at h
 obtain⟨_,b,c,e,f,g⟩:=zX h
 simp only[not_or,Bool.not_eq_false] at h1
 refine⟨kP h1.1,kP h1.2.1,kP h1.2.2,fun j hj=>?_,fun j hj=>?_,fun j hj=>?_,fun j hj=>?_,fun j hj=>?_⟩
 ·exact qP (dU b j hj)
 ·exact qP (dU c j hj)
 ·exact zR (dU e j hj)
 ·exact aA5 (dU f j hj)
 ·exact dU g j hj
section
attribute [-go_sem] loadCellsFrom storeCells
attribute [local go_sem] aAf aAe aAd aAc aAb aAa aA9 aA8 aCs aCr yY yX yW yV zI zH aBy aBx aBw aBv aBu aBt aBs stc9 aC2 aC1 aC0 aBz
theorem lX (c:SnC) (d:Snp) (w:World) (hd:IsSn (· < w.heap.size) w c d) (hT:Tabs w) (hZ:ZTab w) (hs:∀s∈d.ns,Sz 2000 s.l) (hl:∀s∈d.ls,s.tx.size≤1000000) (hz0:snE d=0→(iS d).length≤4000000000000000000) :
 Calls Tryz.prog 17 #[c.w] w fun e w'=>e=.returned (.tuple #[.string (gT d).1,.int .i64 (gT d).2])∧Below w.heap.size w w':=by
 obtain⟨cv,ce,ct,na,nl,nc,aa,al,ac,sa,sl,sc,qa,ql,qc,la,ll,lc,pa,pl,pc⟩:=c
 dsimp only[SnC.w]
 obtain⟨W1,hW1⟩:∃W1,W1=w.alloc (.cells #[.int .i64 cv,.int .i64 ce,.int .i64 ct,.slice na nl nc,.slice aa al ac,.slice sa sl sc,.slice qa ql qc,.slice la ll lc,.slice pa pl pc] 30):=⟨_,rfl⟩
 have hb1:Below w.heap.size w W1:=by rw[hW1];exact(bR w).alloc lr _
 have gx1:W1.heap[w.heap.size]?=some (.cells #[.int .i64 cv,.int .i64 ce,.int .i64 ct,.slice na nl nc,.slice aa al ac,.slice sa sl sc,.slice qa ql qc,.slice la ll lc,.slice pa pl pc] 30):=by rw[hW1];exact heap_alloc_new w _
 have hz1:W1.heap.size=w.heap.size+1:=by rw[hW1];simp
 obtain⟨u0,hu0⟩:∃u,u=snE d:=⟨_,rfl⟩
 have HCK:Hid (Calls Tryz.prog 9 #[.agg #[.int .i64 cv,.int .i64 ce,.int .i64 ct,.slice na nl nc,.slice aa al ac,.slice sa sl sc,.slice qa ql qc,.slice la ll lc,.slice pa pl pc]] W1 fun e w'=>e=.returned (.int .i64 u0)∧Below W1.heap.size W1 w'):=hid (by
  rw[hu0]
  exact mN ⟨cv,ce,ct,na,nl,nc,aa,al,ac,sa,sl,sc,qa,ql,qc,la,ll,lc,pa,pl,pc⟩ d W1 (hd.same fun b hb=>⟨by omega,hb1.block b hb⟩) (hT.below hb1))
 have GX1:=hid gx1;have HB1W:=hid hb1;have HW1:=hid hW1;have HZ1:=hid hz1;have HT:=hid hT;have HZT:=hid hZ;have HD:=hid hd
 have a0:=aA gx1 0;have a1:=aA gx1 1;have a2:=aA gx1 2;have a3:=aA gx1 3;have a4:=aA gx1 4;have a5:=aA gx1 5;have a6:=aA gx1 6;have a7:=aA gx1 7;have a8:=aA gx1 8;(try dsimp only at a0 a1 a2 a3 a4 a5 a6 a7 a8)
 clear gx1 hb1 hW1 hz1 hT hZ hd
 go_enter Tryz.func17,Tryz.ntmps17
 go_upto_region 1 with (fail)
 rw[←HW1.out]
 by_cases h0:u0=0
 ·have hok:=wN (show snE d=0 by rw[←hu0];exact h0)
  have hz:=hz0 (show snE d=0 by rw[←hu0];exact h0)
  clear hz0
  obtain⟨m0,hm0⟩:∃m:Nat,cv=(m:Int):=⟨cv.toNat,by have h1:=HD.out.v;have h2:=hok.v;dsimp only at h1;omega⟩
  obtain⟨m1,hm1⟩:∃m:Nat,ce=(m:Int):=⟨ce.toNat,by have h1:=HD.out.e;have h2:=hok.e;dsimp only at h1;omega⟩
  obtain⟨m2,hm2⟩:∃m:Nat,ct=(m:Int):=⟨ct.toNat,by have h1:=HD.out.t;have h2:=hok.t;dsimp only at h1;omega⟩
  have HMB:Hid (m0≤999∧m1≤1048576∧m2≤17592186044416):=hid (by have h1:=HD.out.v;have h2:=hok.v;have h3:=HD.out.e;have h4:=hok.e;have h5:=HD.out.t;have h6:=hok.t;dsimp only at h1 h3 h5;omega)
  obtain⟨s1,hs1⟩:∃s,s=aP (fun _ s=>(fQ s).2) 0 d.ns:=⟨_,rfl⟩
  obtain⟨s5,hs5⟩:∃s,s=aP (fun _ l=>(eE l.m).2) 0 d.ls:=⟨_,rfl⟩
  obtain⟨s6,hs6⟩:∃s,s=aP (fun _ x=>fR x) 0 d.ps:=⟨_,rfl⟩
  have HENC:Hid (gT d=if orL [s1,s5,s6]≠0 then (⟨#[]⟩,orL [s1,s5,s6]) else (⟨(iS d).toArray⟩,0)):=hid (by
   unfold gT;rw[if_neg (by rw[←hu0,h0];simp)];unfold snEr;rw[←hs1,←hs5,←hs6])
  have HS1E:=hid hs1;have HS5E:=hid hs5;have HS6E:=hid hs6
  obtain⟨P1,hP1⟩:∃P,P=aAl d:=⟨_,rfl⟩
  obtain⟨P2,hP2⟩:∃P,P=P1++d.ns.flatMap cE:=⟨_,rfl⟩
  obtain⟨P3,hP3⟩:∃P,P=P2++d.ar.flatMap (aR dY):=⟨_,rfl⟩
  obtain⟨P4,hP4⟩:∃P,P=P3++d.se.flatMap (aR cF):=⟨_,rfl⟩
  obtain⟨P5,hP5⟩:∃P,P=P4++d.qs.flatMap cA:=⟨_,rfl⟩
  obtain⟨P6,hP6⟩:∃P,P=P5++d.ls.flatMap cC:=⟨_,rfl⟩
  obtain⟨P7,hP7⟩:∃P,P=P6++d.ps.flatMap cY:=⟨_,rfl⟩
  have hP8:iS d=P7++lnB [vW]:=by unfold iS;rw[hP7,hP6,hP5,hP4,hP3,hP2,hP1]
  have htt:P7.length+4≤4000000000000000000:=by rw[hP8,List.length_append] at hz;have h4:(lnB [vW]).length=4:=rfl;omega
  have HT7:=hid htt
  have HT6:Hid ((P6++d.ps.flatMap cY).length≤4000000000000000000):=hid (by rw[←hP7];omega)
  have HT5:Hid ((P5++d.ls.flatMap cC).length≤4000000000000000000):=hid (by rw[←hP6];have h:=congrArg List.length hP7;rw[List.length_append] at h;have:=HT6.out;rw[←hP7] at this;omega)
  have HT4:Hid ((P4++d.qs.flatMap cA).length≤4000000000000000000):=hid (by rw[←hP5];have h:=congrArg List.length hP6;rw[List.length_append] at h;have:=HT5.out;rw[←hP6] at this;omega)
  have HT3:Hid ((P3++d.se.flatMap (aR cF)).length≤4000000000000000000):=hid (by rw[←hP4];have h:=congrArg List.length hP5;rw[List.length_append] at h;have:=HT4.out;rw[←hP5] at this;omega)
  have HT2:Hid ((P2++d.ar.flatMap (aR dY)).length≤4000000000000000000):=hid (by rw[←hP3];have h:=congrArg List.length hP4;rw[List.length_append] at h;have:=HT3.out;rw[←hP4] at this;omega)
  have HT1:Hid ((P1++d.ns.flatMap cE).length≤4000000000000000000):=hid (by rw[←hP2];have h:=congrArg List.length hP3;rw[List.length_append] at h;have:=HT2.out;rw[←hP3] at this;omega)
  have HT0:Hid (P1.length≤4000000000000000000):=hid (by have h:=HT1.out;rw[List.length_append] at h;omega)
  have HG1:=hid (fun (j:Nat) (h:j<d.ns.length)=>hs d.ns[j] (List.getElem_mem h))
  have HG2:=hid hok.ar;have HG3:=hid hok.se;have HG4:=hid hok.qs;have HG6:=hid hok.ps
  have HG5:=hid (fun (j:Nat) (h:j<d.ls.length)=>And.intro (hok.ls j h) (hl d.ls[j] (List.getElem_mem h)))
  have HP8:=hid hP8
  have HP1:=hid hP1
  have HP2:=hid hP2
  have HP3:=hid hP3
  have HP4:=hid hP4
  have HP5:=hid hP5
  have HP6:=hid hP6
  have HP7:=hid hP7
  have HUV:=hid (show d.v=(m0:Int)∧d.e=(m1:Int)∧d.t=(m2:Int) from by have h1:=HD.out.v;have h3:=HD.out.e;have h5:=HD.out.t;dsimp only at h1 h3 h5;omega)
  have HM3:=hid (And.intro hm0 (And.intro hm1 hm2))
  clear hok hs1 hs5 hs6 hP8 htt hu0 hs hl hz hm0 hm1 hm2 hP1 hP2 hP3 hP4 hP5 hP6 hP7
  subst h0
  go_upto_region 4 with (go_at_call 9;refine HCK.out.mono ?_;rintro e w1 ⟨rfl,hbk⟩;have HBK:=hid hbk;have hx1:=aB hbk GX1.out;clear a0 a1 a2 a3 a4 a5 a6 a7 a8;have a0:=aA hx1 0;have a1:=aA hx1 1;have a2:=aA hx1 2;have a3:=aA hx1 3;have a4:=aA hx1 4;have a5:=aA hx1 5;have a6:=aA hx1 6;have a7:=aA hx1 7;have a8:=aA hx1 8;(try dsimp only at a0 a1 a2 a3 a4 a5 a6 a7 a8);have GX2:=hid hx1;clear hx1 hbk)
  obtain⟨mb,hmb⟩:∃mb,mb=w1.heap.size:=⟨_,rfl⟩
  obtain⟨WB,hWB⟩:∃WB,WB=w1.alloc (.cells #[.int .i64 cv,.int .i64 ce,.int .i64 ct,.slice na nl nc,.slice aa al ac,.slice sa sl sc,.slice qa ql qc,.slice la ll lc] 27):=⟨_,rfl⟩
  have hbm:Below w1.heap.size w1 WB:=by rw[hWB];exact(Below.refl _ w1).alloc lr _
  have gm:WB.heap[mb]?=some (.cells #[.int .i64 cv,.int .i64 ce,.int .i64 ct,.slice na nl nc,.slice aa al ac,.slice sa sl sc,.slice qa ql qc,.slice la ll lc] 27):=by rw[hWB,hmb];exact heap_alloc_new w1 _
  have HWB:=hid (HB1W.out.trans ((HBK.out.mono HB1W.out.size).trans (hbm.mono (by have h1:=HB1W.out.size;have h2:=HBK.out.size;omega))))
  have GX:Hid (WB.heap[w.heap.size]?=some (.cells #[.int .i64 cv,.int .i64 ce,.int .i64 ct,.slice na nl nc,.slice aa al ac,.slice sa sl sc,.slice qa ql qc,.slice la ll lc,.slice pa pl pc] 30)):=hid (aB hbm GX2.out)
  have GM:=hid gm
  have HQ:=hid (fun (w':World) (h:Below WB.heap.size WB w') (b:Nat) (hb:b<w.heap.size)=>(show b<w'.heap.size∧w'.heap[b]?=w.heap[b]? from⟨by have h1:=h.size;have h2:=HWB.out.size;omega,(h.block b (by have h2:=HWB.out.size;omega)).trans (HWB.out.block b hb)⟩))
  have HWE:=hid hWB
  have HME:=hid hmb
  clear hbm gm hWB hmb
  go_upto_region 5 with (fail)
  rw[←HWE.out,←HME.out]
  clear a0 a1 a2 a3 a4 a5 a6 a7 a8
  have HC5:=hid (fun (w':World) (h:Below WB.heap.size WB w')=>(show w'.cell? ⟨mb,0,none⟩=some (.int .i64 m0)∧w'.cell? ⟨mb,1,none⟩=some (.int .i64 m1)∧w'.cell? ⟨mb,2,none⟩=some (.int .i64 m2) from by
   have h0:=aA (aB h GM.out) 0;have h1:=aA (aB h GM.out) 1;have h2:=aA (aB h GM.out) 2
   (try dsimp only at h0 h1 h2)
   rw[HM3.out.1] at h0;rw[HM3.out.2.1] at h1;rw[HM3.out.2.2] at h2
   exact⟨h0,h1,h2⟩))
  obtain⟨y0,hy0⟩:∃y:ByteArray,y=⟨P1.toArray⟩:=⟨_,rfl⟩
  have HLN:=hid (fun (g:Nat) (W':World) (hx:∀(k:Nat) x,[(⟨#[115,110,97,112,115,104,111,116]⟩:ByteArray),(aT m0),(aT m1),(aT m2)][k]?=some x→W'.cell? ⟨g,0+k,none⟩=some (.string x))=>(show Calls Tryz.prog 71 #[.slice (some ⟨g,0,none⟩) 4 4] W' fun e w2=>e=.returned (.string y0)∧w2=W' from by
   have hP:P1=lnB [(⟨#[115,110,97,112,115,104,111,116]⟩:ByteArray),(aT m0),(aT m1),(aT m2)]:=by rw[HP1.out];unfold aAl;rw[HUV.out.1,HUV.out.2.1,HUV.out.2.2,bJ,bJ,bJ];rfl
   rw[hy0,hP]
   exact bH g 4 [(⟨#[115,110,97,112,115,104,111,116]⟩:ByteArray),(aT m0),(aT m1),(aT m2)] W' hx (by simp) (by rw[←hP];have:=HT0.out;omega)))
  have HA1:=hid hy0.symm
  clear hy0
  refine wp_region_held_drew (S:=(fun w'=>Below WB.heap.size WB w')) (by kernel_rfl) ((Below.refl _ _).drew) (fun hS=>?_)
  refine tkQ 0 (v:=?_) ?_ hS ?_;rotate_left;· intro w' hw';have hcells:=HC5.out w' hw';go_simp;(try rfl)
  simp only[Act.put,pq]
  refine tkQ 1 (v:=?_) ?_ hS ?_;rotate_left;· intro w' hw';have hcells:=HC5.out w' hw';go_simp;(try rfl)
  simp only[Act.put,pq]
  refine tkQ 3 (v:=?_) ?_ hS ?_;rotate_left;· intro w' hw';have hcells:=HC5.out w' hw';go_simp;(try rfl)
  simp only[Act.put,pq]
  refine tkQ 4 (v:=?_) ?_ hS ?_;rotate_left;· intro w' hw';have hcells:=HC5.out w' hw';go_simp;(try rfl)
  simp only[Act.put,pq]
  refine tkQ 6 (v:=?_) ?_ hS ?_;rotate_left;· intro w' hw';have hcells:=HC5.out w' hw';go_simp;(try rfl)
  simp only[Act.put,pq]
  refine tkQ 7 (v:=?_) ?_ hS ?_;rotate_left;· intro w' hw';have hcells:=HC5.out w' hw';go_simp;(try rfl)
  simp only[Act.put,pq]
  refine ry [2] ?_
  refine arQ fun K hK=>?_
  go_simp;go_at_call 72;refine(bO m0 (by have:=HMB.out;omega) _).mono ?_
  rintro e w4 ⟨rfl,hww4⟩
  rw[hww4]
  clear hww4
  refine hK.out _ _ (hS) (fun hS=>?_)
  clear hK K
  (try simp only[Act.put,pq])
  refine ry [5] ?_
  refine arQ fun K hK=>?_
  go_simp;go_at_call 72;refine(bO m1 (by have:=HMB.out;omega) _).mono ?_
  rintro e w5 ⟨rfl,hww5⟩
  rw[hww5]
  clear hww5
  refine hK.out _ _ (hS) (fun hS=>?_)
  clear hK K
  (try simp only[Act.put,pq])
  refine ry [8] ?_
  refine arQ fun K hK=>?_
  go_simp;go_at_call 72;refine(bO m2 (by have:=HMB.out;omega) _).mono ?_
  rintro e w6 ⟨rfl,hww6⟩
  rw[hww6]
  clear hww6
  refine hK.out _ _ (hS) (fun hS=>?_)
  clear hK K
  (try simp only[Act.put,pq])
  refine ry [9] ?_
  refine arQ fun K hK=>?_
  go_simp
  refine hK.out _ _ (hS.alloc hS.size _) (fun hS=>?_)
  clear hK K
  (try simp only[Act.put,pq])
  refine ry [10] ?_
  refine arQ fun K hK=>?_
  go_simp;go_at_call 71;refine(HLN.out WB.drew.heap.size (WB.drew.alloc (.cells #[.string (⟨#[115,110,97,112,115,104,111,116]⟩:ByteArray),.string (aT m0),.string (aT m1),.string (aT m2)] 9)) (aU WB.drew [(⟨#[115,110,97,112,115,104,111,116]⟩:ByteArray),(aT m0),(aT m1),(aT m2)] _)).mono ?_
  rintro e w7 ⟨rfl,hww7⟩
  rw[hww7]
  clear hww7
  refine hK.out _ _ (hS) (fun hS=>?_)
  clear hK K
  (try simp only[Act.put,pq])
  refine tkQ 11 (v:=?_) ?_ hS ?_;rotate_left;· intro w' hw';have hcells:=HC5.out w' hw';go_simp;(try rfl)
  simp only[Act.put,pq]
  refine wpAnyH_done (by kernel_rfl) ?_ _
  (try dsimp only)
  have HB0:=hid hS
  clear hS
  go_wp2
  go_loopw [6,7] (fun sv iv wr=>∃k:Nat,k≤nl∧sv=.string ⟨(acc P1 cE d.ns k).toArray⟩∧iv=.int .i64 k∧(∀j (h1:j<d.ns.length),j<k→(fQ d.ns[j]).2=0)∧Below WB.heap.size WB wr) (fun _ iv _=>nl-(intOf iv).toNat)
  case atStart=>exact⟨0,Nat.zero_le _,by rw[cO];first | rfl | rw[HA1.out],rfl,fun j _ h=>absurd h (Nat.not_lt_zero j),HB0.out⟩
  case round =>
   obtain⟨k,hk,rfl,rfl,hall,hbr⟩:=hrel
   obtain⟨wp,rfl⟩:∃w1:World,w1=wr:=⟨_,rfl⟩
   obtain⟨A,hA⟩:∃A:ByteArray,A=⟨(acc P1 cE d.ns k).toArray⟩:=⟨_,rfl⟩
   have hAs:A.size=(acc P1 cE d.ns k).length:=by rw[hA];simp[ByteArray.size]
   rw[←hA]
   have HB1:=hid hbr
   have e1:=aA (aB hbr GM.out) 3
   (try dsimp only at e1)
   have hn63:(nl:Int)≤9223372036854775807:=by have h:=HD.out.ns.big;dsimp only at h;omega
   by_cases hlt:k<nl
   ·have hkl:k<d.ns.length:=by have:=HD.out.ns.len;dsimp only at this;omega
    obtain⟨b,o,hna,hb,hx⟩:=HD.out.ns.slot (show 0<nl by omega)
    dsimp only at hna hx
    rw[hna] at e1
    obtain⟨x,hxa,hxi⟩:=hx k hkl
    have hel:=HG1.out k hkl
    have hac:=cP P1 cE d.ns k hkl
    have hle:=fK P1 cE d.ns (k+1)
    have htot:=HT1.out
    obtain⟨dx,hdx⟩:∃dx,dx=d.ns[k]:=⟨_,rfl⟩
    rw[←hdx] at hxi hel hac
    have HNE:Hid ((fQ dx).2≠0→s1=(fQ dx).2):=hid (fun hne=>by
     rw[HS1E.out];exact eS _ _ k hkl hall _ (by rw[hdx]) hne)
    have HZ:Hid ((fQ dx).2=0→∀j (h1:j<d.ns.length),j<k+1→(fQ d.ns[j]).2=0):=hid (fun hv j h1 h=>by
     by_cases hjk:j<k
     ·exact hall j h1 hjk
     ·obtain rfl:j=k:=by omega
      rw[←hdx];exact hv)
    have hlt':(k:Int)<(nl:Int):=by omega
    have hk0:(0:Int)≤(k:Int):=by omega
    have hyz:(cE dx).length≤4000000000000000000:=by
     have:=congrArg List.length hac
     rw[List.length_append] at this
     omega
    have hsum:A.size+(cE dx).length≤4000000000000000000:=by
     have:=congrArg List.length hac
     rw[List.length_append] at this
     omega
    have HNX:Hid (∀y:ByteArray,y=⟨(cE dx).toArray⟩→A++y=⟨(acc P1 cE d.ns (k+1)).toArray⟩):=hid (fun y hy=>by
     rw[hac,hy,hA]
     apply ByteArray.ext;apply Array.ext';simp)
    clear hac hle htot hA hAs
    obtain⟨y,hy⟩:∃y:ByteArray,y=(fQ dx).1:=⟨_,rfl⟩
    obtain⟨u,hu⟩:∃u:Int,u=(fQ dx).2:=⟨_,rfl⟩
    have HC:Hid (Calls Tryz.prog 73 #[.agg #[.int .i64 x.n,.int .i64 x.t,.slice x.a x.l x.c]] wp fun e w'=>e=.returned (.tuple #[.string y,.int .i64 u])∧Below wp.heap.size wp w'):=hid (by
     rw[hy,hu]
     exact qM x dx wp (hxi.same fun b hb=>HQ.out wp hbr b hb) ((HT.out.below HWB.out).below hbr) ((HZT.out.below HWB.out).below hbr) hel)
    obtain⟨x0,x1,x2⟩:=AtG.sta (hxa.same (HQ.out wp hbr b hb).2)
    have hys:y.size=(cE dx).length:=by rw[hy];show _=(fQ dx).1.data.toList.length;rw[Array.length_toList];rfl
    have HNY:Hid (A++y=⟨(acc P1 cE d.ns (k+1)).toArray⟩):=hid (HNX.out y (by rw[hy];apply ByteArray.ext;apply Array.ext';simp[cE]))
    have hsz1:¬ 9223372036854775807<A.size+y.size:=by omega
    have hsz2:(9223372036854775807<A.size+y.size)=False:=by simp;omega
    have hsz3:A.size+y.size≤9223372036854775807:=by omega
    have hsz4:decide (9223372036854775807<A.size+y.size)=false:=by simp;omega
    rw[←hu] at HNE HZ
    clear hna hdx hxa hxi hx hb hbr hkl hy hu hys hyz hsum hel hall
    by_cases hz:u=0
    ·have HEZ:=hid (HZ.out hz)
     subst hz
     go_wp2_with (go_at_call 73;refine HC.out.mono ?_;rintro e w3 ⟨rfl,hb3⟩;have HB9:=hid hb3;clear hb3)
     go_roundw
     case rel=>exact⟨k+1,by omega,by rw[HNY.out],by go_num,HEZ.out,HB1.out.trans (HB9.out.mono HB1.out.size)⟩
     case measure=>simp[intOf];omega
    ·have hz1:(u != 0)=true:=by simp[hz]
     have hru:=hid (HNE.out hz)
     have HZN:=hid hz
     clear hz
     go_wp2_with (go_at_call 73;refine HC.out.mono ?_;rintro e w3 ⟨rfl,hb3⟩;have HB9:=hid hb3;clear hb3)
     exact bodyPost_ret (v:=.tuple #[.string ⟨#[]⟩,.int .i64 u]) (by simp[results,Tryz.results17,go_sem]) rfl ⟨by rw[HENC.out];simp[orL,hru.out,HZN.out],HWB.out.trans ((HB1.out.trans (HB9.out.mono HB1.out.size)).mono HWB.out.size)⟩
   ·obtain rfl:k=nl:=by omega
    have Z1:Hid (s1=0):=hid (by rw[HS1E.out];exact dR _ _ fun j h1=>hall j h1 (by have h:=HD.out.ns.len;dsimp only at h;omega))
    have HA2:Hid (A=⟨P2.toArray⟩):=hid (by
     have h:=HD.out.ns.len
     dsimp only at h
     rw[hA,h,dN,HP2.out])
    clear hall hbr hlt hk hA hAs
    go_wp2
    go_loopw [6,10] (fun sv iv wr=>∃k:Nat,k≤al∧sv=.string ⟨(acc P2 (aR dY) d.ar k).toArray⟩∧iv=.int .i64 k∧Below WB.heap.size WB wr) (fun _ iv _=>al-(intOf iv).toNat)
    case atStart=>exact⟨0,Nat.zero_le _,by rw[cO];first | rfl | rw[HA2.out],rfl,HB1.out⟩
    case round =>
     obtain⟨k,hk,rfl,rfl,hbr⟩:=hrel
     obtain⟨wp,rfl⟩:∃w1:World,w1=wr:=⟨_,rfl⟩
     obtain⟨A,hA⟩:∃A:ByteArray,A=⟨(acc P2 (aR dY) d.ar k).toArray⟩:=⟨_,rfl⟩
     have hAs:A.size=(acc P2 (aR dY) d.ar k).length:=by rw[hA];simp[ByteArray.size]
     rw[←hA]
     have HB2:=hid hbr
     have e2:=aA (aB hbr GM.out) 4
     (try dsimp only at e2)
     have hn63:(al:Int)≤9223372036854775807:=by have h:=HD.out.ar.big;dsimp only at h;omega
     by_cases hlt:k<al
     ·have hkl:k<d.ar.length:=by have:=HD.out.ar.len;dsimp only at this;omega
      obtain⟨b,o,hna,hb,hx⟩:=HD.out.ar.slot (show 0<al by omega)
      dsimp only at hna hx
      rw[hna] at e2
      obtain⟨x,hxa,hxi⟩:=hx k hkl
      have hel:=HG2.out k hkl
      have hac:=cP P2 (aR dY) d.ar k hkl
      have hle:=fK P2 (aR dY) d.ar (k+1)
      have htot:=HT2.out
      obtain⟨dx,hdx⟩:∃dx,dx=d.ar[k]:=⟨_,rfl⟩
      rw[←hdx] at hxi hel hac
      have hlt':(k:Int)<(al:Int):=by omega
      have hk0:(0:Int)≤(k:Int):=by omega
      have hyz:((aR dY) dx).length≤4000000000000000000:=by
       have:=congrArg List.length hac
       rw[List.length_append] at this
       omega
      have hsum:A.size+((aR dY) dx).length≤4000000000000000000:=by
       have:=congrArg List.length hac
       rw[List.length_append] at this
       omega
      have HNX:Hid (∀y:ByteArray,y=⟨((aR dY) dx).toArray⟩→A++y=⟨(acc P2 (aR dY) d.ar (k+1)).toArray⟩):=hid (fun y hy=>by
       rw[hac,hy,hA]
       apply ByteArray.ext;apply Array.ext';simp)
      clear hac hle htot hA hAs
      obtain⟨m,hm⟩:∃m:Nat,x.nu=(m:Int):=⟨x.nu.toNat,by rw[hxi.e];omega⟩
      have hmb:m≤999999999999999:=by have:=hxi.e;rw[←this] at hel;omega
      have HMB:=hid hmb
      obtain⟨y,hy⟩:∃y:ByteArray,y=⟨(aR dY dx).toArray⟩:=⟨_,rfl⟩
      have hys:y.size=(aR dY dx).length:=by rw[hy];simp[ByteArray.size]
      have HLN:=hid (fun (g:Nat) (W':World) (hx:∀(k:Nat) z,[(⟨#[97,114,114,105,118,101,100]⟩:ByteArray),x.nm,(aT m)][k]?=some z→W'.cell? ⟨g,0+k,none⟩=some (.string z))=>(show Calls Tryz.prog 71 #[.slice (some ⟨g,0,none⟩) 3 3] W' fun e w2=>e=.returned (.string y)∧w2=W' from by
       rw[hy]
       have h:=bH g 3 [(⟨#[97,114,114,105,118,101,100]⟩:ByteArray),x.nm,(aT m)] W' hx (by simp) (by
        have h1:=(show aR dY dx=lnB [(⟨#[97,114,114,105,118,101,100]⟩:ByteArray),x.nm,(aT m)] by unfold aR;rw[←hxi.e,hm,bJ];rfl)
        rw[←h1];have:=hyz;omega)
       rw[(show aR dY dx=lnB [(⟨#[97,114,114,105,118,101,100]⟩:ByteArray),x.nm,(aT m)] by unfold aR;rw[←hxi.e,hm,bJ];rfl)]
       exact h))
      have HNY:=hid (HNX.out y hy)
      have HC6:=hid (fun (w':World) (h:Below wp.heap.size wp w')=>(show w'.cell? ⟨mb,4,none⟩=some (.slice (some ⟨b,o,none⟩) al ac)∧w'.cell? ⟨b,o+k * 2,none⟩=some (.string x.nm)∧w'.cell? ⟨b,o+k * 2+1,none⟩=some (.int .i64 m) from by
       obtain⟨x0,x1⟩:=AtG.cnt (hxa.same (HQ.out w' (hbr.trans (h.mono hbr.size)) b hb).2)
       exact⟨(aA (aB (hbr.trans (h.mono hbr.size)) GM.out) 4).trans (by show some (Value.slice aa al ac)=_;rw[hna]),x0,by rw[←hm];exact x1⟩))
      have hsz1:¬ 9223372036854775807<A.size+y.size:=by omega
      have hsz2:(9223372036854775807<A.size+y.size)=False:=by simp;omega
      have hsz3:A.size+y.size≤9223372036854775807:=by omega
      have hsz4:decide (9223372036854775807<A.size+y.size)=false:=by simp;omega
      clear hna hdx hxa hxi hx hb hbr hkl hy hys hyz hsum hel hm hmb
      go_upto_region 16 with (fail)
      clear e2
      refine wp_region_held_drew (S:=(fun w'=>Below wp.heap.size wp w')) (by kernel_rfl) ((Below.refl _ _).drew) (fun hS=>?_)
      refine tkQ 0 (v:=?_) ?_ hS ?_;rotate_left;· intro w' hw';have hcells:=HC6.out w' hw';go_simp;(try rfl)
      simp only[Act.put,pq]
      refine tkQ 1 (v:=?_) ?_ hS ?_;rotate_left;· intro w' hw';have hcells:=HC6.out w' hw';go_simp;(try rfl)
      simp only[Act.put,pq]
      refine tkQ 2 (v:=?_) ?_ hS ?_;rotate_left;· intro w' hw';have hcells:=HC6.out w' hw';go_simp;(try rfl)
      simp only[Act.put,pq]
      refine tkQ 3 (v:=?_) ?_ hS ?_;rotate_left;· intro w' hw';have hcells:=HC6.out w' hw';go_simp;(try rfl)
      simp only[Act.put,pq]
      refine tkQ 4 (v:=?_) ?_ hS ?_;rotate_left;· intro w' hw';have hcells:=HC6.out w' hw';go_simp;(try rfl)
      simp only[Act.put,pq]
      refine tkQ 5 (v:=?_) ?_ hS ?_;rotate_left;· intro w' hw';have hcells:=HC6.out w' hw';go_simp;(try rfl)
      simp only[Act.put,pq]
      refine tkQ 6 (v:=?_) ?_ hS ?_;rotate_left;· intro w' hw';have hcells:=HC6.out w' hw';go_simp;(try rfl)
      simp only[Act.put,pq]
      refine tkQ 7 (v:=?_) ?_ hS ?_;rotate_left;· intro w' hw';have hcells:=HC6.out w' hw';go_simp;(try rfl)
      simp only[Act.put,pq]
      refine tkQ 8 (v:=?_) ?_ hS ?_;rotate_left;· intro w' hw';have hcells:=HC6.out w' hw';go_simp;(try rfl)
      simp only[Act.put,pq]
      refine tkQ 9 (v:=?_) ?_ hS ?_;rotate_left;· intro w' hw';have hcells:=HC6.out w' hw';go_simp;(try rfl)
      simp only[Act.put,pq]
      refine tkQ 10 (v:=?_) ?_ hS ?_;rotate_left;· intro w' hw';have hcells:=HC6.out w' hw';go_simp;(try rfl)
      simp only[Act.put,pq]
      refine tkQ 11 (v:=?_) ?_ hS ?_;rotate_left;· intro w' hw';have hcells:=HC6.out w' hw';go_simp;(try rfl)
      simp only[Act.put,pq]
      refine tkQ 12 (v:=?_) ?_ hS ?_;rotate_left;· intro w' hw';have hcells:=HC6.out w' hw';go_simp;(try rfl)
      simp only[Act.put,pq]
      refine ry [13] ?_
      refine arQ fun K hK=>?_
      go_simp;go_at_call 72;refine(bO m (by have:=HMB.out;omega) _).mono ?_
      rintro e w4 ⟨rfl,hww4⟩
      rw[hww4]
      clear hww4
      refine hK.out _ _ (hS) (fun hS=>?_)
      clear hK K
      (try simp only[Act.put,pq])
      refine ry [14] ?_
      refine arQ fun K hK=>?_
      go_simp
      refine hK.out _ _ (hS.alloc hS.size _) (fun hS=>?_)
      clear hK K
      (try simp only[Act.put,pq])
      refine ry [15] ?_
      refine arQ fun K hK=>?_
      go_simp;go_at_call 71;refine(HLN.out wp.drew.heap.size (wp.drew.alloc (.cells #[.string (⟨#[97,114,114,105,118,101,100]⟩:ByteArray),.string x.nm,.string (aT m)] 9)) (aU wp.drew [(⟨#[97,114,114,105,118,101,100]⟩:ByteArray),x.nm,(aT m)] _)).mono ?_
      rintro e w6 ⟨rfl,hww6⟩
      rw[hww6]
      clear hww6
      refine hK.out _ _ (hS) (fun hS=>?_)
      clear hK K
      (try simp only[Act.put,pq])
      refine tkQ 16 (v:=?_) ?_ hS ?_;rotate_left;· intro w' hw';have hcells:=HC6.out w' hw';go_simp;(try rfl)
      simp only[Act.put,pq]
      refine tkQ 17 (v:=?_) ?_ hS ?_;rotate_left;· intro w' hw';have hcells:=HC6.out w' hw';go_simp;(try rfl)
      simp only[Act.put,pq]
      refine wpAnyH_done (by kernel_rfl) ?_ _
      (try dsimp only)
      have HS9:=hid hS
      clear hS
      go_wp2
      go_roundw
      case rel=>exact⟨k+1,by omega,by rw[HNY.out],by go_num,HB2.out.trans (HS9.out.mono HB2.out.size)⟩
      case measure=>simp[intOf];omega
     ·obtain rfl:k=al:=by omega
      have HA3:Hid (A=⟨P3.toArray⟩):=hid (by
       have h:=HD.out.ar.len
       dsimp only at h
       rw[hA,h,dN,HP3.out])
      clear hbr hlt hk hA hAs
      go_wp2
      go_loopw [6,11] (fun sv iv wr=>∃k:Nat,k≤sl∧sv=.string ⟨(acc P3 (aR cF) d.se k).toArray⟩∧iv=.int .i64 k∧Below WB.heap.size WB wr) (fun _ iv _=>sl-(intOf iv).toNat)
      case atStart=>exact⟨0,Nat.zero_le _,by rw[cO];first | rfl | rw[HA3.out],rfl,HB2.out⟩
      case round =>
       obtain⟨k,hk,rfl,rfl,hbr⟩:=hrel
       obtain⟨wp,rfl⟩:∃w1:World,w1=wr:=⟨_,rfl⟩
       obtain⟨A,hA⟩:∃A:ByteArray,A=⟨(acc P3 (aR cF) d.se k).toArray⟩:=⟨_,rfl⟩
       have hAs:A.size=(acc P3 (aR cF) d.se k).length:=by rw[hA];simp[ByteArray.size]
       rw[←hA]
       have HB3:=hid hbr
       have e3:=aA (aB hbr GM.out) 5
       (try dsimp only at e3)
       have hn63:(sl:Int)≤9223372036854775807:=by have h:=HD.out.se.big;dsimp only at h;omega
       by_cases hlt:k<sl
       ·have hkl:k<d.se.length:=by have:=HD.out.se.len;dsimp only at this;omega
        obtain⟨b,o,hna,hb,hx⟩:=HD.out.se.slot (show 0<sl by omega)
        dsimp only at hna hx
        rw[hna] at e3
        obtain⟨x,hxa,hxi⟩:=hx k hkl
        have hel:=HG3.out k hkl
        have hac:=cP P3 (aR cF) d.se k hkl
        have hle:=fK P3 (aR cF) d.se (k+1)
        have htot:=HT3.out
        obtain⟨dx,hdx⟩:∃dx,dx=d.se[k]:=⟨_,rfl⟩
        rw[←hdx] at hxi hel hac
        have hlt':(k:Int)<(sl:Int):=by omega
        have hk0:(0:Int)≤(k:Int):=by omega
        have hyz:((aR cF) dx).length≤4000000000000000000:=by
         have:=congrArg List.length hac
         rw[List.length_append] at this
         omega
        have hsum:A.size+((aR cF) dx).length≤4000000000000000000:=by
         have:=congrArg List.length hac
         rw[List.length_append] at this
         omega
        have HNX:Hid (∀y:ByteArray,y=⟨((aR cF) dx).toArray⟩→A++y=⟨(acc P3 (aR cF) d.se (k+1)).toArray⟩):=hid (fun y hy=>by
         rw[hac,hy,hA]
         apply ByteArray.ext;apply Array.ext';simp)
        clear hac hle htot hA hAs
        obtain⟨m,hm⟩:∃m:Nat,x.nu=(m:Int):=⟨x.nu.toNat,by rw[hxi.e];omega⟩
        have hmb:m≤999999999999999:=by have:=hxi.e;rw[←this] at hel;omega
        have HMB:=hid hmb
        obtain⟨y,hy⟩:∃y:ByteArray,y=⟨(aR cF dx).toArray⟩:=⟨_,rfl⟩
        have hys:y.size=(aR cF dx).length:=by rw[hy];simp[ByteArray.size]
        have HLN:=hid (fun (g:Nat) (W':World) (hx:∀(k:Nat) z,[(⟨#[115,101,110,116]⟩:ByteArray),x.nm,(aT m)][k]?=some z→W'.cell? ⟨g,0+k,none⟩=some (.string z))=>(show Calls Tryz.prog 71 #[.slice (some ⟨g,0,none⟩) 3 3] W' fun e w2=>e=.returned (.string y)∧w2=W' from by
         rw[hy]
         have h:=bH g 3 [(⟨#[115,101,110,116]⟩:ByteArray),x.nm,(aT m)] W' hx (by simp) (by
          have h1:=(show aR cF dx=lnB [(⟨#[115,101,110,116]⟩:ByteArray),x.nm,(aT m)] by unfold aR;rw[←hxi.e,hm,bJ];rfl)
          rw[←h1];have:=hyz;omega)
         rw[(show aR cF dx=lnB [(⟨#[115,101,110,116]⟩:ByteArray),x.nm,(aT m)] by unfold aR;rw[←hxi.e,hm,bJ];rfl)]
         exact h))
        have HNY:=hid (HNX.out y hy)
        have HC6:=hid (fun (w':World) (h:Below wp.heap.size wp w')=>(show w'.cell? ⟨mb,5,none⟩=some (.slice (some ⟨b,o,none⟩) sl sc)∧w'.cell? ⟨b,o+k * 2,none⟩=some (.string x.nm)∧w'.cell? ⟨b,o+k * 2+1,none⟩=some (.int .i64 m) from by
         obtain⟨x0,x1⟩:=AtG.cnt (hxa.same (HQ.out w' (hbr.trans (h.mono hbr.size)) b hb).2)
         exact⟨(aA (aB (hbr.trans (h.mono hbr.size)) GM.out) 5).trans (by show some (Value.slice sa sl sc)=_;rw[hna]),x0,by rw[←hm];exact x1⟩))
        have hsz1:¬ 9223372036854775807<A.size+y.size:=by omega
        have hsz2:(9223372036854775807<A.size+y.size)=False:=by simp;omega
        have hsz3:A.size+y.size≤9223372036854775807:=by omega
        have hsz4:decide (9223372036854775807<A.size+y.size)=false:=by simp;omega
        clear hna hdx hxa hxi hx hb hbr hkl hy hys hyz hsum hel hm hmb
        go_upto_region 20 with (fail)
        clear e3
        refine wp_region_held_drew (S:=(fun w'=>Below wp.heap.size wp w')) (by kernel_rfl) ((Below.refl _ _).drew) (fun hS=>?_)
        refine tkQ 0 (v:=?_) ?_ hS ?_;rotate_left;· intro w' hw';have hcells:=HC6.out w' hw';go_simp;(try rfl)
        simp only[Act.put,pq]
        refine tkQ 1 (v:=?_) ?_ hS ?_;rotate_left;· intro w' hw';have hcells:=HC6.out w' hw';go_simp;(try rfl)
        simp only[Act.put,pq]
        refine tkQ 2 (v:=?_) ?_ hS ?_;rotate_left;· intro w' hw';have hcells:=HC6.out w' hw';go_simp;(try rfl)
        simp only[Act.put,pq]
        refine tkQ 3 (v:=?_) ?_ hS ?_;rotate_left;· intro w' hw';have hcells:=HC6.out w' hw';go_simp;(try rfl)
        simp only[Act.put,pq]
        refine tkQ 4 (v:=?_) ?_ hS ?_;rotate_left;· intro w' hw';have hcells:=HC6.out w' hw';go_simp;(try rfl)
        simp only[Act.put,pq]
        refine tkQ 5 (v:=?_) ?_ hS ?_;rotate_left;· intro w' hw';have hcells:=HC6.out w' hw';go_simp;(try rfl)
        simp only[Act.put,pq]
        refine tkQ 6 (v:=?_) ?_ hS ?_;rotate_left;· intro w' hw';have hcells:=HC6.out w' hw';go_simp;(try rfl)
        simp only[Act.put,pq]
        refine tkQ 7 (v:=?_) ?_ hS ?_;rotate_left;· intro w' hw';have hcells:=HC6.out w' hw';go_simp;(try rfl)
        simp only[Act.put,pq]
        refine tkQ 8 (v:=?_) ?_ hS ?_;rotate_left;· intro w' hw';have hcells:=HC6.out w' hw';go_simp;(try rfl)
        simp only[Act.put,pq]
        refine tkQ 9 (v:=?_) ?_ hS ?_;rotate_left;· intro w' hw';have hcells:=HC6.out w' hw';go_simp;(try rfl)
        simp only[Act.put,pq]
        refine tkQ 10 (v:=?_) ?_ hS ?_;rotate_left;· intro w' hw';have hcells:=HC6.out w' hw';go_simp;(try rfl)
        simp only[Act.put,pq]
        refine tkQ 11 (v:=?_) ?_ hS ?_;rotate_left;· intro w' hw';have hcells:=HC6.out w' hw';go_simp;(try rfl)
        simp only[Act.put,pq]
        refine tkQ 12 (v:=?_) ?_ hS ?_;rotate_left;· intro w' hw';have hcells:=HC6.out w' hw';go_simp;(try rfl)
        simp only[Act.put,pq]
        refine ry [13] ?_
        refine arQ fun K hK=>?_
        go_simp;go_at_call 72;refine(bO m (by have:=HMB.out;omega) _).mono ?_
        rintro e w4 ⟨rfl,hww4⟩
        rw[hww4]
        clear hww4
        refine hK.out _ _ (hS) (fun hS=>?_)
        clear hK K
        (try simp only[Act.put,pq])
        refine ry [14] ?_
        refine arQ fun K hK=>?_
        go_simp
        refine hK.out _ _ (hS.alloc hS.size _) (fun hS=>?_)
        clear hK K
        (try simp only[Act.put,pq])
        refine ry [15] ?_
        refine arQ fun K hK=>?_
        go_simp;go_at_call 71;refine(HLN.out wp.drew.heap.size (wp.drew.alloc (.cells #[.string (⟨#[115,101,110,116]⟩:ByteArray),.string x.nm,.string (aT m)] 9)) (aU wp.drew [(⟨#[115,101,110,116]⟩:ByteArray),x.nm,(aT m)] _)).mono ?_
        rintro e w6 ⟨rfl,hww6⟩
        rw[hww6]
        clear hww6
        refine hK.out _ _ (hS) (fun hS=>?_)
        clear hK K
        (try simp only[Act.put,pq])
        refine tkQ 16 (v:=?_) ?_ hS ?_;rotate_left;· intro w' hw';have hcells:=HC6.out w' hw';go_simp;(try rfl)
        simp only[Act.put,pq]
        refine tkQ 17 (v:=?_) ?_ hS ?_;rotate_left;· intro w' hw';have hcells:=HC6.out w' hw';go_simp;(try rfl)
        simp only[Act.put,pq]
        refine wpAnyH_done (by kernel_rfl) ?_ _
        (try dsimp only)
        have HS9:=hid hS
        clear hS
        go_wp2
        go_roundw
        case rel=>exact⟨k+1,by omega,by rw[HNY.out],by go_num,HB3.out.trans (HS9.out.mono HB3.out.size)⟩
        case measure=>simp[intOf];omega
       ·obtain rfl:k=sl:=by omega
        have HA4:Hid (A=⟨P4.toArray⟩):=hid (by
         have h:=HD.out.se.len
         dsimp only at h
         rw[hA,h,dN,HP4.out])
        clear hbr hlt hk hA hAs
        go_wp2
        go_loopw [6,12] (fun sv iv wr=>∃k:Nat,k≤ql∧sv=.string ⟨(acc P4 cA d.qs k).toArray⟩∧iv=.int .i64 k∧Below WB.heap.size WB wr) (fun _ iv _=>ql-(intOf iv).toNat)
        case atStart=>exact⟨0,Nat.zero_le _,by rw[cO];first | rfl | rw[HA4.out],rfl,HB3.out⟩
        case round =>
         obtain⟨k,hk,rfl,rfl,hbr⟩:=hrel
         obtain⟨wp,rfl⟩:∃w1:World,w1=wr:=⟨_,rfl⟩
         obtain⟨A,hA⟩:∃A:ByteArray,A=⟨(acc P4 cA d.qs k).toArray⟩:=⟨_,rfl⟩
         have hAs:A.size=(acc P4 cA d.qs k).length:=by rw[hA];simp[ByteArray.size]
         rw[←hA]
         have HB4:=hid hbr
         have e4:=aA (aB hbr GM.out) 6
         (try dsimp only at e4)
         have hn63:(ql:Int)≤9223372036854775807:=by have h:=HD.out.qs.big;dsimp only at h;omega
         by_cases hlt:k<ql
         ·have hkl:k<d.qs.length:=by have:=HD.out.qs.len;dsimp only at this;omega
          obtain⟨b,o,hna,hb,hx⟩:=HD.out.qs.slot (show 0<ql by omega)
          dsimp only at hna hx
          rw[hna] at e4
          obtain⟨x,hxa,hxi⟩:=hx k hkl
          have hel:=HG4.out k hkl
          have hac:=cP P4 cA d.qs k hkl
          have hle:=fK P4 cA d.qs (k+1)
          have htot:=HT4.out
          obtain⟨dx,hdx⟩:∃dx,dx=d.qs[k]:=⟨_,rfl⟩
          rw[←hdx] at hxi hel hac
          have hlt':(k:Int)<(ql:Int):=by omega
          have hk0:(0:Int)≤(k:Int):=by omega
          have hyz:(cA dx).length≤4000000000000000000:=by
           have:=congrArg List.length hac
           rw[List.length_append] at this
           omega
          have hsum:A.size+(cA dx).length≤4000000000000000000:=by
           have:=congrArg List.length hac
           rw[List.length_append] at this
           omega
          have HNX:Hid (∀y:ByteArray,y=⟨(cA dx).toArray⟩→A++y=⟨(acc P4 cA d.qs (k+1)).toArray⟩):=hid (fun y hy=>by
           rw[hac,hy,hA]
           apply ByteArray.ext;apply Array.ext';simp)
          clear hac hle htot hA hAs
          obtain⟨m,hm⟩:∃m:Nat,x.nu=(m:Int):=⟨x.nu.toNat,by rw[hxi.e];omega⟩
          obtain⟨m2,hm2⟩:∃m:Nat,x.vr=(m:Int):=⟨x.vr.toNat,by rw[hxi.e];omega⟩
          have hmb:m≤999999999999999∧m2≤999999999999999∧x.tx.size≤65536:=by have:=hxi.e;rw[←this] at hel;omega
          have HMB:=hid hmb
          obtain⟨qx,hqx⟩:∃q,q=qxT x.tx:=⟨_,rfl⟩
          have HQX:=hid (fun (w':World)=>(show Calls Tryz.prog 74 #[.string x.tx] w' fun e w2=>e=.returned (.string qx)∧Below w'.heap.size w' w2 from by rw[hqx];exact fA x.tx w' (by have:=HMB.out.2.2;omega)))
          obtain⟨y,hy⟩:∃y:ByteArray,y=⟨(cA dx).toArray⟩:=⟨_,rfl⟩
          have hys:y.size=(cA dx).length:=by rw[hy];simp[ByteArray.size]
          have HLN:=hid (fun (g:Nat) (W':World) (hx:∀(k:Nat) z,[(⟨#[113,117,101,117,101,100]⟩:ByteArray),x.nm,(aT m),(aT m2),qx][k]?=some z→W'.cell? ⟨g,0+k,none⟩=some (.string z))=>(show Calls Tryz.prog 71 #[.slice (some ⟨g,0,none⟩) 5 5] W' fun e w2=>e=.returned (.string y)∧w2=W' from by
           rw[hy]
           have h:=bH g 5 [(⟨#[113,117,101,117,101,100]⟩:ByteArray),x.nm,(aT m),(aT m2),qx] W' hx (by simp) (by
            have h1:=(show cA dx=lnB [(⟨#[113,117,101,117,101,100]⟩:ByteArray),x.nm,(aT m),(aT m2),qx] by unfold cA;rw[←hxi.e,hm,hm2,bJ,bJ,hqx];rfl)
            rw[←h1];have:=hyz;omega)
           rw[(show cA dx=lnB [(⟨#[113,117,101,117,101,100]⟩:ByteArray),x.nm,(aT m),(aT m2),qx] by unfold cA;rw[←hxi.e,hm,hm2,bJ,bJ,hqx];rfl)]
           exact h))
          have HNY:=hid (HNX.out y hy)
          obtain⟨x0,x1,x2,x3⟩:=AtG.que (hxa.same (HQ.out wp hbr b hb).2)
          rw[hm] at x1
          rw[hm2] at x2
          obtain⟨xnm,hxnm⟩:∃z,z=x.nm:=⟨_,rfl⟩
          obtain⟨wq,hwq⟩:∃wq,wq=wp.alloc (.cells #[.string x.nm,.int .i64 m,.int .i64 m2,.string x.tx] 60):=⟨_,rfl⟩
          have hbq:Below wp.heap.size wp wq:=by rw[hwq];exact(Below.refl _ _).alloc lr _
          have gq:wq.heap[wp.heap.size]?=some (.cells #[.string x.nm,.int .i64 m,.int .i64 m2,.string x.tx] 60):=by rw[hwq];exact heap_alloc_new wp _
          have HC6:=hid (fun (w':World) (h:Below wq.heap.size wq w')=>(show w'.cell? ⟨wp.heap.size,0,none⟩=some (.string x.nm)∧w'.cell? ⟨wp.heap.size,1,none⟩=some (.int .i64 m)∧w'.cell? ⟨wp.heap.size,2,none⟩=some (.int .i64 m2)∧w'.cell? ⟨wp.heap.size,3,none⟩=some (.string x.tx) from⟨aA (aB h gq) 0,aA (aB h gq) 1,aA (aB h gq) 2,aA (aB h gq) 3⟩))
          have hsz1:¬ 9223372036854775807<A.size+y.size:=by omega
          have hsz2:(9223372036854775807<A.size+y.size)=False:=by simp;omega
          have hsz3:A.size+y.size≤9223372036854775807:=by omega
          have hsz4:decide (9223372036854775807<A.size+y.size)=false:=by simp;omega
          have HBQ:=hid hbq
          have HWQ:=hid hwq
          clear hna hdx hxa hxi hx hb hbr hkl hy hys hyz hsum hel hm hm2 hmb hqx hbq gq hwq hxnm xnm
          go_upto_region 25 with (fail)
          rw[←HWQ.out]
          clear e4 x0 x1 x2 x3
          refine wp_region_held_drew (S:=(fun w'=>Below wq.heap.size wq w')) (by kernel_rfl) ((Below.refl _ _).drew) (fun hS=>?_)
          refine tkQ 0 (v:=?_) ?_ hS ?_;rotate_left;· intro w' hw';have hcells:=HC6.out w' hw';go_simp;(try rfl)
          simp only[Act.put,pq]
          refine tkQ 1 (v:=?_) ?_ hS ?_;rotate_left;· intro w' hw';have hcells:=HC6.out w' hw';go_simp;(try rfl)
          simp only[Act.put,pq]
          refine tkQ 2 (v:=?_) ?_ hS ?_;rotate_left;· intro w' hw';have hcells:=HC6.out w' hw';go_simp;(try rfl)
          simp only[Act.put,pq]
          refine tkQ 3 (v:=?_) ?_ hS ?_;rotate_left;· intro w' hw';have hcells:=HC6.out w' hw';go_simp;(try rfl)
          simp only[Act.put,pq]
          refine tkQ 4 (v:=?_) ?_ hS ?_;rotate_left;· intro w' hw';have hcells:=HC6.out w' hw';go_simp;(try rfl)
          simp only[Act.put,pq]
          refine tkQ 6 (v:=?_) ?_ hS ?_;rotate_left;· intro w' hw';have hcells:=HC6.out w' hw';go_simp;(try rfl)
          simp only[Act.put,pq]
          refine tkQ 7 (v:=?_) ?_ hS ?_;rotate_left;· intro w' hw';have hcells:=HC6.out w' hw';go_simp;(try rfl)
          simp only[Act.put,pq]
          refine tkQ 9 (v:=?_) ?_ hS ?_;rotate_left;· intro w' hw';have hcells:=HC6.out w' hw';go_simp;(try rfl)
          simp only[Act.put,pq]
          refine tkQ 10 (v:=?_) ?_ hS ?_;rotate_left;· intro w' hw';have hcells:=HC6.out w' hw';go_simp;(try rfl)
          simp only[Act.put,pq]
          refine ry [5] ?_
          refine arQ fun K hK=>?_
          go_simp;go_at_call 72;refine(bO m (by have:=HMB.out;omega) _).mono ?_
          rintro e w4 ⟨rfl,hww4⟩
          rw[hww4]
          clear hww4
          refine hK.out _ _ (hS) (fun hS=>?_)
          clear hK K
          (try simp only[Act.put,pq])
          refine ry [8] ?_
          refine arQ fun K hK=>?_
          go_simp;go_at_call 72;refine(bO m2 (by have:=HMB.out;omega) _).mono ?_
          rintro e w5 ⟨rfl,hww5⟩
          rw[hww5]
          clear hww5
          refine hK.out _ _ (hS) (fun hS=>?_)
          clear hK K
          (try simp only[Act.put,pq])
          refine ry [11] ?_
          refine arQ fun K hK=>?_
          go_simp;go_at_call 74;refine(HQX.out _).mono ?_
          rintro e w6 ⟨rfl,hb6⟩
          refine hK.out _ _ (hS.trans (hb6.mono hS.size)) (fun hS=>?_)
          clear hK K
          (try simp only[Act.put,pq])
          refine ry [12] ?_
          refine arQ fun K hK=>?_
          go_simp
          refine hK.out _ _ (hS.alloc hS.size _) (fun hS=>?_)
          clear hK K
          (try simp only[Act.put,pq])
          refine ry [13] ?_
          refine arQ fun K hK=>?_
          go_simp;go_at_call 71;refine(HLN.out w6.heap.size (w6.alloc (.cells #[.string (⟨#[113,117,101,117,101,100]⟩:ByteArray),.string x.nm,.string (aT m),.string (aT m2),.string qx] 9)) (aU w6 [(⟨#[113,117,101,117,101,100]⟩:ByteArray),x.nm,(aT m),(aT m2),qx] _)).mono ?_
          rintro e w7 ⟨rfl,hww7⟩
          rw[hww7]
          clear hww7
          refine hK.out _ _ (hS) (fun hS=>?_)
          clear hK K
          (try simp only[Act.put,pq])
          refine tkQ 14 (v:=?_) ?_ hS ?_;rotate_left;· intro w' hw';have hcells:=HC6.out w' hw';go_simp;(try rfl)
          simp only[Act.put,pq]
          refine tkQ 15 (v:=?_) ?_ hS ?_;rotate_left;· intro w' hw';have hcells:=HC6.out w' hw';go_simp;(try rfl)
          simp only[Act.put,pq]
          refine wpAnyH_done (by kernel_rfl) ?_ _
          (try dsimp only)
          have HS9:=hid hS
          clear hS
          go_wp2
          go_roundw
          case rel=>exact⟨k+1,by omega,by rw[HNY.out],by go_num,HB4.out.trans ((HBQ.out.trans (HS9.out.mono HBQ.out.size)).mono HB4.out.size)⟩
          case measure=>simp[intOf];omega
         ·obtain rfl:k=ql:=by omega
          have HA5:Hid (A=⟨P5.toArray⟩):=hid (by
           have h:=HD.out.qs.len
           dsimp only at h
           rw[hA,h,dN,HP5.out])
          clear hbr hlt hk hA hAs
          go_wp2
          go_loopw [6,14] (fun sv iv wr=>∃k:Nat,k≤ll∧sv=.string ⟨(acc P5 cC d.ls k).toArray⟩∧iv=.int .i64 k∧(∀j (h1:j<d.ls.length),j<k→(eE d.ls[j].m).2=0)∧Below WB.heap.size WB wr) (fun _ iv _=>ll-(intOf iv).toNat)
          case atStart=>exact⟨0,Nat.zero_le _,by rw[cO];first | rfl | rw[HA5.out],rfl,fun j _ h=>absurd h (Nat.not_lt_zero j),HB4.out⟩
          case round =>
           obtain⟨k,hk,rfl,rfl,hall,hbr⟩:=hrel
           obtain⟨wp,rfl⟩:∃w1:World,w1=wr:=⟨_,rfl⟩
           obtain⟨A,hA⟩:∃A:ByteArray,A=⟨(acc P5 cC d.ls k).toArray⟩:=⟨_,rfl⟩
           have hAs:A.size=(acc P5 cC d.ls k).length:=by rw[hA];simp[ByteArray.size]
           rw[←hA]
           have HB5:=hid hbr
           have e5:=aA (aB hbr GM.out) 7
           (try dsimp only at e5)
           have hn63:(ll:Int)≤9223372036854775807:=by have h:=HD.out.ls.big;dsimp only at h;omega
           by_cases hlt:k<ll
           ·have hkl:k<d.ls.length:=by have:=HD.out.ls.len;dsimp only at this;omega
            obtain⟨b,o,hna,hb,hx⟩:=HD.out.ls.slot (show 0<ll by omega)
            dsimp only at hna hx
            rw[hna] at e5
            obtain⟨x,hxa,hxi⟩:=hx k hkl
            have hel:=HG5.out k hkl
            have hac:=cP P5 cC d.ls k hkl
            have hle:=fK P5 cC d.ls (k+1)
            have htot:=HT5.out
            obtain⟨dx,hdx⟩:∃dx,dx=d.ls[k]:=⟨_,rfl⟩
            rw[←hdx] at hxi hel hac
            have HNE:Hid ((eE dx.m).2≠0→s5=(eE dx.m).2):=hid (fun hne=>by
             rw[HS5E.out];exact eS _ _ k hkl hall _ (by rw[hdx]) hne)
            have HZ:Hid ((eE dx.m).2=0→∀j (h1:j<d.ls.length),j<k+1→(eE d.ls[j].m).2=0):=hid (fun hv j h1 h=>by
             by_cases hjk:j<k
             ·exact hall j h1 hjk
             ·obtain rfl:j=k:=by omega
              rw[←hdx];exact hv)
            have hlt':(k:Int)<(ll:Int):=by omega
            have hk0:(0:Int)≤(k:Int):=by omega
            have hyz:(cC dx).length≤4000000000000000000:=by
             have:=congrArg List.length hac
             rw[List.length_append] at this
             omega
            have hsum:A.size+(cC dx).length≤4000000000000000000:=by
             have:=congrArg List.length hac
             rw[List.length_append] at this
             omega
            have HNX:Hid (∀y:ByteArray,y=⟨(cC dx).toArray⟩→A++y=⟨(acc P5 cC d.ls (k+1)).toArray⟩):=hid (fun y hy=>by
             rw[hac,hy,hA]
             apply ByteArray.ext;apply Array.ext';simp)
            clear hac hle htot hA hAs
            obtain⟨m,hm⟩:∃m:Nat,x.vr=(m:Int):=⟨x.vr.toNat,by rw[hxi.vr];omega⟩
            have hmb:m≤999999999999999∧x.tx.size≤1000000:=by have h1:=hxi.vr;have h2:=hxi.tx;rw[←h1,←h2] at hel;omega
            have HMB:=hid hmb
            obtain⟨qt,hqt⟩:∃q:ByteArray,q=⟨(bZ x.tx.data.toList).toArray⟩:=⟨_,rfl⟩
            obtain⟨mt,hmt⟩:∃q,q=(eE dx.m).1:=⟨_,rfl⟩
            obtain⟨u,hu⟩:∃u,u=(eE dx.m).2:=⟨_,rfl⟩
            obtain⟨wq,hwq⟩:∃wq,wq=wp.alloc (.cells #[.int .i64 x.m.st.e,.slice x.m.st.a x.m.st.n x.m.st.c,.int .i64 x.m.m,.slice x.m.a x.m.n x.m.c,.int .i64 x.m.b.k,.int .i64 x.m.b.i,.int .i64 x.m.b.s,.string x.m.b.t,.slice x.m.b.la x.m.b.ll x.m.b.lc,.slice x.m.b.fa x.m.b.fl x.m.b.fc,.string x.nd,.string x.tx,.int .i64 m] 70):=⟨_,rfl⟩
            have hbq:Below wp.heap.size wp wq:=by rw[hwq];exact(Below.refl _ _).alloc lr _
            have gq:wq.heap[wp.heap.size]?=some (.cells #[.int .i64 x.m.st.e,.slice x.m.st.a x.m.st.n x.m.st.c,.int .i64 x.m.m,.slice x.m.a x.m.n x.m.c,.int .i64 x.m.b.k,.int .i64 x.m.b.i,.int .i64 x.m.b.s,.string x.m.b.t,.slice x.m.b.la x.m.b.ll x.m.b.lc,.slice x.m.b.fa x.m.b.fl x.m.b.fc,.string x.nd,.string x.tx,.int .i64 m] 70):=by rw[hwq];exact heap_alloc_new wp _
            have hbrq:Below WB.heap.size WB wq:=hbr.trans (hbq.mono hbr.size)
            have HQT:=hid (fun (w':World) (h:Below wq.heap.size wq w')=>(show Calls Tryz.prog 76 #[.string x.tx] w' fun e w2=>e=.returned (.string qt)∧Below w'.heap.size w' w2 from by rw[hqt];exact fB x.tx w' (by have:=HMB.out.2;omega) (((HT.out.below HWB.out).below hbrq).below h) (((HZT.out.below HWB.out).below hbrq).below h)))
            have HC:Hid (Calls Tryz.prog 75 #[x.m.v] wq fun e w'=>e=.returned (.tuple #[.string mt,.int .i64 u])∧Below wq.heap.size wq w'):=hid (by
             rw[hmt,hu]
             exact kK x.m dx.m wq (hxi.m.same fun b hb=>HQ.out wq hbrq b hb) ((HT.out.below HWB.out).below hbrq) ((HZT.out.below HWB.out).below hbrq))
            dsimp only[MC.v] at HC
            rw[←hu] at HNE HZ
            obtain⟨y,hy⟩:∃y:ByteArray,y=⟨(cC dx).toArray⟩:=⟨_,rfl⟩
            have hys:y.size=(cC dx).length:=by rw[hy];simp[ByteArray.size]
            have HLN:=hid (fun (g:Nat) (W':World) (hx:∀(k:Nat) z,[(⟨#[108,101,116,116,101,114]⟩:ByteArray),(aT m),x.nd,qt,mt][k]?=some z→W'.cell? ⟨g,0+k,none⟩=some (.string z))=>(show Calls Tryz.prog 71 #[.slice (some ⟨g,0,none⟩) 5 5] W' fun e w2=>e=.returned (.string y)∧w2=W' from by
             rw[hy]
             have h:=bH g 5 [(⟨#[108,101,116,116,101,114]⟩:ByteArray),(aT m),x.nd,qt,mt] W' hx (by simp) (by
              have h1:=(show cC dx=lnB [(⟨#[108,101,116,116,101,114]⟩:ByteArray),(aT m),x.nd,qt,mt] by unfold cC;rw[←hxi.vr,←hxi.nd,←hxi.tx,hm,bJ,hqt,hmt];rfl)
              rw[←h1];have:=hyz;omega)
             rw[(show cC dx=lnB [(⟨#[108,101,116,116,101,114]⟩:ByteArray),(aT m),x.nd,qt,mt] by unfold cC;rw[←hxi.vr,←hxi.nd,←hxi.tx,hm,bJ,hqt,hmt];rfl)]
             exact h))
            have HNY:=hid (HNX.out y hy)
            obtain⟨x0,x1,x2,x3,x4,x5,x6,x7,x8,x9,x10,x11,x12⟩:=AtG.let' (hxa.same (HQ.out wp hbr b hb).2)
            rw[hm] at x12
            have g0:=aA gq 0;have g1:=aA gq 1;have g2:=aA gq 2;have g3:=aA gq 3;have g4:=aA gq 4;have g5:=aA gq 5;have g6:=aA gq 6;have g7:=aA gq 7;have g8:=aA gq 8;have g9:=aA gq 9;(try dsimp only at g0 g1 g2 g3 g4 g5 g6 g7 g8 g9)
            have hsz1:¬ 9223372036854775807<A.size+y.size:=by omega
            have hsz2:(9223372036854775807<A.size+y.size)=False:=by simp;omega
            have hsz3:A.size+y.size≤9223372036854775807:=by omega
            have hsz4:decide (9223372036854775807<A.size+y.size)=false:=by simp;omega
            have HBQ:=hid hbq
            have HWQ:=hid hwq
            have GQ:=hid gq
            clear hna hdx hxa hxi hx hb hbr hkl hy hys hyz hsum hel hm hmb hqt hmt hu hbq gq hwq hbrq hall
            go_upto_region 30 with (fail)
            rw[←HWQ.out]
            clear e5 x0 x1 x2 x3 x4 x5 x6 x7 x8 x9 x10 x11 x12
            by_cases hz:u=0
            ·have HEZ:=hid (HZ.out hz)
             subst hz
             go_upto_region 33 with (go_at_call 75;refine HC.out.mono ?_;rintro e w3 ⟨rfl,hb3⟩;have HB9:=hid hb3;clear hb3)
             clear g0 g1 g2 g3 g4 g5 g6 g7 g8 g9
             have gq3:=aB HB9.out GQ.out
             have HC6:=hid (fun (w':World) (h:Below w3.heap.size w3 w')=>(show w'.cell? ⟨wp.heap.size,10,none⟩=some (.string x.nd)∧w'.cell? ⟨wp.heap.size,11,none⟩=some (.string x.tx)∧w'.cell? ⟨wp.heap.size,12,none⟩=some (.int .i64 m) from⟨aA (aB h gq3) 10,aA (aB h gq3) 11,aA (aB h gq3) 12⟩))
             clear gq3
             refine wp_region_held_drew (S:=(fun w'=>Below w3.heap.size w3 w')) (by kernel_rfl) ((Below.refl _ _).drew) (fun hS=>?_)
             refine tkQ 0 (v:=?_) ?_ hS ?_;rotate_left;· intro w' hw';have hcells:=HC6.out w' hw';go_simp;(try rfl)
             simp only[Act.put,pq]
             refine tkQ 1 (v:=?_) ?_ hS ?_;rotate_left;· intro w' hw';have hcells:=HC6.out w' hw';go_simp;(try rfl)
             simp only[Act.put,pq]
             refine tkQ 2 (v:=?_) ?_ hS ?_;rotate_left;· intro w' hw';have hcells:=HC6.out w' hw';go_simp;(try rfl)
             simp only[Act.put,pq]
             refine tkQ 4 (v:=?_) ?_ hS ?_;rotate_left;· intro w' hw';have hcells:=HC6.out w' hw';go_simp;(try rfl)
             simp only[Act.put,pq]
             refine tkQ 5 (v:=?_) ?_ hS ?_;rotate_left;· intro w' hw';have hcells:=HC6.out w' hw';go_simp;(try rfl)
             simp only[Act.put,pq]
             refine tkQ 6 (v:=?_) ?_ hS ?_;rotate_left;· intro w' hw';have hcells:=HC6.out w' hw';go_simp;(try rfl)
             simp only[Act.put,pq]
             refine tkQ 7 (v:=?_) ?_ hS ?_;rotate_left;· intro w' hw';have hcells:=HC6.out w' hw';go_simp;(try rfl)
             simp only[Act.put,pq]
             refine tkQ 9 (v:=?_) ?_ hS ?_;rotate_left;· intro w' hw';have hcells:=HC6.out w' hw';go_simp;(try rfl)
             simp only[Act.put,pq]
             refine ry [3] ?_
             refine arQ fun K hK=>?_
             go_simp;go_at_call 72;refine(bO m (by have:=HMB.out;omega) _).mono ?_
             rintro e w4 ⟨rfl,hww4⟩
             rw[hww4]
             clear hww4
             refine hK.out _ _ (hS) (fun hS=>?_)
             clear hK K
             (try simp only[Act.put,pq])
             refine ry [8] ?_
             refine arQ fun K hK=>?_
             go_simp;go_at_call 76;refine(HQT.out _ (HB9.out.trans (hS.mono HB9.out.size))).mono ?_
             rintro e w6 ⟨rfl,hb6⟩
             refine hK.out _ _ (hS.trans (hb6.mono hS.size)) (fun hS=>?_)
             clear hK K
             (try simp only[Act.put,pq])
             refine ry [10] ?_
             refine arQ fun K hK=>?_
             go_simp
             refine hK.out _ _ (hS.alloc hS.size _) (fun hS=>?_)
             clear hK K
             (try simp only[Act.put,pq])
             refine ry [11] ?_
             refine arQ fun K hK=>?_
             go_simp;go_at_call 71;refine(HLN.out w6.heap.size (w6.alloc (.cells #[.string (⟨#[108,101,116,116,101,114]⟩:ByteArray),.string (aT m),.string x.nd,.string qt,.string mt] 9)) (aU w6 [(⟨#[108,101,116,116,101,114]⟩:ByteArray),(aT m),x.nd,qt,mt] _)).mono ?_
             rintro e w7 ⟨rfl,hww7⟩
             rw[hww7]
             clear hww7
             refine hK.out _ _ (hS) (fun hS=>?_)
             clear hK K
             (try simp only[Act.put,pq])
             refine tkQ 12 (v:=?_) ?_ hS ?_;rotate_left;· intro w' hw';have hcells:=HC6.out w' hw';go_simp;(try rfl)
             simp only[Act.put,pq]
             refine tkQ 13 (v:=?_) ?_ hS ?_;rotate_left;· intro w' hw';have hcells:=HC6.out w' hw';go_simp;(try rfl)
             simp only[Act.put,pq]
             refine wpAnyH_done (by kernel_rfl) ?_ _
             (try dsimp only)
             have HS9:=hid hS
             clear hS
             go_wp2
             go_roundw
             case rel=>exact⟨k+1,by omega,by rw[HNY.out],by go_num,HEZ.out,HB5.out.trans (((HBQ.out.trans (HB9.out.mono HBQ.out.size)).trans (HS9.out.mono (HBQ.out.trans (HB9.out.mono HBQ.out.size)).size)).mono HB5.out.size)⟩
             case measure=>simp[intOf];omega
            ·have hz1:(u != 0)=true:=by simp[hz]
             have hru:=hid (HNE.out hz)
             have HZN:=hid hz
             clear hz
             go_wp2_with (go_at_call 75;refine HC.out.mono ?_;rintro e w3 ⟨rfl,hb3⟩;have HB9:=hid hb3;clear hb3)
             exact bodyPost_ret (v:=.tuple #[.string ⟨#[]⟩,.int .i64 u]) (by simp[results,Tryz.results17,go_sem]) rfl ⟨by rw[HENC.out];simp[orL,Z1.out,hru.out,HZN.out],HWB.out.trans ((HB5.out.trans ((HBQ.out.trans (HB9.out.mono HBQ.out.size)).mono HB5.out.size)).mono HWB.out.size)⟩
           ·obtain rfl:k=ll:=by omega
            have Z5:Hid (s5=0):=hid (by rw[HS5E.out];exact dR _ _ fun j h1=>hall j h1 (by have h:=HD.out.ls.len;dsimp only at h;omega))
            have HA6:Hid (A=⟨P6.toArray⟩):=hid (by
             have h:=HD.out.ls.len
             dsimp only at h
             rw[hA,h,dN,HP6.out])
            clear hall hbr hlt hk hA hAs
            go_wp2
            go_loopw [6,18] (fun sv iv wr=>∃k:Nat,k≤pl∧sv=.string ⟨(acc P6 cY d.ps k).toArray⟩∧iv=.int .i64 k∧(∀j (h1:j<d.ps.length),j<k→fR d.ps[j]=0)∧Below WB.heap.size WB wr) (fun _ iv _=>pl-(intOf iv).toNat)
            case atStart=>exact⟨0,Nat.zero_le _,by rw[cO];first | rfl | rw[HA6.out],rfl,fun j _ h=>absurd h (Nat.not_lt_zero j),HB5.out⟩
            case round =>
             obtain⟨k,hk,rfl,rfl,hall,hbr⟩:=hrel
             obtain⟨wp,rfl⟩:∃w1:World,w1=wr:=⟨_,rfl⟩
             obtain⟨A,hA⟩:∃A:ByteArray,A=⟨(acc P6 cY d.ps k).toArray⟩:=⟨_,rfl⟩
             have hAs:A.size=(acc P6 cY d.ps k).length:=by rw[hA];simp[ByteArray.size]
             rw[←hA]
             have HB6:=hid hbr
             have e6:=aA (aB hbr GX.out) 8
             (try dsimp only at e6)
             have hn63:(pl:Int)≤9223372036854775807:=by have h:=HD.out.ps.big;dsimp only at h;omega
             by_cases hlt:k<pl
             ·have hkl:k<d.ps.length:=by have:=HD.out.ps.len;dsimp only at this;omega
              obtain⟨b,o,hna,hb,hx⟩:=HD.out.ps.slot (show 0<pl by omega)
              dsimp only at hna hx
              rw[hna] at e6
              obtain⟨x,hxa,hxi⟩:=hx k hkl
              have hel:=HG6.out k hkl
              have hac:=cP P6 cY d.ps k hkl
              have hle:=fK P6 cY d.ps (k+1)
              have htot:=HT6.out
              obtain⟨dx,hdx⟩:∃dx,dx=d.ps[k]:=⟨_,rfl⟩
              rw[←hdx] at hxi hel hac
              have HNE:Hid (fR dx≠0→s6=fR dx):=hid (fun hne=>by
               rw[HS6E.out];exact eS _ _ k hkl hall _ (by rw[hdx]) hne)
              have HZ:Hid (fR dx=0→∀j (h1:j<d.ps.length),j<k+1→fR d.ps[j]=0):=hid (fun hv j h1 h=>by
               by_cases hjk:j<k
               ·exact hall j h1 hjk
               ·obtain rfl:j=k:=by omega
                rw[←hdx];exact hv)
              have hlt':(k:Int)<(pl:Int):=by omega
              have hk0:(0:Int)≤(k:Int):=by omega
              have hyz:(cY dx).length≤4000000000000000000:=by
               have:=congrArg List.length hac
               rw[List.length_append] at this
               omega
              have hsum:A.size+(cY dx).length≤4000000000000000000:=by
               have:=congrArg List.length hac
               rw[List.length_append] at this
               omega
              have HNX:Hid (∀y:ByteArray,y=⟨(cY dx).toArray⟩→A++y=⟨(acc P6 cY d.ps (k+1)).toArray⟩):=hid (fun y hy=>by
               rw[hac,hy,hA]
               apply ByteArray.ext;apply Array.ext';simp)
              clear hac hle htot hA hAs
              obtain⟨y,hy⟩:∃y:ByteArray,y=(jZ dx).1:=⟨_,rfl⟩
              obtain⟨u,hu⟩:∃u:Int,u=fR dx:=⟨_,rfl⟩
              have hu2:(jZ dx).2=u:=by
               unfold jZ
               by_cases h:fR dx≠0
               ·rw[if_pos h];exact hu.symm
               ·rw[if_neg h,hu];exact(Decidable.byContradiction fun h2=>h h2).symm
              have HC:Hid (Calls Tryz.prog 77 #[.agg #[.int .i64 x.k,.string x.nm,.int .i64 x.nu,.string x.tx,.int .i64 x.st.e,.slice x.st.a x.st.n x.st.c,.int .i64 x.rs.e,.slice x.rs.a x.rs.n x.rs.c,.string x.sv,.int .i64 x.ca,.bool x.un,.int .i64 x.bd.k,.int .i64 x.bd.i,.int .i64 x.bd.s,.string x.bd.t,.slice x.bd.la x.bd.ll x.bd.lc,.slice x.bd.fa x.bd.fl x.bd.fc,.string x.nd]] wp fun e w'=>e=.returned (.tuple #[.string y,.int .i64 u])∧Below wp.heap.size wp w'):=hid (by
               rw[hy,←hu2]
               exact nM x dx wp (hxi.same fun b hb=>HQ.out wp hbr b hb) ((HT.out.below HWB.out).below hbr) ((HZT.out.below HWB.out).below hbr) hel)
              have hld:=qG (o:=o+k * 18) (hxa.same (HQ.out wp hbr b hb).2)
              dsimp only[EfC.cs] at hld
              rw[←hu] at HNE HZ
              by_cases hz:u=0
              ·have hye:y=⟨(cY dx).toArray⟩:=by rw[hy];unfold jZ;rw[if_neg (by rw[←hu,hz];simp)]
               have hys:y.size=(cY dx).length:=by rw[hye];simp[ByteArray.size]
               have HNY:=hid (HNX.out y hye)
               have HEZ:=hid (HZ.out hz)
               have hsz1:¬ 9223372036854775807<A.size+y.size:=by omega
               have hsz2:(9223372036854775807<A.size+y.size)=False:=by simp;omega
               have hsz3:A.size+y.size≤9223372036854775807:=by omega
               have hsz4:decide (9223372036854775807<A.size+y.size)=false:=by simp;omega
               clear hna hdx hxa hxi hx hb hbr hkl hy hu hu2 hys hyz hsum hel hall hye
               subst hz
               go_wp2_with (go_at_call 77;refine HC.out.mono ?_;rintro e w3 ⟨rfl,hb3⟩;have HB9:=hid hb3;clear hb3)
               go_roundw
               case rel=>exact⟨k+1,by omega,by rw[HNY.out],by go_num,HEZ.out,HB6.out.trans (HB9.out.mono HB6.out.size)⟩
               case measure=>simp[intOf];omega
              ·have hz1:(u != 0)=true:=by simp[hz]
               have hru:=hid (HNE.out hz)
               have HZN:=hid hz
               clear hna hdx hxa hxi hx hb hbr hkl hy hu hu2 hyz hsum hel hall hz
               go_wp2_with (go_at_call 77;refine HC.out.mono ?_;rintro e w3 ⟨rfl,hb3⟩;have HB9:=hid hb3;clear hb3)
               exact bodyPost_ret (v:=.tuple #[.string ⟨#[]⟩,.int .i64 u]) (by simp[results,Tryz.results17,go_sem]) rfl ⟨by rw[HENC.out];simp[orL,Z1.out,Z5.out,hru.out,HZN.out],HWB.out.trans ((HB6.out.trans (HB9.out.mono HB6.out.size)).mono HWB.out.size)⟩
             ·obtain rfl:k=pl:=by omega
              have Z6:Hid (s6=0):=hid (by rw[HS6E.out];exact dR _ _ fun j h1=>hall j h1 (by have h:=HD.out.ps.len;dsimp only at h;omega))
              have HA7:Hid (A=⟨P7.toArray⟩):=hid (by
               have h:=HD.out.ps.len
               dsimp only at h
               rw[hA,h,dN,HP7.out])
              clear hall hbr hlt hk hA hAs
              obtain⟨y,hy⟩:∃y:ByteArray,y=⟨(lnB [vW]).toArray⟩:=⟨_,rfl⟩
              have hys:y.size=4:=by rw[hy];rfl
              have HLN:=hid (fun (g:Nat) (W':World) (hx:∀(k:Nat) x,[(⟨#[101,110,100]⟩:ByteArray)][k]?=some x→W'.cell? ⟨g,0+k,none⟩=some (.string x))=>(show Calls Tryz.prog 71 #[.slice (some ⟨g,0,none⟩) 1 1] W' fun e w2=>e=.returned (.string y)∧w2=W' from by
               rw[hy]
               exact bH g 1 [(⟨#[101,110,100]⟩:ByteArray)] W' hx (by simp) (by decide)))
              have hAz:A.size=P7.length:=by rw[HA7.out];simp[ByteArray.size]
              have htz:=HT7.out
              have HRES:Hid (A++y=⟨(iS d).toArray⟩):=hid (by
               rw[HA7.out,hy,HP8.out]
               apply ByteArray.ext;apply Array.ext';simp)
              have hsz1:¬ 9223372036854775807<A.size+y.size:=by omega
              have hsz2:(9223372036854775807<A.size+y.size)=False:=by simp;omega
              have hsz3:A.size+y.size≤9223372036854775807:=by omega
              have hsz4:decide (9223372036854775807<A.size+y.size)=false:=by simp;omega
              clear hy hys hAz htz
              go_wp2_with (go_at_call 71;refine(HLN.out wp.heap.size (wp.alloc (.cells #[.string (⟨#[101,110,100]⟩:ByteArray)] 9)) (aU wp [(⟨#[101,110,100]⟩:ByteArray)] _)).mono ?_;rintro e w7 ⟨rfl,hw7⟩;rw[hw7];clear hw7)
              exact bodyPost_ret (v:=.tuple #[.string (A++y),.int .i64 0]) (by simp[results,Tryz.results17,go_sem]) rfl ⟨by rw[HENC.out,HRES.out];simp[orL,Z1.out,Z5.out,Z6.out],HWB.out.trans (((HB6.out.alloc HB6.out.size _)).mono HWB.out.size)⟩
 ·have hne:(u0 != 0)=true:=by simp[h0]
  have HR:Hid (gT d=(⟨#[]⟩,u0)):=hid (by unfold gT;rw[←hu0,if_pos h0])
  clear hu0 h0
  go_wp2_with (go_at_call 9;refine HCK.out.mono ?_;rintro e w1 ⟨rfl,hbk⟩;have HBK:=hid hbk;clear hbk)
  exact bodyPost_ret (v:=.tuple #[.string ⟨#[]⟩,.int .i64 u0]) (by simp[results,Tryz.results17,go_sem]) rfl ⟨by rw[HR.out],HB1W.out.trans (HBK.out.mono HB1W.out.size)⟩
end
end Go.Proofs.YteladbdfiannjaaGreatDoor
