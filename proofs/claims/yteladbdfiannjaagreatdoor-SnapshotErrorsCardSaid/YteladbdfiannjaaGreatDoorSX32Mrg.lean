/- A part. -/
import Derived.Test.YteladbdfiannjaaGreatDoorSX31Mrg
namespace Go.Proofs.YteladbdfiannjaaGreatDoor
set_option linter.unusedVariables false
set_option maxRecDepth 100000
set_option maxHeartbeats 64000000
set_option linter.unusedSimpArgs false
open Go Go.RowKit Go.Shelf
def foE {D:Type} (g:D→Int) (l:List D) (k:Nat) (e:Int):Int:=(l.take k).foldl (fun e x=>orL [e,g x]) e
theorem nX {D:Type} (g:D→Int) (l:List D) (e:Int):foE g l 0 e=e:=rfl
theorem nY {D:Type} (g:D→Int) (l:List D) (k:Nat) (e:Int) (h:k<l.length):foE g l (k+1) e=orL [foE g l k e,g l[k]]:=by
 unfold foE;rw[List.take_succ_eq_append_getElem h,List.foldl_append];rfl
theorem zU (a b c:Int):orL [orL [orL [0,a],b],c]=orL [a,b,c]:=by
 by_cases h1:a=0<;>by_cases h2:b=0<;>by_cases h3:c=0<;>simp[orL,h1,h2,h3]
theorem nZ {D:Type} (g:D→Int):∀(l:List D) (e:Int) (m:Nat),l.foldl (fun e x=>orL [e,g x]) e=orL [e,aP (fun _ x=>g x) m l]
 | [],e,m=>by show e=orL [e,0];rw[xL]
 | x :: r,e,m=>by
   show r.foldl (fun e x=>orL [e,g x]) (orL [e,g x])=orL [e,if g x=0 then aP (fun _ x=>g x) (m+1) r else g x]
   rw[nZ g r _ (m+1)]
   by_cases h1:e=0<;>by_cases h2:g x=0<;>simp[orL,h1,h2]
theorem sF {D:Type} (g:D→Int) (l:List D) (e:Int):foE g l l.length e=orL [e,aP (fun _ x=>g x) 0 l]:=by
 unfold foE;rw[List.take_length];exact nZ g l e 0
section
attribute [-go_sem] loadCellsFrom storeCells
attribute [local go_sem] aAf aAe aAd aAc aAb aAa aA9 aA8 aCs aCr yY yX yW yV zI zH aBy aBx aBw aBv aBu aBt aBs stc9 aC2 aC1 aC0 aBz
theorem oW (c:SnC) (d:Snp) (w:World) (hd:IsSn (· < w.heap.size) w c d) (hT:Tabs w) (hZ:ZTab w) (hs:∀s∈d.ns,Sz 2000 s.l) (hl:∀s∈d.ls,s.tx.size≤1000000) (hz0:snE d=0→(iS d).length≤100000000000000) :
 Calls Tryz.prog 21 #[c.w] w fun e w'=>e=.returned (.tuple #[.string (gT d).1,.int .i64 (gT d).2])∧Below w.heap.size w w':=by
 obtain⟨cv,ce,ct,na,nl,nc,aa,al,ac,sa,sl,sc,qa,ql,qc,la,ll,lc,pa,pl,pc⟩:=c
 dsimp only[SnC.w]
 obtain⟨W1,hW1⟩:∃W1,W1=w.alloc (.cells #[.int .i64 cv,.int .i64 ce,.int .i64 ct,.slice na nl nc,.slice aa al ac,.slice sa sl sc,.slice qa ql qc,.slice la ll lc,.slice pa pl pc] 30):=⟨_,rfl⟩
 have hb1:Below w.heap.size w W1:=by rw[hW1];exact(bR w).alloc lr _
 have gx1:W1.heap[w.heap.size]?=some (.cells #[.int .i64 cv,.int .i64 ce,.int .i64 ct,.slice na nl nc,.slice aa al ac,.slice sa sl sc,.slice qa ql qc,.slice la ll lc,.slice pa pl pc] 30):=by rw[hW1];exact heap_alloc_new w _
 have hz1:W1.heap.size=w.heap.size+1:=by rw[hW1];simp
 obtain⟨u0,hu0⟩:∃u,u=snE d:=⟨_,rfl⟩
 have HCK:Hid (Calls Tryz.prog 8 #[.agg #[.int .i64 cv,.int .i64 ce,.int .i64 ct,.slice na nl nc,.slice aa al ac,.slice sa sl sc,.slice qa ql qc,.slice la ll lc,.slice pa pl pc]] W1 fun e w'=>e=.returned (.int .i64 u0)∧Below W1.heap.size W1 w'):=hid (by
  rw[hu0]
  exact rI ⟨cv,ce,ct,na,nl,nc,aa,al,ac,sa,sl,sc,qa,ql,qc,la,ll,lc,pa,pl,pc⟩ d W1 (hd.same fun b hb=>⟨by omega,hb1.block b hb⟩) (hT.below hb1))
 have GX1:=hid gx1;have HB1W:=hid hb1;have HW1:=hid hW1;have HZ1:=hid hz1;have HT:=hid hT;have HZT:=hid hZ;have HD:=hid hd
 have a0:=aA gx1 0;have a1:=aA gx1 1;have a2:=aA gx1 2;have a3:=aA gx1 3;have a4:=aA gx1 4;have a5:=aA gx1 5;have a6:=aA gx1 6;have a7:=aA gx1 7;have a8:=aA gx1 8;(try dsimp only at a0 a1 a2 a3 a4 a5 a6 a7 a8)
 clear gx1 hb1 hW1 hz1 hT hZ hd
 go_enter Tryz.func21,Tryz.ntmps21
 go_upto_region 1 with (fail)
 rw[←HW1.out]
 by_cases h0:u0=0
 ·have hok:=wN (show snE d=0 by rw[←hu0];exact h0)
  have hz:=hz0 (show snE d=0 by rw[←hu0];exact h0)
  clear hz0
  have HR:Hid (I64 cv∧I64 ce∧I64 ct):=hid ⟨HD.out.rv,HD.out.re,HD.out.rt⟩
  obtain⟨s1,hs1⟩:∃s,s=aP (fun _ s=>(fQ s).2) 0 d.ns:=⟨_,rfl⟩
  obtain⟨s5,hs5⟩:∃s,s=aP (fun _ l=>(eE l.m).2) 0 d.ls:=⟨_,rfl⟩
  obtain⟨s6,hs6⟩:∃s,s=aP (fun _ x=>fR x) 0 d.ps:=⟨_,rfl⟩
  have HENC:Hid (gT d=if orL [s1,s5,s6]≠0 then (⟨#[]⟩,orL [s1,s5,s6]) else (⟨(iS d).toArray⟩,0)):=hid (by
   unfold gT;rw[if_neg (by rw[←hu0,h0];simp)];unfold snEr;rw[←hs1,←hs5,←hs6])
  have HS1E:=hid hs1;have HS5E:=hid hs5;have HS6E:=hid hs6
  obtain⟨P1,hP1⟩:∃P,P=aAl d:=⟨_,rfl⟩
  obtain⟨P2,hP2⟩:∃P,P=P1++d.ns.flatMap cE:=⟨_,rfl⟩
  obtain⟨P3,hP3⟩:∃P,P=P2++d.ar.flatMap (aR dY):=⟨_,rfl⟩
  obtain⟨P4,hP4⟩:∃P,P=P3++d.se.flatMap (aR cF):=⟨_,rfl⟩
  obtain⟨P5,hP5⟩:∃P,P=P4++d.qs.flatMap cA:=⟨_,rfl⟩
  obtain⟨P6,hP6⟩:∃P,P=P5++d.ls.flatMap cC:=⟨_,rfl⟩
  obtain⟨P7,hP7⟩:∃P,P=P6++d.ps.flatMap cY:=⟨_,rfl⟩
  have hP8:iS d=P7++lnB [vW]:=by unfold iS;rw[hP7,hP6,hP5,hP4,hP3,hP2,hP1]
  have htt:P7.length+4≤100000000000000:=by rw[hP8,List.length_append] at hz;have h4:(lnB [vW]).length=4:=rfl;omega
  have HT7:=hid htt
  have HT6:Hid ((P6++d.ps.flatMap cY).length≤100000000000000):=hid (by rw[←hP7];omega)
  have HT5:Hid ((P5++d.ls.flatMap cC).length≤100000000000000):=hid (by rw[←hP6];have h:=congrArg List.length hP7;rw[List.length_append] at h;have:=HT6.out;rw[←hP7] at this;omega)
  have HT4:Hid ((P4++d.qs.flatMap cA).length≤100000000000000):=hid (by rw[←hP5];have h:=congrArg List.length hP6;rw[List.length_append] at h;have:=HT5.out;rw[←hP6] at this;omega)
  have HT3:Hid ((P3++d.se.flatMap (aR cF)).length≤100000000000000):=hid (by rw[←hP4];have h:=congrArg List.length hP5;rw[List.length_append] at h;have:=HT4.out;rw[←hP5] at this;omega)
  have HT2:Hid ((P2++d.ar.flatMap (aR dY)).length≤100000000000000):=hid (by rw[←hP3];have h:=congrArg List.length hP4;rw[List.length_append] at h;have:=HT3.out;rw[←hP4] at this;omega)
  have HT1:Hid ((P1++d.ns.flatMap cE).length≤100000000000000):=hid (by rw[←hP2];have h:=congrArg List.length hP3;rw[List.length_append] at h;have:=HT2.out;rw[←hP3] at this;omega)
  have HT0:Hid (P1.length≤100000000000000):=hid (by have h:=HT1.out;rw[List.length_append] at h;omega)
  have HG1:=hid (fun (j:Nat) (h:j<d.ns.length)=>hs d.ns[j] (List.getElem_mem h))
  have HG2:=hid hok.ar;have HG3:=hid hok.se;have HG4:=hid hok.qs;have HG6:=hid hok.ps
  have HG5:=hid (fun (j:Nat) (h:j<d.ls.length)=>And.intro (hok.ls j h) (hl d.ls[j] (List.getElem_mem h)))
  have HP8:=hid hP8
  have HP1:=hid hP1
  have HP2:=hid hP2
  have HP3:=hid hP3
  have HP4:=hid hP4
  have HP5:=hid hP5
  have HP6:=hid hP6
  have HP7:=hid hP7
  have HP1L:Hid (P1=lnB [(⟨#[115,110,97,112,115,104,111,116]⟩:ByteArray),(aF cv),(aF ce),(aF ct)]):=hid (by rw[hP1];unfold aAl;have h1:=HD.out.v;have h3:=HD.out.e;have h5:=HD.out.t;dsimp only at h1 h3 h5;rw[←h1,←h3,←h5];rfl)
  have HLZ0:Hid ((⟨[],0⟩:JW).b.length+(lnB [(⟨#[115,110,97,112,115,104,111,116]⟩:ByteArray),(aF cv),(aF ce),(aF ct)]).length≤140737488355328):=hid (by rw[←HP1L.out];show 0+_≤_;have:=HT0.out;omega)
  clear hok hs1 hs5 hs6 hP8 htt hu0 hs hl hz hP1 hP2 hP3 hP4 hP5 hP6 hP7
  subst h0
  go_upto_region 6 with (go_at_call 8;refine HCK.out.mono ?_;rintro e w1 ⟨rfl,hbk⟩;have HBK:=hid hbk;have q1:=aB hbk GX1.out;have q:=aC (.cells #[.pointer none,.slice none 0 0,.int .i64 0] 141) q1;clear a0 a1 a2 a3 a4 a5 a6 a7 a8;have a0:=aA q 0;have a1:=aA q 1;have a2:=aA q 2;have a3:=aA q 3;have a4:=aA q 4;have a5:=aA q 5;have a6:=aA q 6;have a7:=aA q 7;have a8:=aA q 8;(try dsimp only at a0 a1 a2 a3 a4 a5 a6 a7 a8);have GX2:=hid q1;clear q q1 hbk)
  clear a0 a1 a2 a3 a4 a5 a6 a7 a8
  obtain⟨b,hb⟩:∃b,b=w1.heap.size:=⟨_,rfl⟩
  obtain⟨W,hW⟩:∃W,W=(w1.alloc (.cells #[.pointer none,.slice none 0 0,.int .i64 0] 141)).alloc (.cells #[.int .i64 cv,.int .i64 ce,.int .i64 ct,.slice na nl nc,.slice aa al ac,.slice sa sl sc,.slice qa ql qc,.slice la ll lc] 27):=⟨_,rfl⟩
  rw[←hW,←hb]
  have hbW:Below w1.heap.size w1 W:=by rw[hW];exact((Below.refl _ w1).alloc lr _).alloc (by simp) _
  have g1:W.heap[b]?=some (.cells #[.pointer none,.slice none 0 0,.int .i64 0] 141):=by rw[hW,hb];exact aC _ (heap_alloc_new w1 _)
  obtain⟨MO,hMO⟩:∃o:Obj,o=(.cells #[.int .i64 cv,.int .i64 ce,.int .i64 ct,.slice na nl nc,.slice aa al ac,.slice sa sl sc,.slice qa ql qc,.slice la ll lc] 27):=⟨_,rfl⟩
  have g2:W.heap[b+1]?=some MO:=by rw[hMO,hW,hb];exact aM _ _ _ (by simp)
  have HMO:=hid hMO
  have hwb:W.heap.size=b+2:=by rw[hW,hb];simp
  have HM0:Hid (W.drew.heap[b+1]?=some MO):=hid g2
  have HBW:=hid (HB1W.out.trans ((HBK.out.mono HB1W.out.size).trans (hbW.mono (Nat.le_trans HB1W.out.size HBK.out.size))))
  have GX:Hid (W.heap[w.heap.size]?=some (.cells #[.int .i64 cv,.int .i64 ce,.int .i64 ct,.slice na nl nc,.slice aa al ac,.slice sa sl sc,.slice qa ql qc,.slice la ll lc,.slice pa pl pc] 30)):=hid (aB hbW GX2.out)
  have HXB:Hid (w.heap.size<b):=hid (by rw[hb];exact bT GX2.out)
  have HWS:Hid (w.heap.size≤b):=hid (Nat.le_of_lt HXB.out)
  have HBLT:Hid (b<W.heap.size):=hid (by omega)
  have HI0:Hid (IsJw 141 b b ⟨[],0⟩ W.drew):=hid ⟨Nat.le_refl _,_,_,g1,.inl rfl,World.ownsRowF_nil _ _ _ _,by simp[Value.ownBlock]⟩
  have HTB:=hid (fun (w':World) (h:Below b W w')=>HT.out.below (HBW.out.trans (h.mono HWS.out)))
  have HZB:=hid (fun (w':World) (h:Below b W w')=>HZT.out.below (HBW.out.trans (h.mono HWS.out)))
  have HIT:=hid (fun (x:Int) (hx:I64 x) (w':World) (h:Below b W w')=>bD x hx w' (HTB.out w' h))
  have HQ:=hid (fun (w':World) (h:Below b W w') (k:Nat) (hk:k<w.heap.size)=>(show k<w'.heap.size∧w'.heap[k]?=w.heap[k]? from⟨by have h1:=h.size;have h2:=HBW.out.size;omega,(h.block k (by have:=HWS.out;omega)).trans (HBW.out.block k hk)⟩))
  have HC6:=hid (fun (w':World) (h:w'.heap[b+1]?=some MO∧Below b W w')=>(show w'.cell? ⟨b+1,0,none⟩=some (.int .i64 cv)∧w'.cell? ⟨b+1,1,none⟩=some (.int .i64 ce)∧w'.cell? ⟨b+1,2,none⟩=some (.int .i64 ct) from by
   have h1:=h.1
   rw[hMO] at h1
   exact⟨aA h1 0,aA h1 1,aA h1 2⟩))
  clear hW hb hbW g1 g2 hwb hMO
  refine wp_region_held_drew (S:=(fun w'=>w'.heap[b+1]?=some MO∧Below b W w')) (by kernel_rfl) (⟨HM0.out,(Below.refl _ _).drew⟩) (fun hS=>?_)
  refine tkQ 0 (v:=?_) ?_ hS ?_;rotate_left;· intro w' hw';have hcells:=HC6.out w' hw';go_simp;(try rfl)
  simp only[Act.put,pq]
  refine tkQ 1 (v:=?_) ?_ hS ?_;rotate_left;· intro w' hw';have hcells:=HC6.out w' hw';go_simp;(try rfl)
  simp only[Act.put,pq]
  refine tkQ 2 (v:=?_) ?_ hS ?_;rotate_left;· intro w' hw';have hcells:=HC6.out w' hw';go_simp;(try rfl)
  simp only[Act.put,pq]
  refine tkQ 4 (v:=?_) ?_ hS ?_;rotate_left;· intro w' hw';have hcells:=HC6.out w' hw';go_simp;(try rfl)
  simp only[Act.put,pq]
  refine tkQ 5 (v:=?_) ?_ hS ?_;rotate_left;· intro w' hw';have hcells:=HC6.out w' hw';go_simp;(try rfl)
  simp only[Act.put,pq]
  refine tkQ 7 (v:=?_) ?_ hS ?_;rotate_left;· intro w' hw';have hcells:=HC6.out w' hw';go_simp;(try rfl)
  simp only[Act.put,pq]
  refine tkQ 8 (v:=?_) ?_ hS ?_;rotate_left;· intro w' hw';have hcells:=HC6.out w' hw';go_simp;(try rfl)
  simp only[Act.put,pq]
  refine ry [3] ?_
  refine arQ fun K hK=>?_
  go_simp;go_at_call 80;refine(HIT.out cv HR.out.1 _ hS.2).mono ?_
  rintro e w4 ⟨rfl,hbw4⟩
  have HI4:=hid (HI0.out.ext hbw4)
  refine hK.out _ _ (⟨aB hbw4 hS.1,hS.2.trans (hbw4.mono (by have:=HBLT.out;have:=hS.2.size;omega))⟩) (fun hS=>?_)
  clear hK K
  (try simp only[Act.put,pq])
  refine ry [6] ?_
  refine arQ fun K hK=>?_
  go_simp;go_at_call 80;refine(HIT.out ce HR.out.2.1 _ hS.2).mono ?_
  rintro e w5 ⟨rfl,hbw5⟩
  have HI5:=hid (HI4.out.ext hbw5)
  refine hK.out _ _ (⟨aB hbw5 hS.1,hS.2.trans (hbw5.mono (by have:=HBLT.out;have:=hS.2.size;omega))⟩) (fun hS=>?_)
  clear hK K
  (try simp only[Act.put,pq])
  refine ry [9] ?_
  refine arQ fun K hK=>?_
  go_simp;go_at_call 80;refine(HIT.out ct HR.out.2.2 _ hS.2).mono ?_
  rintro e w6 ⟨rfl,hbw6⟩
  have HI6:=hid (HI5.out.ext hbw6)
  refine hK.out _ _ (⟨aB hbw6 hS.1,hS.2.trans (hbw6.mono (by have:=HBLT.out;have:=hS.2.size;omega))⟩) (fun hS=>?_)
  clear hK K
  (try simp only[Act.put,pq])
  refine ry [10] ?_
  refine arQ fun K hK=>?_
  go_simp
  have HI7:=hid (HI6.out.ext ((Below.refl _ w6).alloc lr (.cells #[.string (⟨#[115,110,97,112,115,104,111,116]⟩:ByteArray),.string (aF cv),.string (aF ce),.string (aF ct)] 9)))
  refine hK.out _ _ (⟨aC _ hS.1,hS.2.alloc (by have:=HBLT.out;have:=hS.2.size;omega) _⟩) (fun hS=>?_)
  clear hK K
  (try simp only[Act.put,pq])
  refine ry [11] ?_
  refine arQ fun K hK=>?_
  have HL:=hid (bV b b ⟨[],0⟩ w6.heap.size 4 [(⟨#[115,110,97,112,115,104,111,116]⟩:ByteArray),(aF cv),(aF ce),(aF ct)] (w6.alloc (.cells #[.string (⟨#[115,110,97,112,115,104,111,116]⟩:ByteArray),.string (aF cv),.string (aF ce),.string (aF ct)] 9)) (aU w6 [(⟨#[115,110,97,112,115,104,111,116]⟩:ByteArray),(aF cv),(aF ce),(aF ct)] _) (by simp) (by simp) (by simp) HLZ0.out HI7.out (by have:=HBLT.out;have:=hS.2.size;omega))
  go_simp;go_at_call 79;refine HL.out.mono ?_
  rintro e w8 ⟨rfl,hiw8,hbw8,how8⟩
  have HIZ:=hid hiw8
  clear HL hiw8
  refine hK.out _ _ (⟨how8 _ _ hS.1 (by simp) (by intro c fz;rw[HMO.out];simp),hS.2.trans hbw8⟩) (fun hS=>?_)
  clear hK K
  (try simp only[Act.put,pq])
  refine wpAnyH_done (by kernel_rfl) ?_ _
  (try dsimp only)
  have HSI0:Hid (IsJw 141 b b ⟨P1,0⟩ w8∧w8.heap[b+1]?=some MO∧Below b W w8):=hid ⟨by rw[HP1L.out];exact HIZ.out,hS.1,hS.2⟩
  clear hS
  have f1:=aA (show w8.heap[b+1]?=some (.cells #[.int .i64 cv,.int .i64 ce,.int .i64 ct,.slice na nl nc,.slice aa al ac,.slice sa sl sc,.slice qa ql qc,.slice la ll lc] 27) from by rw[←HMO.out];exact HSI0.out.2.1) 3
  (try dsimp only at f1)
  go_wp2
  clear f1
  go_loopw [43] (fun iv wr=>∃k:Nat,k≤nl∧iv=.int .i64 k∧IsJw 141 b b ⟨acc P1 cE d.ns k,(foE (fun s:Sta=>(fQ s).2) d.ns k 0)⟩ wr∧wr.heap[b+1]?=some MO∧Below b W wr) (fun iv _=>nl-(intOf iv).toNat)
  case atStart=>exact⟨0,Nat.zero_le _,rfl,by rw[cO];rw[nX];exact HSI0.out.1,HSI0.out.2.1,HSI0.out.2.2⟩
  case round =>
   obtain⟨k,hk,rfl,hij,hmm,hbr⟩:=hrel
   obtain⟨wp,rfl⟩:∃w1:World,w1=wr:=⟨_,rfl⟩
   have hn63:(nl:Int)≤9223372036854775807:=by have h:=HD.out.ns.big;dsimp only at h;omega
   have HPZ:Hid (b+1<wp.heap.size):=hid (bT hmm)
   by_cases hlt:k<nl
   ·have hkl:k<d.ns.length:=by have:=HD.out.ns.len;dsimp only at this;omega
    obtain⟨rb,ro,hna,hrb,hx⟩:=HD.out.ns.slot (show 0<nl by omega)
    dsimp only at hna hx
    subst hna
    obtain⟨x,hxa,hxi⟩:=hx k hkl
    have hel:=HG1.out k hkl
    have hac:=cP P1 cE d.ns k hkl
    have hle:=fK P1 cE d.ns (k+1)
    have htot:=HT1.out
    have hfo:=nY (fun s:Sta=>(fQ s).2) d.ns k 0 hkl
    obtain⟨dx,hdx⟩:∃dx,dx=d.ns[k]:=⟨_,rfl⟩
    rw[←hdx] at hxi hel hac hfo
    have hlt':(k:Int)<(nl:Int):=by omega
    have hk0:(0:Int)≤(k:Int):=by omega
    obtain⟨A,hA⟩:∃A,A=acc P1 cE d.ns k:=⟨_,rfl⟩
    obtain⟨ea,hea⟩:∃e,e=(foE (fun s:Sta=>(fQ s).2) d.ns k 0):=⟨_,rfl⟩
    rw[←hA,←hea] at hij
    rw[←hA] at hac
    have HLZ:Hid (A.length+(cE dx).length≤140737488355328):=hid (by
     have:=congrArg List.length hac
     rw[List.length_append] at this
     omega)
    have HNX:Hid (∀w',IsJw 141 b b ⟨A++cE dx,orL [ea,(fun s:Sta=>(fQ s).2) dx]⟩ w'→IsJw 141 b b ⟨acc P1 cE d.ns (k+1),(foE (fun s:Sta=>(fQ s).2) d.ns (k+1) 0)⟩ w'):=hid (fun w' h=>by rw[hac,hfo,←hea];exact h)
    (try dsimp only at HNX)
    have HIJ:=hid hij;have HMM:=hid hmm;have HBR:=hid hbr
    obtain⟨x0,x1,x2⟩:=AtG.sta (hxa.same (HQ.out wp hbr rb hrb).2)
    obtain⟨y,hy⟩:∃y:ByteArray,y=(fQ dx).1:=⟨_,rfl⟩
    obtain⟨u,hu⟩:∃u:Int,u=(fQ dx).2:=⟨_,rfl⟩
    have HSC:=hid (fun (w':World) (h:Below b W w')=>(show Calls Tryz.prog 73 #[.agg #[.int .i64 x.n,.int .i64 x.t,.slice x.a x.l x.c]] w' fun e w2=>e=.returned (.tuple #[.string y,.int .i64 u])∧Below w'.heap.size w' w2 from by
     rw[hy,hu]
     exact qM x dx w' (hxi.same fun k hk=>HQ.out w' h k hk) (HTB.out w' h) (HZB.out w' h) hel))
    have hys:y.data.toList=cE dx:=by rw[hy];rfl
    have hyz:y.size=(cE dx).length:=by rw[←hys,Array.length_toList];rfl
    rw[←hu,←hys] at HNX
    have HLZ2:Hid (A.length+y.size≤140737488355328):=hid (by rw[hyz];exact HLZ.out)
    obtain⟨wq,hwq⟩:∃wq,wq=wp.alloc (.cells #[.int .i64 x.n,.int .i64 x.t,.slice x.a x.l x.c] 55):=⟨_,rfl⟩
    have hbq:Below wp.heap.size wp wq:=by rw[hwq];exact(Below.refl _ _).alloc lr _
    have GQ:Hid (wq.drew.heap[wp.heap.size]?=some (.cells #[.int .i64 x.n,.int .i64 x.t,.slice x.a x.l x.c] 55)):=hid (by rw[hwq];exact heap_alloc_new wp _)
    have HQS:Hid (wq.drew.heap[b+1]?=some MO∧Below b W wq.drew∧wp.heap.size<wq.drew.heap.size):=hid ⟨aB hbq.drew hmm,hbr.trans (hbq.drew.mono (by have:=HPZ.out;omega)),by rw[hwq];show _<(wp.alloc _).heap.size;simp⟩
    have HI0:Hid (IsJw 141 b b ⟨A,ea⟩ wq.drew):=hid (hij.ext hbq.drew)
    skip
    have HWQ:=hid hwq
    clear hwq hbq 
    clear hdx hxa hxi hx hrb hbr hkl hij hmm hac hle htot hA hea hfo hy hu hys hyz hel
    have HCC:=hid (fun (w':World) (h:w'.heap[wp.heap.size]?=some (.cells #[.int .i64 x.n,.int .i64 x.t,.slice x.a x.l x.c] 55)∧w'.heap[b+1]?=some MO∧Below b W w'∧wp.heap.size<w'.heap.size)=>(show w'.cell? ⟨wp.heap.size,0,none⟩=some (.int .i64 x.n)∧w'.cell? ⟨wp.heap.size,1,none⟩=some (.int .i64 x.t)∧w'.cell? ⟨wp.heap.size,2,none⟩=some (.slice x.a x.l x.c) from⟨aA h.1 0,aA h.1 1,aA h.1 2⟩))
    go_upto_region 10 with (fail)
    rw[←HWQ.out]
    clear x0 x1 x2
    refine wp_region_held_drew (S:=(fun w'=>w'.heap[wp.heap.size]?=some (.cells #[.int .i64 x.n,.int .i64 x.t,.slice x.a x.l x.c] 55)∧w'.heap[b+1]?=some MO∧Below b W w'∧wp.heap.size<w'.heap.size)) (by kernel_rfl) (⟨GQ.out,HQS.out.1,HQS.out.2.1,HQS.out.2.2⟩) (fun hS=>?_)
    refine tkQ 0 (v:=?_) ?_ hS ?_;rotate_left;· intro w' hw';have hcells:=HCC.out w' hw';go_simp;(try rfl)
    simp only[Act.put,pq]
    refine tkQ 1 (v:=?_) ?_ hS ?_;rotate_left;· intro w' hw';have hcells:=HCC.out w' hw';go_simp;(try rfl)
    simp only[Act.put,pq]
    refine tkQ 2 (v:=?_) ?_ hS ?_;rotate_left;· intro w' hw';have hcells:=HCC.out w' hw';go_simp;(try rfl)
    simp only[Act.put,pq]
    refine tkQ 3 (v:=?_) ?_ hS ?_;rotate_left;· intro w' hw';have hcells:=HCC.out w' hw';go_simp;(try rfl)
    simp only[Act.put,pq]
    refine tkQ 4 (v:=?_) ?_ hS ?_;rotate_left;· intro w' hw';have hcells:=HCC.out w' hw';go_simp;(try rfl)
    simp only[Act.put,pq]
    refine ry [5] ?_
    refine arQ fun K hK=>?_
    go_simp;go_at_call 73;refine(HSC.out _ hS.2.2.1).mono ?_
    rintro e w4 ⟨rfl,hbw4⟩
    have HI4:=hid (HI0.out.ext hbw4)
    refine hK.out _ _ (⟨aB hbw4 hS.1,aB hbw4 hS.2.1,hS.2.2.1.trans (hbw4.mono (by have:=HBLT.out;have:=hS.2.2.1.size;omega)),by have:=hbw4.size;have:=hS.2.2.2;omega⟩) (fun hS=>?_)
    clear hK K
    (try simp only[Act.put,pq])
    refine tkQ 6 (v:=?_) ?_ hS ?_;rotate_left;· intro w' hw';have hcells:=HCC.out w' hw';go_simp;(try rfl)
    simp only[Act.put,pq]
    refine tkQ 7 (v:=?_) ?_ hS ?_;rotate_left;· intro w' hw';have hcells:=HCC.out w' hw';go_simp;(try rfl)
    simp only[Act.put,pq]
    refine ry [8] ?_
    refine arQ fun K hK=>?_
    have HTX:=hid (eZ b b ⟨A,ea⟩ y u _ HI4.out (by have:=HBLT.out;have:=hS.2.2.1.size;omega))
    go_simp;go_at_call 82;refine HTX.out.mono ?_
    rintro r w5 ⟨rfl,hiw5,hbw5,how5⟩
    have HI5:=hid hiw5
    clear HTX hiw5
    refine hK.out _ _ (⟨how5 _ _ hS.1 (by simp;have:=HBLT.out;have:=HPZ.out;omega) (by intro c fz;simp),how5 _ _ hS.2.1 (by simp) (by intro c fz;rw[HMO.out];simp),hS.2.2.1.trans hbw5,by have:=hbw5.size;have:=hS.2.2.2;omega⟩) (fun hS=>?_)
    clear hK K
    (try simp only[Act.put,pq])
    refine ry [9] ?_
    refine arQ fun K hK=>?_
    have HL:=hid (kE 141 aC4 b b ⟨A,orL [ea,u]⟩ y _ HI5.out HLZ2.out (by have:=HBLT.out;have:=hS.2.2.1.size;omega))
    go_simp;go_at_call 81;refine HL.out.mono ?_
    rintro e w6 ⟨rfl,hiw6,hbw6,how6⟩
    have HIZ:=hid hiw6
    clear HL hiw6
    refine hK.out _ _ (⟨how6 _ _ hS.1 (by simp;have:=HBLT.out;have:=HPZ.out;omega) (by intro c fz;simp),how6 _ _ hS.2.1 (by simp) (by intro c fz;rw[HMO.out];simp),hS.2.2.1.trans hbw6,by have:=hbw6.size;have:=hS.2.2.2;omega⟩) (fun hS=>?_)
    clear hK K
    (try simp only[Act.put,pq])
    refine wpAnyH_done (by kernel_rfl) ?_ _
    (try dsimp only)
    have HS9:=hid hS
    clear hS
    go_wp2
    go_roundw
    case rel=>exact⟨k+1,by omega,by go_num,HNX.out _ HIZ.out,HS9.out.2.1,HS9.out.2.2.1⟩
    case measure=>simp[intOf];omega
   ·obtain rfl:nl=k:=by omega
    have HSI1:Hid (IsJw 141 b b ⟨P2,orL [0,aP (fun _ x=>(fun s:Sta=>(fQ s).2) x) 0 d.ns]⟩ wp∧wp.heap[b+1]?=some MO∧Below b W wp):=hid (by
     have h:=HD.out.ns.len
     dsimp only at h
     rw[h,dN,←HP2.out,sF] at hij
     exact⟨hij,hmm,hbr⟩)
    clear hij hmm hbr hlt hk
    rw[←HS1E.out] at HSI1
    have f2:=aA (show wp.heap[b+1]?=some (.cells #[.int .i64 cv,.int .i64 ce,.int .i64 ct,.slice na nl nc,.slice aa al ac,.slice sa sl sc,.slice qa ql qc,.slice la ll lc] 27) from by rw[←HMO.out];exact HSI1.out.2.1) 4
    (try dsimp only at f2)
    go_wp2
    clear f2
    go_loopw [61] (fun iv wr=>∃k:Nat,k≤al∧iv=.int .i64 k∧IsJw 141 b b ⟨acc P2 (aR dY) d.ar k,(orL [0,s1])⟩ wr∧wr.heap[b+1]?=some MO∧Below b W wr) (fun iv _=>al-(intOf iv).toNat)
    case atStart=>exact⟨0,Nat.zero_le _,rfl,by rw[cO];exact HSI1.out.1,HSI1.out.2.1,HSI1.out.2.2⟩
    case round =>
     obtain⟨k,hk,rfl,hij,hmm,hbr⟩:=hrel
     obtain⟨wp,rfl⟩:∃w1:World,w1=wr:=⟨_,rfl⟩
     have hn63:(al:Int)≤9223372036854775807:=by have h:=HD.out.ar.big;dsimp only at h;omega
     have HPZ:Hid (b+1<wp.heap.size):=hid (bT hmm)
     by_cases hlt:k<al
     ·have hkl:k<d.ar.length:=by have:=HD.out.ar.len;dsimp only at this;omega
      obtain⟨rb,ro,hna,hrb,hx⟩:=HD.out.ar.slot (show 0<al by omega)
      dsimp only at hna hx
      subst hna
      obtain⟨x,hxa,hxi⟩:=hx k hkl
      have hel:=HG2.out k hkl
      have hac:=cP P2 (aR dY) d.ar k hkl
      have hle:=fK P2 (aR dY) d.ar (k+1)
      have htot:=HT2.out
      skip
      obtain⟨dx,hdx⟩:∃dx,dx=d.ar[k]:=⟨_,rfl⟩
      rw[←hdx] at hxi hel hac
      have hlt':(k:Int)<(al:Int):=by omega
      have hk0:(0:Int)≤(k:Int):=by omega
      obtain⟨A,hA⟩:∃A,A=acc P2 (aR dY) d.ar k:=⟨_,rfl⟩
      obtain⟨ea,hea⟩:∃e,e=(orL [0,s1]):=⟨_,rfl⟩
      rw[←hA,←hea] at hij
      rw[←hA] at hac
      have HLZ:Hid (A.length+((aR dY) dx).length≤140737488355328):=hid (by
       have:=congrArg List.length hac
       rw[List.length_append] at this
       omega)
      have HNX:Hid (∀w',IsJw 141 b b ⟨A++(aR dY) dx,ea⟩ w'→IsJw 141 b b ⟨acc P2 (aR dY) d.ar (k+1),(orL [0,s1])⟩ w'):=hid (fun w' h=>by rw[hac,←hea];exact h)
      skip
      have HIJ:=hid hij;have HMM:=hid hmm;have HBR:=hid hbr
      obtain⟨x0,x1⟩:=AtG.cnt (hxa.same (HQ.out wp hbr rb hrb).2)
      have hyl:aR dY dx=lnB [(⟨#[97,114,114,105,118,101,100]⟩:ByteArray),x.nm,(aF x.nu)]:=by unfold aR;rw[←hxi.e];rfl
      have HNU:=hid (show I64 x.nu by rw[hxi.e];unfold I64;omega)
      rw[hyl] at HNX HLZ
      obtain⟨wq,hwq⟩:∃wq,wq=wp.alloc (.cells #[.string x.nm,.int .i64 x.nu] 58):=⟨_,rfl⟩
      have hbq:Below wp.heap.size wp wq:=by rw[hwq];exact(Below.refl _ _).alloc lr _
      have GQ:Hid (wq.drew.heap[wp.heap.size]?=some (.cells #[.string x.nm,.int .i64 x.nu] 58)):=hid (by rw[hwq];exact heap_alloc_new wp _)
      have HQS:Hid (wq.drew.heap[b+1]?=some MO∧Below b W wq.drew∧wp.heap.size<wq.drew.heap.size):=hid ⟨aB hbq.drew hmm,hbr.trans (hbq.drew.mono (by have:=HPZ.out;omega)),by rw[hwq];show _<(wp.alloc _).heap.size;simp⟩
      have HI0:Hid (IsJw 141 b b ⟨A,ea⟩ wq.drew):=hid (hij.ext hbq.drew)
      skip
      have HWQ:=hid hwq
      clear hwq hbq 
      clear hdx hxa hxi hx hrb hbr hkl hij hmm hac hle htot hA hea hyl hel
      have HCC:=hid (fun (w':World) (h:w'.heap[wp.heap.size]?=some (.cells #[.string x.nm,.int .i64 x.nu] 58)∧w'.heap[b+1]?=some MO∧Below b W w'∧wp.heap.size<w'.heap.size)=>(show w'.cell? ⟨wp.heap.size,0,none⟩=some (.string x.nm)∧w'.cell? ⟨wp.heap.size,1,none⟩=some (.int .i64 x.nu) from⟨aA h.1 0,aA h.1 1⟩))
      go_upto_region 15 with (fail)
      rw[←HWQ.out]
      clear x0 x1
      refine wp_region_held_drew (S:=(fun w'=>w'.heap[wp.heap.size]?=some (.cells #[.string x.nm,.int .i64 x.nu] 58)∧w'.heap[b+1]?=some MO∧Below b W w'∧wp.heap.size<w'.heap.size)) (by kernel_rfl) (⟨GQ.out,HQS.out.1,HQS.out.2.1,HQS.out.2.2⟩) (fun hS=>?_)
      refine tkQ 0 (v:=?_) ?_ hS ?_;rotate_left;· intro w' hw';have hcells:=HCC.out w' hw';go_simp;(try rfl)
      simp only[Act.put,pq]
      refine tkQ 1 (v:=?_) ?_ hS ?_;rotate_left;· intro w' hw';have hcells:=HCC.out w' hw';go_simp;(try rfl)
      simp only[Act.put,pq]
      refine tkQ 2 (v:=?_) ?_ hS ?_;rotate_left;· intro w' hw';have hcells:=HCC.out w' hw';go_simp;(try rfl)
      simp only[Act.put,pq]
      refine tkQ 3 (v:=?_) ?_ hS ?_;rotate_left;· intro w' hw';have hcells:=HCC.out w' hw';go_simp;(try rfl)
      simp only[Act.put,pq]
      refine tkQ 4 (v:=?_) ?_ hS ?_;rotate_left;· intro w' hw';have hcells:=HCC.out w' hw';go_simp;(try rfl)
      simp only[Act.put,pq]
      refine ry [5] ?_
      refine arQ fun K hK=>?_
      go_simp;go_at_call 80;refine(HIT.out x.nu HNU.out _ hS.2.2.1).mono ?_
      rintro e w4 ⟨rfl,hbw4⟩
      have HI4:=hid (HI0.out.ext hbw4)
      refine hK.out _ _ (⟨aB hbw4 hS.1,aB hbw4 hS.2.1,hS.2.2.1.trans (hbw4.mono (by have:=HBLT.out;have:=hS.2.2.1.size;omega)),by have:=hbw4.size;have:=hS.2.2.2;omega⟩) (fun hS=>?_)
      clear hK K
      (try simp only[Act.put,pq])
      refine ry [6] ?_
      refine arQ fun K hK=>?_
      go_simp
      have HI5:=hid (HI4.out.ext ((Below.refl _ w4).alloc lr (.cells #[.string (⟨#[97,114,114,105,118,101,100]⟩:ByteArray),.string x.nm,.string (aF x.nu)] 9)))
      refine hK.out _ _ (⟨aC _ hS.1,aC _ hS.2.1,hS.2.2.1.alloc (by have:=HBLT.out;have:=hS.2.2.1.size;omega) _,by simp;have:=hS.2.2.2;omega⟩) (fun hS=>?_)
      clear hK K
      (try simp only[Act.put,pq])
      refine ry [7] ?_
      refine arQ fun K hK=>?_
      have HL:=hid (bV b b ⟨A,ea⟩ w4.heap.size 3 [(⟨#[97,114,114,105,118,101,100]⟩:ByteArray),x.nm,(aF x.nu)] (w4.alloc (.cells #[.string (⟨#[97,114,114,105,118,101,100]⟩:ByteArray),.string x.nm,.string (aF x.nu)] 9)) (aU w4 [(⟨#[97,114,114,105,118,101,100]⟩:ByteArray),x.nm,(aF x.nu)] _) (by simp) (by simp) (by simp) HLZ.out HI5.out (by have:=HBLT.out;have:=hS.2.2.1.size;omega))
      go_simp;go_at_call 79;refine HL.out.mono ?_
      rintro e w6 ⟨rfl,hiw6,hbw6,how6⟩
      have HIZ:=hid hiw6
      clear HL hiw6
      refine hK.out _ _ (⟨how6 _ _ hS.1 (by simp;have:=HBLT.out;have:=HPZ.out;omega) (by intro c fz;simp),how6 _ _ hS.2.1 (by simp) (by intro c fz;rw[HMO.out];simp),hS.2.2.1.trans hbw6,by have:=hbw6.size;have:=hS.2.2.2;omega⟩) (fun hS=>?_)
      clear hK K
      (try simp only[Act.put,pq])
      refine wpAnyH_done (by kernel_rfl) ?_ _
      (try dsimp only)
      have HS9:=hid hS
      clear hS
      go_wp2
      go_roundw
      case rel=>exact⟨k+1,by omega,by go_num,HNX.out _ HIZ.out,HS9.out.2.1,HS9.out.2.2.1⟩
      case measure=>simp[intOf];omega
     ·obtain rfl:al=k:=by omega
      have HSI2:Hid (IsJw 141 b b ⟨P3,(orL [0,s1])⟩ wp∧wp.heap[b+1]?=some MO∧Below b W wp):=hid (by
       have h:=HD.out.ar.len
       dsimp only at h
       rw[h,dN,←HP3.out] at hij
       exact⟨hij,hmm,hbr⟩)
      clear hij hmm hbr hlt hk
      have f3:=aA (show wp.heap[b+1]?=some (.cells #[.int .i64 cv,.int .i64 ce,.int .i64 ct,.slice na nl nc,.slice aa al ac,.slice sa sl sc,.slice qa ql qc,.slice la ll lc] 27) from by rw[←HMO.out];exact HSI2.out.2.1) 5
      (try dsimp only at f3)
      go_wp2
      clear f3
      go_loopw [77] (fun iv wr=>∃k:Nat,k≤sl∧iv=.int .i64 k∧IsJw 141 b b ⟨acc P3 (aR cF) d.se k,(orL [0,s1])⟩ wr∧wr.heap[b+1]?=some MO∧Below b W wr) (fun iv _=>sl-(intOf iv).toNat)
      case atStart=>exact⟨0,Nat.zero_le _,rfl,by rw[cO];exact HSI2.out.1,HSI2.out.2.1,HSI2.out.2.2⟩
      case round =>
       obtain⟨k,hk,rfl,hij,hmm,hbr⟩:=hrel
       obtain⟨wp,rfl⟩:∃w1:World,w1=wr:=⟨_,rfl⟩
       have hn63:(sl:Int)≤9223372036854775807:=by have h:=HD.out.se.big;dsimp only at h;omega
       have HPZ:Hid (b+1<wp.heap.size):=hid (bT hmm)
       by_cases hlt:k<sl
       ·have hkl:k<d.se.length:=by have:=HD.out.se.len;dsimp only at this;omega
        obtain⟨rb,ro,hna,hrb,hx⟩:=HD.out.se.slot (show 0<sl by omega)
        dsimp only at hna hx
        subst hna
        obtain⟨x,hxa,hxi⟩:=hx k hkl
        have hel:=HG3.out k hkl
        have hac:=cP P3 (aR cF) d.se k hkl
        have hle:=fK P3 (aR cF) d.se (k+1)
        have htot:=HT3.out
        skip
        obtain⟨dx,hdx⟩:∃dx,dx=d.se[k]:=⟨_,rfl⟩
        rw[←hdx] at hxi hel hac
        have hlt':(k:Int)<(sl:Int):=by omega
        have hk0:(0:Int)≤(k:Int):=by omega
        obtain⟨A,hA⟩:∃A,A=acc P3 (aR cF) d.se k:=⟨_,rfl⟩
        obtain⟨ea,hea⟩:∃e,e=(orL [0,s1]):=⟨_,rfl⟩
        rw[←hA,←hea] at hij
        rw[←hA] at hac
        have HLZ:Hid (A.length+((aR cF) dx).length≤140737488355328):=hid (by
         have:=congrArg List.length hac
         rw[List.length_append] at this
         omega)
        have HNX:Hid (∀w',IsJw 141 b b ⟨A++(aR cF) dx,ea⟩ w'→IsJw 141 b b ⟨acc P3 (aR cF) d.se (k+1),(orL [0,s1])⟩ w'):=hid (fun w' h=>by rw[hac,←hea];exact h)
        skip
        have HIJ:=hid hij;have HMM:=hid hmm;have HBR:=hid hbr
        obtain⟨x0,x1⟩:=AtG.cnt (hxa.same (HQ.out wp hbr rb hrb).2)
        have hyl:aR cF dx=lnB [(⟨#[115,101,110,116]⟩:ByteArray),x.nm,(aF x.nu)]:=by unfold aR;rw[←hxi.e];rfl
        have HNU:=hid (show I64 x.nu by rw[hxi.e];unfold I64;omega)
        rw[hyl] at HNX HLZ
        obtain⟨wq,hwq⟩:∃wq,wq=wp.alloc (.cells #[.string x.nm,.int .i64 x.nu] 58):=⟨_,rfl⟩
        have hbq:Below wp.heap.size wp wq:=by rw[hwq];exact(Below.refl _ _).alloc lr _
        have GQ:Hid (wq.drew.heap[wp.heap.size]?=some (.cells #[.string x.nm,.int .i64 x.nu] 58)):=hid (by rw[hwq];exact heap_alloc_new wp _)
        have HQS:Hid (wq.drew.heap[b+1]?=some MO∧Below b W wq.drew∧wp.heap.size<wq.drew.heap.size):=hid ⟨aB hbq.drew hmm,hbr.trans (hbq.drew.mono (by have:=HPZ.out;omega)),by rw[hwq];show _<(wp.alloc _).heap.size;simp⟩
        have HI0:Hid (IsJw 141 b b ⟨A,ea⟩ wq.drew):=hid (hij.ext hbq.drew)
        skip
        have HWQ:=hid hwq
        clear hwq hbq 
        clear hdx hxa hxi hx hrb hbr hkl hij hmm hac hle htot hA hea hyl hel
        have HCC:=hid (fun (w':World) (h:w'.heap[wp.heap.size]?=some (.cells #[.string x.nm,.int .i64 x.nu] 58)∧w'.heap[b+1]?=some MO∧Below b W w'∧wp.heap.size<w'.heap.size)=>(show w'.cell? ⟨wp.heap.size,0,none⟩=some (.string x.nm)∧w'.cell? ⟨wp.heap.size,1,none⟩=some (.int .i64 x.nu) from⟨aA h.1 0,aA h.1 1⟩))
        go_upto_region 20 with (fail)
        rw[←HWQ.out]
        clear x0 x1
        refine wp_region_held_drew (S:=(fun w'=>w'.heap[wp.heap.size]?=some (.cells #[.string x.nm,.int .i64 x.nu] 58)∧w'.heap[b+1]?=some MO∧Below b W w'∧wp.heap.size<w'.heap.size)) (by kernel_rfl) (⟨GQ.out,HQS.out.1,HQS.out.2.1,HQS.out.2.2⟩) (fun hS=>?_)
        refine tkQ 0 (v:=?_) ?_ hS ?_;rotate_left;· intro w' hw';have hcells:=HCC.out w' hw';go_simp;(try rfl)
        simp only[Act.put,pq]
        refine tkQ 1 (v:=?_) ?_ hS ?_;rotate_left;· intro w' hw';have hcells:=HCC.out w' hw';go_simp;(try rfl)
        simp only[Act.put,pq]
        refine tkQ 2 (v:=?_) ?_ hS ?_;rotate_left;· intro w' hw';have hcells:=HCC.out w' hw';go_simp;(try rfl)
        simp only[Act.put,pq]
        refine tkQ 3 (v:=?_) ?_ hS ?_;rotate_left;· intro w' hw';have hcells:=HCC.out w' hw';go_simp;(try rfl)
        simp only[Act.put,pq]
        refine tkQ 4 (v:=?_) ?_ hS ?_;rotate_left;· intro w' hw';have hcells:=HCC.out w' hw';go_simp;(try rfl)
        simp only[Act.put,pq]
        refine ry [5] ?_
        refine arQ fun K hK=>?_
        go_simp;go_at_call 80;refine(HIT.out x.nu HNU.out _ hS.2.2.1).mono ?_
        rintro e w4 ⟨rfl,hbw4⟩
        have HI4:=hid (HI0.out.ext hbw4)
        refine hK.out _ _ (⟨aB hbw4 hS.1,aB hbw4 hS.2.1,hS.2.2.1.trans (hbw4.mono (by have:=HBLT.out;have:=hS.2.2.1.size;omega)),by have:=hbw4.size;have:=hS.2.2.2;omega⟩) (fun hS=>?_)
        clear hK K
        (try simp only[Act.put,pq])
        refine ry [6] ?_
        refine arQ fun K hK=>?_
        go_simp
        have HI5:=hid (HI4.out.ext ((Below.refl _ w4).alloc lr (.cells #[.string (⟨#[115,101,110,116]⟩:ByteArray),.string x.nm,.string (aF x.nu)] 9)))
        refine hK.out _ _ (⟨aC _ hS.1,aC _ hS.2.1,hS.2.2.1.alloc (by have:=HBLT.out;have:=hS.2.2.1.size;omega) _,by simp;have:=hS.2.2.2;omega⟩) (fun hS=>?_)
        clear hK K
        (try simp only[Act.put,pq])
        refine ry [7] ?_
        refine arQ fun K hK=>?_
        have HL:=hid (bV b b ⟨A,ea⟩ w4.heap.size 3 [(⟨#[115,101,110,116]⟩:ByteArray),x.nm,(aF x.nu)] (w4.alloc (.cells #[.string (⟨#[115,101,110,116]⟩:ByteArray),.string x.nm,.string (aF x.nu)] 9)) (aU w4 [(⟨#[115,101,110,116]⟩:ByteArray),x.nm,(aF x.nu)] _) (by simp) (by simp) (by simp) HLZ.out HI5.out (by have:=HBLT.out;have:=hS.2.2.1.size;omega))
        go_simp;go_at_call 79;refine HL.out.mono ?_
        rintro e w6 ⟨rfl,hiw6,hbw6,how6⟩
        have HIZ:=hid hiw6
        clear HL hiw6
        refine hK.out _ _ (⟨how6 _ _ hS.1 (by simp;have:=HBLT.out;have:=HPZ.out;omega) (by intro c fz;simp),how6 _ _ hS.2.1 (by simp) (by intro c fz;rw[HMO.out];simp),hS.2.2.1.trans hbw6,by have:=hbw6.size;have:=hS.2.2.2;omega⟩) (fun hS=>?_)
        clear hK K
        (try simp only[Act.put,pq])
        refine wpAnyH_done (by kernel_rfl) ?_ _
        (try dsimp only)
        have HS9:=hid hS
        clear hS
        go_wp2
        go_roundw
        case rel=>exact⟨k+1,by omega,by go_num,HNX.out _ HIZ.out,HS9.out.2.1,HS9.out.2.2.1⟩
        case measure=>simp[intOf];omega
       ·obtain rfl:sl=k:=by omega
        have HSI3:Hid (IsJw 141 b b ⟨P4,(orL [0,s1])⟩ wp∧wp.heap[b+1]?=some MO∧Below b W wp):=hid (by
         have h:=HD.out.se.len
         dsimp only at h
         rw[h,dN,←HP4.out] at hij
         exact⟨hij,hmm,hbr⟩)
        clear hij hmm hbr hlt hk
        have f4:=aA (show wp.heap[b+1]?=some (.cells #[.int .i64 cv,.int .i64 ce,.int .i64 ct,.slice na nl nc,.slice aa al ac,.slice sa sl sc,.slice qa ql qc,.slice la ll lc] 27) from by rw[←HMO.out];exact HSI3.out.2.1) 6
        (try dsimp only at f4)
        go_wp2
        clear f4
        go_loopw [93] (fun iv wr=>∃k:Nat,k≤ql∧iv=.int .i64 k∧IsJw 141 b b ⟨acc P4 cA d.qs k,(orL [0,s1])⟩ wr∧wr.heap[b+1]?=some MO∧Below b W wr) (fun iv _=>ql-(intOf iv).toNat)
        case atStart=>exact⟨0,Nat.zero_le _,rfl,by rw[cO];exact HSI3.out.1,HSI3.out.2.1,HSI3.out.2.2⟩
        case round =>
         obtain⟨k,hk,rfl,hij,hmm,hbr⟩:=hrel
         obtain⟨wp,rfl⟩:∃w1:World,w1=wr:=⟨_,rfl⟩
         have hn63:(ql:Int)≤9223372036854775807:=by have h:=HD.out.qs.big;dsimp only at h;omega
         have HPZ:Hid (b+1<wp.heap.size):=hid (bT hmm)
         by_cases hlt:k<ql
         ·have hkl:k<d.qs.length:=by have:=HD.out.qs.len;dsimp only at this;omega
          obtain⟨rb,ro,hna,hrb,hx⟩:=HD.out.qs.slot (show 0<ql by omega)
          dsimp only at hna hx
          subst hna
          obtain⟨x,hxa,hxi⟩:=hx k hkl
          have hel:=HG4.out k hkl
          have hac:=cP P4 cA d.qs k hkl
          have hle:=fK P4 cA d.qs (k+1)
          have htot:=HT4.out
          skip
          obtain⟨dx,hdx⟩:∃dx,dx=d.qs[k]:=⟨_,rfl⟩
          rw[←hdx] at hxi hel hac
          have hlt':(k:Int)<(ql:Int):=by omega
          have hk0:(0:Int)≤(k:Int):=by omega
          obtain⟨A,hA⟩:∃A,A=acc P4 cA d.qs k:=⟨_,rfl⟩
          obtain⟨ea,hea⟩:∃e,e=(orL [0,s1]):=⟨_,rfl⟩
          rw[←hA,←hea] at hij
          rw[←hA] at hac
          have HLZ:Hid (A.length+(cA dx).length≤140737488355328):=hid (by
           have:=congrArg List.length hac
           rw[List.length_append] at this
           omega)
          have HNX:Hid (∀w',IsJw 141 b b ⟨A++cA dx,ea⟩ w'→IsJw 141 b b ⟨acc P4 cA d.qs (k+1),(orL [0,s1])⟩ w'):=hid (fun w' h=>by rw[hac,←hea];exact h)
          skip
          have HIJ:=hid hij;have HMM:=hid hmm;have HBR:=hid hbr
          obtain⟨x0,x1,x2,x3⟩:=AtG.que (hxa.same (HQ.out wp hbr rb hrb).2)
          obtain⟨qx,hqx⟩:∃q,q=qxT x.tx:=⟨_,rfl⟩
          have hyl:cA dx=lnB [(⟨#[113,117,101,117,101,100]⟩:ByteArray),x.nm,(aF x.nu),(aF x.vr),qx]:=by unfold cA;rw[←hxi.e,hqx];rfl
          have HNU:=hid (show I64 x.nu∧I64 x.vr∧x.tx.size≤65536 by have:=hxi.e;rw[←this] at hel;unfold I64;omega)
          have HQX:=hid (fun (w':World)=>(show Calls Tryz.prog 74 #[.string x.tx] w' fun e w2=>e=.returned (.string qx)∧Below w'.heap.size w' w2 from by rw[hqx];exact fA x.tx w' (by have:=HNU.out.2.2;omega)))
          rw[hyl] at HNX HLZ
          obtain⟨wq,hwq⟩:∃wq,wq=wp.alloc (.cells #[.string x.nm,.int .i64 x.nu,.int .i64 x.vr,.string x.tx] 60):=⟨_,rfl⟩
          have hbq:Below wp.heap.size wp wq:=by rw[hwq];exact(Below.refl _ _).alloc lr _
          have GQ:Hid (wq.drew.heap[wp.heap.size]?=some (.cells #[.string x.nm,.int .i64 x.nu,.int .i64 x.vr,.string x.tx] 60)):=hid (by rw[hwq];exact heap_alloc_new wp _)
          have HQS:Hid (wq.drew.heap[b+1]?=some MO∧Below b W wq.drew∧wp.heap.size<wq.drew.heap.size):=hid ⟨aB hbq.drew hmm,hbr.trans (hbq.drew.mono (by have:=HPZ.out;omega)),by rw[hwq];show _<(wp.alloc _).heap.size;simp⟩
          have HI0:Hid (IsJw 141 b b ⟨A,ea⟩ wq.drew):=hid (hij.ext hbq.drew)
          skip
          have HWQ:=hid hwq
          clear hwq hbq 
          clear hdx hxa hxi hx hrb hbr hkl hij hmm hac hle htot hA hea hyl hel hqx
          have HCC:=hid (fun (w':World) (h:w'.heap[wp.heap.size]?=some (.cells #[.string x.nm,.int .i64 x.nu,.int .i64 x.vr,.string x.tx] 60)∧w'.heap[b+1]?=some MO∧Below b W w'∧wp.heap.size<w'.heap.size)=>(show w'.cell? ⟨wp.heap.size,0,none⟩=some (.string x.nm)∧w'.cell? ⟨wp.heap.size,1,none⟩=some (.int .i64 x.nu)∧w'.cell? ⟨wp.heap.size,2,none⟩=some (.int .i64 x.vr)∧w'.cell? ⟨wp.heap.size,3,none⟩=some (.string x.tx) from⟨aA h.1 0,aA h.1 1,aA h.1 2,aA h.1 3⟩))
          go_upto_region 25 with (fail)
          rw[←HWQ.out]
          clear x0 x1 x2 x3
          refine wp_region_held_drew (S:=(fun w'=>w'.heap[wp.heap.size]?=some (.cells #[.string x.nm,.int .i64 x.nu,.int .i64 x.vr,.string x.tx] 60)∧w'.heap[b+1]?=some MO∧Below b W w'∧wp.heap.size<w'.heap.size)) (by kernel_rfl) (⟨GQ.out,HQS.out.1,HQS.out.2.1,HQS.out.2.2⟩) (fun hS=>?_)
          refine tkQ 0 (v:=?_) ?_ hS ?_;rotate_left;· intro w' hw';have hcells:=HCC.out w' hw';go_simp;(try rfl)
          simp only[Act.put,pq]
          refine tkQ 1 (v:=?_) ?_ hS ?_;rotate_left;· intro w' hw';have hcells:=HCC.out w' hw';go_simp;(try rfl)
          simp only[Act.put,pq]
          refine tkQ 2 (v:=?_) ?_ hS ?_;rotate_left;· intro w' hw';have hcells:=HCC.out w' hw';go_simp;(try rfl)
          simp only[Act.put,pq]
          refine tkQ 3 (v:=?_) ?_ hS ?_;rotate_left;· intro w' hw';have hcells:=HCC.out w' hw';go_simp;(try rfl)
          simp only[Act.put,pq]
          refine tkQ 4 (v:=?_) ?_ hS ?_;rotate_left;· intro w' hw';have hcells:=HCC.out w' hw';go_simp;(try rfl)
          simp only[Act.put,pq]
          refine tkQ 6 (v:=?_) ?_ hS ?_;rotate_left;· intro w' hw';have hcells:=HCC.out w' hw';go_simp;(try rfl)
          simp only[Act.put,pq]
          refine tkQ 7 (v:=?_) ?_ hS ?_;rotate_left;· intro w' hw';have hcells:=HCC.out w' hw';go_simp;(try rfl)
          simp only[Act.put,pq]
          refine tkQ 9 (v:=?_) ?_ hS ?_;rotate_left;· intro w' hw';have hcells:=HCC.out w' hw';go_simp;(try rfl)
          simp only[Act.put,pq]
          refine tkQ 10 (v:=?_) ?_ hS ?_;rotate_left;· intro w' hw';have hcells:=HCC.out w' hw';go_simp;(try rfl)
          simp only[Act.put,pq]
          refine ry [5] ?_
          refine arQ fun K hK=>?_
          go_simp;go_at_call 80;refine(HIT.out x.nu HNU.out.1 _ hS.2.2.1).mono ?_
          rintro e w4 ⟨rfl,hbw4⟩
          have HI4:=hid (HI0.out.ext hbw4)
          refine hK.out _ _ (⟨aB hbw4 hS.1,aB hbw4 hS.2.1,hS.2.2.1.trans (hbw4.mono (by have:=HBLT.out;have:=hS.2.2.1.size;omega)),by have:=hbw4.size;have:=hS.2.2.2;omega⟩) (fun hS=>?_)
          clear hK K
          (try simp only[Act.put,pq])
          refine ry [8] ?_
          refine arQ fun K hK=>?_
          go_simp;go_at_call 80;refine(HIT.out x.vr HNU.out.2.1 _ hS.2.2.1).mono ?_
          rintro e w5 ⟨rfl,hbw5⟩
          have HI5:=hid (HI4.out.ext hbw5)
          refine hK.out _ _ (⟨aB hbw5 hS.1,aB hbw5 hS.2.1,hS.2.2.1.trans (hbw5.mono (by have:=HBLT.out;have:=hS.2.2.1.size;omega)),by have:=hbw5.size;have:=hS.2.2.2;omega⟩) (fun hS=>?_)
          clear hK K
          (try simp only[Act.put,pq])
          refine ry [11] ?_
          refine arQ fun K hK=>?_
          go_simp;go_at_call 74;refine(HQX.out _).mono ?_
          rintro e w6 ⟨rfl,hbw6⟩
          have HI6:=hid (HI5.out.ext hbw6)
          refine hK.out _ _ (⟨aB hbw6 hS.1,aB hbw6 hS.2.1,hS.2.2.1.trans (hbw6.mono (by have:=HBLT.out;have:=hS.2.2.1.size;omega)),by have:=hbw6.size;have:=hS.2.2.2;omega⟩) (fun hS=>?_)
          clear hK K
          (try simp only[Act.put,pq])
          refine ry [12] ?_
          refine arQ fun K hK=>?_
          go_simp
          have HI7:=hid (HI6.out.ext ((Below.refl _ w6).alloc lr (.cells #[.string (⟨#[113,117,101,117,101,100]⟩:ByteArray),.string x.nm,.string (aF x.nu),.string (aF x.vr),.string qx] 9)))
          refine hK.out _ _ (⟨aC _ hS.1,aC _ hS.2.1,hS.2.2.1.alloc (by have:=HBLT.out;have:=hS.2.2.1.size;omega) _,by simp;have:=hS.2.2.2;omega⟩) (fun hS=>?_)
          clear hK K
          (try simp only[Act.put,pq])
          refine ry [13] ?_
          refine arQ fun K hK=>?_
          have HL:=hid (bV b b ⟨A,ea⟩ w6.heap.size 5 [(⟨#[113,117,101,117,101,100]⟩:ByteArray),x.nm,(aF x.nu),(aF x.vr),qx] (w6.alloc (.cells #[.string (⟨#[113,117,101,117,101,100]⟩:ByteArray),.string x.nm,.string (aF x.nu),.string (aF x.vr),.string qx] 9)) (aU w6 [(⟨#[113,117,101,117,101,100]⟩:ByteArray),x.nm,(aF x.nu),(aF x.vr),qx] _) (by simp) (by simp) (by simp) HLZ.out HI7.out (by have:=HBLT.out;have:=hS.2.2.1.size;omega))
          go_simp;go_at_call 79;refine HL.out.mono ?_
          rintro e w8 ⟨rfl,hiw8,hbw8,how8⟩
          have HIZ:=hid hiw8
          clear HL hiw8
          refine hK.out _ _ (⟨how8 _ _ hS.1 (by simp;have:=HBLT.out;have:=HPZ.out;omega) (by intro c fz;simp),how8 _ _ hS.2.1 (by simp) (by intro c fz;rw[HMO.out];simp),hS.2.2.1.trans hbw8,by have:=hbw8.size;have:=hS.2.2.2;omega⟩) (fun hS=>?_)
          clear hK K
          (try simp only[Act.put,pq])
          refine wpAnyH_done (by kernel_rfl) ?_ _
          (try dsimp only)
          have HS9:=hid hS
          clear hS
          go_wp2
          go_roundw
          case rel=>exact⟨k+1,by omega,by go_num,HNX.out _ HIZ.out,HS9.out.2.1,HS9.out.2.2.1⟩
          case measure=>simp[intOf];omega
         ·obtain rfl:ql=k:=by omega
          have HSI4:Hid (IsJw 141 b b ⟨P5,(orL [0,s1])⟩ wp∧wp.heap[b+1]?=some MO∧Below b W wp):=hid (by
           have h:=HD.out.qs.len
           dsimp only at h
           rw[h,dN,←HP5.out] at hij
           exact⟨hij,hmm,hbr⟩)
          clear hij hmm hbr hlt hk
          have f5:=aA (show wp.heap[b+1]?=some (.cells #[.int .i64 cv,.int .i64 ce,.int .i64 ct,.slice na nl nc,.slice aa al ac,.slice sa sl sc,.slice qa ql qc,.slice la ll lc] 27) from by rw[←HMO.out];exact HSI4.out.2.1) 7
          (try dsimp only at f5)
          go_wp2
          clear f5
          go_loopw [115] (fun iv wr=>∃k:Nat,k≤ll∧iv=.int .i64 k∧IsJw 141 b b ⟨acc P5 cC d.ls k,(foE (fun l:Let=>(eE l.m).2) d.ls k (orL [0,s1]))⟩ wr∧wr.heap[b+1]?=some MO∧Below b W wr) (fun iv _=>ll-(intOf iv).toNat)
          case atStart=>exact⟨0,Nat.zero_le _,rfl,by rw[cO];rw[nX];exact HSI4.out.1,HSI4.out.2.1,HSI4.out.2.2⟩
          case round =>
           obtain⟨k,hk,rfl,hij,hmm,hbr⟩:=hrel
           obtain⟨wp,rfl⟩:∃w1:World,w1=wr:=⟨_,rfl⟩
           have hn63:(ll:Int)≤9223372036854775807:=by have h:=HD.out.ls.big;dsimp only at h;omega
           have HPZ:Hid (b+1<wp.heap.size):=hid (bT hmm)
           by_cases hlt:k<ll
           ·have hkl:k<d.ls.length:=by have:=HD.out.ls.len;dsimp only at this;omega
            obtain⟨rb,ro,hna,hrb,hx⟩:=HD.out.ls.slot (show 0<ll by omega)
            dsimp only at hna hx
            subst hna
            obtain⟨x,hxa,hxi⟩:=hx k hkl
            have hel:=HG5.out k hkl
            have hac:=cP P5 cC d.ls k hkl
            have hle:=fK P5 cC d.ls (k+1)
            have htot:=HT5.out
            have hfo:=nY (fun l:Let=>(eE l.m).2) d.ls k (orL [0,s1]) hkl
            obtain⟨dx,hdx⟩:∃dx,dx=d.ls[k]:=⟨_,rfl⟩
            rw[←hdx] at hxi hel hac hfo
            have hlt':(k:Int)<(ll:Int):=by omega
            have hk0:(0:Int)≤(k:Int):=by omega
            obtain⟨A,hA⟩:∃A,A=acc P5 cC d.ls k:=⟨_,rfl⟩
            obtain⟨ea,hea⟩:∃e,e=(foE (fun l:Let=>(eE l.m).2) d.ls k (orL [0,s1])):=⟨_,rfl⟩
            rw[←hA,←hea] at hij
            rw[←hA] at hac
            have HLZ:Hid (A.length+(cC dx).length≤140737488355328):=hid (by
             have:=congrArg List.length hac
             rw[List.length_append] at this
             omega)
            have HNX:Hid (∀w',IsJw 141 b b ⟨A++cC dx,orL [ea,(fun l:Let=>(eE l.m).2) dx]⟩ w'→IsJw 141 b b ⟨acc P5 cC d.ls (k+1),(foE (fun l:Let=>(eE l.m).2) d.ls (k+1) (orL [0,s1]))⟩ w'):=hid (fun w' h=>by rw[hac,hfo,←hea];exact h)
            (try dsimp only at HNX)
            have HIJ:=hid hij;have HMM:=hid hmm;have HBR:=hid hbr
            obtain⟨x0,x1,x2,x3,x4,x5,x6,x7,x8,x9,x10,x11,x12⟩:=AtG.let' (hxa.same (HQ.out wp hbr rb hrb).2)
            obtain⟨qt,hqt⟩:∃q:ByteArray,q=⟨(bZ x.tx.data.toList).toArray⟩:=⟨_,rfl⟩
            obtain⟨mt,hmt⟩:∃q,q=(eE dx.m).1:=⟨_,rfl⟩
            obtain⟨u,hu⟩:∃u,u=(eE dx.m).2:=⟨_,rfl⟩
            have hyl:cC dx=lnB [(⟨#[108,101,116,116,101,114]⟩:ByteArray),(aF x.vr),x.nd,qt,mt]:=by unfold cC;rw[←hxi.vr,←hxi.nd,←hxi.tx,hqt,hmt];rfl
            have HNU:=hid (show I64 x.vr∧x.tx.size≤1000000 by have h1:=hxi.vr;have h2:=hxi.tx;rw[←h1,←h2] at hel;unfold I64;omega)
            have HQT:=hid (fun (w':World) (h:Below b W w')=>(show Calls Tryz.prog 76 #[.string x.tx] w' fun e w2=>e=.returned (.string qt)∧Below w'.heap.size w' w2 from by rw[hqt];exact fB x.tx w' HNU.out.2 (HTB.out w' h) (HZB.out w' h)))
            have HMC:=hid (fun (w':World) (h:Below b W w')=>(show Calls Tryz.prog 75 #[x.m.v] w' fun e w2=>e=.returned (.tuple #[.string mt,.int .i64 u])∧Below w'.heap.size w' w2 from by
             rw[hmt,hu]
             exact kK x.m dx.m w' (hxi.m.same fun k hk=>HQ.out w' h k hk) (HTB.out w' h) (HZB.out w' h)))
            dsimp only[MC.v] at HMC
            rw[hyl,←hu] at HNX
            rw[hyl] at HLZ
            obtain⟨wq,hwq⟩:∃wq,wq=wp.alloc (.cells #[.int .i64 x.m.st.e,.slice x.m.st.a x.m.st.n x.m.st.c,.int .i64 x.m.m,.slice x.m.a x.m.n x.m.c,.int .i64 x.m.b.k,.int .i64 x.m.b.i,.int .i64 x.m.b.s,.string x.m.b.t,.slice x.m.b.la x.m.b.ll x.m.b.lc,.slice x.m.b.fa x.m.b.fl x.m.b.fc,.string x.nd,.string x.tx,.int .i64 x.vr] 70):=⟨_,rfl⟩
            have hbq:Below wp.heap.size wp wq:=by rw[hwq];exact(Below.refl _ _).alloc lr _
            have GQ:Hid (wq.drew.heap[wp.heap.size]?=some (.cells #[.int .i64 x.m.st.e,.slice x.m.st.a x.m.st.n x.m.st.c,.int .i64 x.m.m,.slice x.m.a x.m.n x.m.c,.int .i64 x.m.b.k,.int .i64 x.m.b.i,.int .i64 x.m.b.s,.string x.m.b.t,.slice x.m.b.la x.m.b.ll x.m.b.lc,.slice x.m.b.fa x.m.b.fl x.m.b.fc,.string x.nd,.string x.tx,.int .i64 x.vr] 70)):=hid (by rw[hwq];exact heap_alloc_new wp _)
            have HQS:Hid (wq.drew.heap[b+1]?=some MO∧Below b W wq.drew∧wp.heap.size<wq.drew.heap.size):=hid ⟨aB hbq.drew hmm,hbr.trans (hbq.drew.mono (by have:=HPZ.out;omega)),by rw[hwq];show _<(wp.alloc _).heap.size;simp⟩
            have HI0:Hid (IsJw 141 b b ⟨A,ea⟩ wq.drew):=hid (hij.ext hbq.drew)
            skip
            have HWQ:=hid hwq
            clear hwq hbq 
            clear hdx hxa hxi hx hrb hbr hkl hij hmm hac hle htot hA hea hfo hyl hel hqt hmt hu
            have HCC:=hid (fun (w':World) (h:w'.heap[wp.heap.size]?=some (.cells #[.int .i64 x.m.st.e,.slice x.m.st.a x.m.st.n x.m.st.c,.int .i64 x.m.m,.slice x.m.a x.m.n x.m.c,.int .i64 x.m.b.k,.int .i64 x.m.b.i,.int .i64 x.m.b.s,.string x.m.b.t,.slice x.m.b.la x.m.b.ll x.m.b.lc,.slice x.m.b.fa x.m.b.fl x.m.b.fc,.string x.nd,.string x.tx,.int .i64 x.vr] 70)∧w'.heap[b+1]?=some MO∧Below b W w'∧wp.heap.size<w'.heap.size)=>(show w'.cell? ⟨wp.heap.size,0,none⟩=some (.int .i64 x.m.st.e)∧w'.cell? ⟨wp.heap.size,1,none⟩=some (.slice x.m.st.a x.m.st.n x.m.st.c)∧w'.cell? ⟨wp.heap.size,2,none⟩=some (.int .i64 x.m.m)∧w'.cell? ⟨wp.heap.size,3,none⟩=some (.slice x.m.a x.m.n x.m.c)∧w'.cell? ⟨wp.heap.size,4,none⟩=some (.int .i64 x.m.b.k)∧w'.cell? ⟨wp.heap.size,5,none⟩=some (.int .i64 x.m.b.i)∧w'.cell? ⟨wp.heap.size,6,none⟩=some (.int .i64 x.m.b.s)∧w'.cell? ⟨wp.heap.size,7,none⟩=some (.string x.m.b.t)∧w'.cell? ⟨wp.heap.size,8,none⟩=some (.slice x.m.b.la x.m.b.ll x.m.b.lc)∧w'.cell? ⟨wp.heap.size,9,none⟩=some (.slice x.m.b.fa x.m.b.fl x.m.b.fc)∧w'.cell? ⟨wp.heap.size,10,none⟩=some (.string x.nd)∧w'.cell? ⟨wp.heap.size,11,none⟩=some (.string x.tx)∧w'.cell? ⟨wp.heap.size,12,none⟩=some (.int .i64 x.vr) from⟨aA h.1 0,aA h.1 1,aA h.1 2,aA h.1 3,aA h.1 4,aA h.1 5,aA h.1 6,aA h.1 7,aA h.1 8,aA h.1 9,aA h.1 10,aA h.1 11,aA h.1 12⟩))
            go_upto_region 30 with (fail)
            rw[←HWQ.out]
            clear x0 x1 x2 x3 x4 x5 x6 x7 x8 x9 x10 x11 x12
            refine wp_region_held_drew (S:=(fun w'=>w'.heap[wp.heap.size]?=some (.cells #[.int .i64 x.m.st.e,.slice x.m.st.a x.m.st.n x.m.st.c,.int .i64 x.m.m,.slice x.m.a x.m.n x.m.c,.int .i64 x.m.b.k,.int .i64 x.m.b.i,.int .i64 x.m.b.s,.string x.m.b.t,.slice x.m.b.la x.m.b.ll x.m.b.lc,.slice x.m.b.fa x.m.b.fl x.m.b.fc,.string x.nd,.string x.tx,.int .i64 x.vr] 70)∧w'.heap[b+1]?=some MO∧Below b W w'∧wp.heap.size<w'.heap.size)) (by kernel_rfl) (⟨GQ.out,HQS.out.1,HQS.out.2.1,HQS.out.2.2⟩) (fun hS=>?_)
            refine tkQ 0 (v:=?_) ?_ hS ?_;rotate_left;· intro w' hw';have hcells:=HCC.out w' hw';go_simp;(try rfl)
            simp only[Act.put,pq]
            refine tkQ 1 (v:=?_) ?_ hS ?_;rotate_left;· intro w' hw';have hcells:=HCC.out w' hw';go_simp;(try rfl)
            simp only[Act.put,pq]
            refine tkQ 2 (v:=?_) ?_ hS ?_;rotate_left;· intro w' hw';have hcells:=HCC.out w' hw';go_simp;(try rfl)
            simp only[Act.put,pq]
            refine tkQ 4 (v:=?_) ?_ hS ?_;rotate_left;· intro w' hw';have hcells:=HCC.out w' hw';go_simp;(try rfl)
            simp only[Act.put,pq]
            refine tkQ 5 (v:=?_) ?_ hS ?_;rotate_left;· intro w' hw';have hcells:=HCC.out w' hw';go_simp;(try rfl)
            simp only[Act.put,pq]
            refine tkQ 6 (v:=?_) ?_ hS ?_;rotate_left;· intro w' hw';have hcells:=HCC.out w' hw';go_simp;(try rfl)
            simp only[Act.put,pq]
            refine tkQ 7 (v:=?_) ?_ hS ?_;rotate_left;· intro w' hw';have hcells:=HCC.out w' hw';go_simp;(try rfl)
            simp only[Act.put,pq]
            refine tkQ 9 (v:=?_) ?_ hS ?_;rotate_left;· intro w' hw';have hcells:=HCC.out w' hw';go_simp;(try rfl)
            simp only[Act.put,pq]
            refine tkQ 10 (v:=?_) ?_ hS ?_;rotate_left;· intro w' hw';have hcells:=HCC.out w' hw';go_simp;(try rfl)
            simp only[Act.put,pq]
            refine tkQ 11 (v:=?_) ?_ hS ?_;rotate_left;· intro w' hw';have hcells:=HCC.out w' hw';go_simp;(try rfl)
            simp only[Act.put,pq]
            refine ry [3] ?_
            refine arQ fun K hK=>?_
            go_simp;go_at_call 80;refine(HIT.out x.vr HNU.out.1 _ hS.2.2.1).mono ?_
            rintro e w4 ⟨rfl,hbw4⟩
            have HI4:=hid (HI0.out.ext hbw4)
            refine hK.out _ _ (⟨aB hbw4 hS.1,aB hbw4 hS.2.1,hS.2.2.1.trans (hbw4.mono (by have:=HBLT.out;have:=hS.2.2.1.size;omega)),by have:=hbw4.size;have:=hS.2.2.2;omega⟩) (fun hS=>?_)
            clear hK K
            (try simp only[Act.put,pq])
            refine ry [8] ?_
            refine arQ fun K hK=>?_
            go_simp;go_at_call 76;refine(HQT.out _ hS.2.2.1).mono ?_
            rintro e w5 ⟨rfl,hbw5⟩
            have HI5:=hid (HI4.out.ext hbw5)
            refine hK.out _ _ (⟨aB hbw5 hS.1,aB hbw5 hS.2.1,hS.2.2.1.trans (hbw5.mono (by have:=HBLT.out;have:=hS.2.2.1.size;omega)),by have:=hbw5.size;have:=hS.2.2.2;omega⟩) (fun hS=>?_)
            clear hK K
            (try simp only[Act.put,pq])
            refine ry [12] ?_
            refine arQ fun K hK=>?_
            go_simp;go_at_call 75;refine(HMC.out _ hS.2.2.1).mono ?_
            rintro e w6 ⟨rfl,hbw6⟩
            have HI6:=hid (HI5.out.ext hbw6)
            refine hK.out _ _ (⟨aB hbw6 hS.1,aB hbw6 hS.2.1,hS.2.2.1.trans (hbw6.mono (by have:=HBLT.out;have:=hS.2.2.1.size;omega)),by have:=hbw6.size;have:=hS.2.2.2;omega⟩) (fun hS=>?_)
            clear hK K
            (try simp only[Act.put,pq])
            refine tkQ 13 (v:=?_) ?_ hS ?_;rotate_left;· intro w' hw';have hcells:=HCC.out w' hw';go_simp;(try rfl)
            simp only[Act.put,pq]
            refine tkQ 14 (v:=?_) ?_ hS ?_;rotate_left;· intro w' hw';have hcells:=HCC.out w' hw';go_simp;(try rfl)
            simp only[Act.put,pq]
            refine ry [15] ?_
            refine arQ fun K hK=>?_
            have HTX:=hid (eZ b b ⟨A,ea⟩ mt u _ HI6.out (by have:=HBLT.out;have:=hS.2.2.1.size;omega))
            go_simp;go_at_call 82;refine HTX.out.mono ?_
            rintro r w7 ⟨rfl,hiw7,hbw7,how7⟩
            have HI7:=hid hiw7
            clear HTX hiw7
            refine hK.out _ _ (⟨how7 _ _ hS.1 (by simp;have:=HBLT.out;have:=HPZ.out;omega) (by intro c fz;simp),how7 _ _ hS.2.1 (by simp) (by intro c fz;rw[HMO.out];simp),hS.2.2.1.trans hbw7,by have:=hbw7.size;have:=hS.2.2.2;omega⟩) (fun hS=>?_)
            clear hK K
            (try simp only[Act.put,pq])
            refine ry [16] ?_
            refine arQ fun K hK=>?_
            go_simp
            have HI8:=hid (HI7.out.ext ((Below.refl _ w7).alloc lr (.cells #[.string (⟨#[108,101,116,116,101,114]⟩:ByteArray),.string (aF x.vr),.string x.nd,.string qt,.string mt] 9)))
            refine hK.out _ _ (⟨aC _ hS.1,aC _ hS.2.1,hS.2.2.1.alloc (by have:=HBLT.out;have:=hS.2.2.1.size;omega) _,by simp;have:=hS.2.2.2;omega⟩) (fun hS=>?_)
            clear hK K
            (try simp only[Act.put,pq])
            refine ry [17] ?_
            refine arQ fun K hK=>?_
            have HL:=hid (bV b b ⟨A,orL [ea,u]⟩ w7.heap.size 5 [(⟨#[108,101,116,116,101,114]⟩:ByteArray),(aF x.vr),x.nd,qt,mt] (w7.alloc (.cells #[.string (⟨#[108,101,116,116,101,114]⟩:ByteArray),.string (aF x.vr),.string x.nd,.string qt,.string mt] 9)) (aU w7 [(⟨#[108,101,116,116,101,114]⟩:ByteArray),(aF x.vr),x.nd,qt,mt] _) (by simp) (by simp) (by simp) HLZ.out HI8.out (by have:=HBLT.out;have:=hS.2.2.1.size;omega))
            go_simp;go_at_call 79;refine HL.out.mono ?_
            rintro e w9 ⟨rfl,hiw9,hbw9,how9⟩
            have HIZ:=hid hiw9
            clear HL hiw9
            refine hK.out _ _ (⟨how9 _ _ hS.1 (by simp;have:=HBLT.out;have:=HPZ.out;omega) (by intro c fz;simp),how9 _ _ hS.2.1 (by simp) (by intro c fz;rw[HMO.out];simp),hS.2.2.1.trans hbw9,by have:=hbw9.size;have:=hS.2.2.2;omega⟩) (fun hS=>?_)
            clear hK K
            (try simp only[Act.put,pq])
            refine wpAnyH_done (by kernel_rfl) ?_ _
            (try dsimp only)
            have HS9:=hid hS
            clear hS
            go_wp2
            go_roundw
            case rel=>exact⟨k+1,by omega,by go_num,HNX.out _ HIZ.out,HS9.out.2.1,HS9.out.2.2.1⟩
            case measure=>simp[intOf];omega
           ·obtain rfl:ll=k:=by omega
            have HSI5:Hid (IsJw 141 b b ⟨P6,orL [(orL [0,s1]),aP (fun _ x=>(fun l:Let=>(eE l.m).2) x) 0 d.ls]⟩ wp∧wp.heap[b+1]?=some MO∧Below b W wp):=hid (by
             have h:=HD.out.ls.len
             dsimp only at h
             rw[h,dN,←HP6.out,sF] at hij
             exact⟨hij,hmm,hbr⟩)
            clear hij hmm hbr hlt hk
            rw[←HS5E.out] at HSI5
            have f6:=aA ((HSI5.out.2.2.block _ HXB.out).trans GX.out) 8
            (try dsimp only at f6)
            go_wp2
            clear f6
            go_loopw [141] (fun iv wr=>∃k:Nat,k≤pl∧iv=.int .i64 k∧IsJw 141 b b ⟨acc P6 cY d.ps k,(foE (fun x:Ef=>fR x) d.ps k (orL [orL [0,s1],s5]))⟩ wr∧wr.heap[b+1]?=some MO∧Below b W wr) (fun iv _=>pl-(intOf iv).toNat)
            case atStart=>exact⟨0,Nat.zero_le _,rfl,by rw[cO];rw[nX];exact HSI5.out.1,HSI5.out.2.1,HSI5.out.2.2⟩
            case round =>
             obtain⟨k,hk,rfl,hij,hmm,hbr⟩:=hrel
             obtain⟨wp,rfl⟩:∃w1:World,w1=wr:=⟨_,rfl⟩
             have hn63:(pl:Int)≤9223372036854775807:=by have h:=HD.out.ps.big;dsimp only at h;omega
             have HPZ:Hid (b+1<wp.heap.size):=hid (bT hmm)
             by_cases hlt:k<pl
             ·have hkl:k<d.ps.length:=by have:=HD.out.ps.len;dsimp only at this;omega
              obtain⟨rb,ro,hna,hrb,hx⟩:=HD.out.ps.slot (show 0<pl by omega)
              dsimp only at hna hx
              subst hna
              obtain⟨x,hxa,hxi⟩:=hx k hkl
              have hel:=HG6.out k hkl
              have hac:=cP P6 cY d.ps k hkl
              have hle:=fK P6 cY d.ps (k+1)
              have htot:=HT6.out
              have hfo:=nY (fun x:Ef=>fR x) d.ps k (orL [orL [0,s1],s5]) hkl
              obtain⟨dx,hdx⟩:∃dx,dx=d.ps[k]:=⟨_,rfl⟩
              rw[←hdx] at hxi hel hac hfo
              have hlt':(k:Int)<(pl:Int):=by omega
              have hk0:(0:Int)≤(k:Int):=by omega
              obtain⟨A,hA⟩:∃A,A=acc P6 cY d.ps k:=⟨_,rfl⟩
              obtain⟨ea,hea⟩:∃e,e=(foE (fun x:Ef=>fR x) d.ps k (orL [orL [0,s1],s5])):=⟨_,rfl⟩
              rw[←hA,←hea] at hij
              rw[←hA] at hac
              have HLZ:Hid (A.length+(cY dx).length≤140737488355328):=hid (by
               have:=congrArg List.length hac
               rw[List.length_append] at this
               omega)
              have HNX:Hid (∀w',IsJw 141 b b ⟨A++cY dx,orL [ea,(fun x:Ef=>fR x) dx]⟩ w'→IsJw 141 b b ⟨acc P6 cY d.ps (k+1),(foE (fun x:Ef=>fR x) d.ps (k+1) (orL [orL [0,s1],s5]))⟩ w'):=hid (fun w' h=>by rw[hac,hfo,←hea];exact h)
              (try dsimp only at HNX)
              have HIJ:=hid hij;have HMM:=hid hmm;have HBR:=hid hbr
              have hld:=qG (o:=ro+k * 18) (hxa.same (HQ.out wp hbr rb hrb).2)
              have hst:=fun z hz=>yS wp z hz x
              have hln:=aCq wp x
              dsimp only[EfC.cs] at hld hst hln
              have HEF:=hid (fun (w':World) (h:Below b W w') (hi:IsJw 141 b b ⟨A,ea⟩ w')=>rA b ⟨A,ea⟩ x dx w' hi (hxi.same fun k hk=>⟨by have:=HWS.out;omega,(HQ.out w' h k hk).2⟩) (fun w2 h2=>HTB.out w2 (h.trans h2)) (fun w2 h2=>HZB.out w2 (h.trans h2)) hel HLZ.out)
              obtain⟨wq,hwq⟩:∃wq,wq=wp.alloc (.cells #[.int .i64 x.k,.string x.nm,.int .i64 x.nu,.string x.tx,.int .i64 x.st.e,.slice x.st.a x.st.n x.st.c,.int .i64 x.rs.e,.slice x.rs.a x.rs.n x.rs.c,.string x.sv,.int .i64 x.ca,.bool x.un,.int .i64 x.bd.k,.int .i64 x.bd.i,.int .i64 x.bd.s,.string x.bd.t,.slice x.bd.la x.bd.ll x.bd.lc,.slice x.bd.fa x.bd.fl x.bd.fc,.string x.nd] 75):=⟨_,rfl⟩
              have hbq:Below wp.heap.size wp wq:=by rw[hwq];exact(Below.refl _ _).alloc lr _
              have GQ:Hid (wq.drew.heap[wp.heap.size]?=some (.cells #[.int .i64 x.k,.string x.nm,.int .i64 x.nu,.string x.tx,.int .i64 x.st.e,.slice x.st.a x.st.n x.st.c,.int .i64 x.rs.e,.slice x.rs.a x.rs.n x.rs.c,.string x.sv,.int .i64 x.ca,.bool x.un,.int .i64 x.bd.k,.int .i64 x.bd.i,.int .i64 x.bd.s,.string x.bd.t,.slice x.bd.la x.bd.ll x.bd.lc,.slice x.bd.fa x.bd.fl x.bd.fc,.string x.nd] 75)):=hid (by rw[hwq];exact heap_alloc_new wp _)
              have HQS:Hid (wq.drew.heap[b+1]?=some MO∧Below b W wq.drew∧wp.heap.size<wq.drew.heap.size):=hid ⟨aB hbq.drew hmm,hbr.trans (hbq.drew.mono (by have:=HPZ.out;omega)),by rw[hwq];show _<(wp.alloc _).heap.size;simp⟩
              have HI0:Hid (IsJw 141 b b ⟨A,ea⟩ wq.drew):=hid (hij.ext hbq.drew)
              have HQ0:Hid (wq.heap[b+1]?=some MO∧Below b W wq∧IsJw 141 b b ⟨A,ea⟩ wq):=hid ⟨aB hbq hmm,hbr.trans (hbq.mono (by have:=HPZ.out;omega)),hij.ext hbq⟩
              have HWQ:=hid hwq
              clear hwq hbq 
              clear hdx hxa hxi hx hrb hbr hkl hij hmm hac hle htot hA hea hfo hel
              have HE1:=hid (HEF.out wq HQ0.out.2.1 HQ0.out.2.2)
              rw[HWQ.out] at HE1
              go_wp2_with (go_at_call 83;refine HE1.out.mono ?_;rintro e w6 ⟨rfl,hiw6,hbw6,how6⟩;have HIZ:=hid hiw6;have HB6:=hid hbw6;have HO6:=hid how6;clear hiw6 hbw6 how6)
              rw[←HWQ.out] at HB6 HO6
              have HS9:Hid (True∧w6.heap[b+1]?=some MO∧Below b W w6∧True):=hid ⟨trivial,HO6.out _ _ HQ0.out.1 (by simp) (by intro c fz;rw[HMO.out];simp),HQ0.out.2.1.trans HB6.out,trivial⟩
              go_roundw
              case rel=>exact⟨k+1,by omega,by go_num,HNX.out _ HIZ.out,HS9.out.2.1,HS9.out.2.2.1⟩
              case measure=>simp[intOf];omega
             ·obtain rfl:pl=k:=by omega
              have HSI6:Hid (IsJw 141 b b ⟨P7,orL [(orL [orL [0,s1],s5]),aP (fun _ x=>(fun x:Ef=>fR x) x) 0 d.ps]⟩ wp∧wp.heap[b+1]?=some MO∧Below b W wp):=hid (by
               have h:=HD.out.ps.len
               dsimp only at h
               rw[h,dN,←HP7.out,sF] at hij
               exact⟨hij,hmm,hbr⟩)
              clear hij hmm hbr hlt hk
              rw[←HS6E.out] at HSI6
              have HSE:=HSI6.out.2.2
              have HIE:=hid (HSI6.out.1.ext ((Below.refl wp.heap.size wp).alloc lr (.cells #[.string (⟨#[101,110,100]⟩:ByteArray)] 9)))
              have hlz7:(⟨P7,orL [orL [orL [0,s1],s5],s6]⟩:JW).b.length+(lnB [(⟨#[101,110,100]⟩:ByteArray)]).length≤140737488355328:=by
               have h4:(lnB [(⟨#[101,110,100]⟩:ByteArray)]).length=4:=by kernel_rfl
               have:=HT7.out
               rw[h4];show P7.length+4≤_;omega
              have HL3:=hid (bV b b ⟨P7,orL [orL [orL [0,s1],s5],s6]⟩ wp.heap.size 1 [(⟨#[101,110,100]⟩:ByteArray)] (wp.alloc (.cells #[.string (⟨#[101,110,100]⟩:ByteArray)] 9)) (aU wp [(⟨#[101,110,100]⟩:ByteArray)] _) (by simp) (by simp) (by simp) hlz7 HIE.out (by have:=HIE.out.lt;omega))
              clear HSE hlz7
              go_upto_region 38 with (go_at_call 79;refine HL3.out.mono ?_;rintro r w31 ⟨rfl,hi31,hb31,ho31⟩;have e31:=hi31.eCell;have HI31:=hid hi31;have HB31:=hid hb31;clear hi31 hb31 ho31)
              obtain⟨ec,ef⟩:=e31
              obtain⟨en,hen⟩:∃en,en=orL [orL [orL [0,s1],s5],s6]:=⟨_,rfl⟩
              rw[←hen] at ec HI31
              have hen2:en=orL [s1,s5,s6]:=by rw[hen];exact zU _ _ _
              have HEN:=hid hen2
              have HBE:Hid (Below b W w31):=hid ((HSI6.out.2.2.alloc (by have:=HSI6.out.1.lt;omega) _).trans HB31.out)
              clear hen hen2
              by_cases hz:en=0
              ·have HZE:=hid hz
               have hz1:(en != 0)=false:=by simp[hz]
               clear hz
               have hne7:(⟨P7++lnB [(⟨#[101,110,100]⟩:ByteArray)],en⟩:JW).b≠[]:=by
                show P7++lnB [(⟨#[101,110,100]⟩:ByteArray)]≠[]
                unfold lnB;simp
               have HSJ:=hid (pZ 141 b b _ w31 HI31.out hne7 (by have:=HI31.out.lt;omega))
               go_wp2_with (go_at_call 84;refine HSJ.out.mono ?_;rintro r w32 ⟨rfl,hb32,ho32⟩)
               exact bodyPost_ret (v:=.tuple #[.string ⟨(P7++lnB [(⟨#[101,110,100]⟩:ByteArray)]).toArray⟩,.int .i64 0]) (by simp[results,Tryz.results21,go_sem]) rfl ⟨by rw[HENC.out,←HEN.out,HZE.out,HP8.out];rfl,HBW.out.trans ((HBE.out.trans hb32).mono HWS.out)⟩
              ·have hz1:(en != 0)=true:=by simp[hz]
               have HZE:=hid hz
               clear hz
               go_upto_region 39 with (fail)
               have HCE:=hid (fun (w':World) (h:w'.heap[b]?=w31.heap[b]?)=>(show w'.cell? ⟨b,2,none⟩=some (.int .i64 en) from(World.cell?_of_block (w:=w31) (a:=⟨b,2,none⟩) h).trans ec))
               refine wp_region_held_drew (S:=(fun w'=>w'.heap[b]?=w31.heap[b]?)) (by kernel_rfl) (rfl) (fun hS=>?_)
               refine tkQ 0 (v:=?_) ?_ hS ?_;rotate_left;· intro w' hw';have hcells:=HCE.out w' hw';go_simp;(try rfl)
               simp only[Act.put,pq]
               refine tkQ 1 (v:=?_) ?_ hS ?_;rotate_left;· intro w' hw';have hcells:=HCE.out w' hw';go_simp;(try rfl)
               simp only[Act.put,pq]
               refine tkQ 2 (v:=?_) ?_ hS ?_;rotate_left;· intro w' hw';have hcells:=HCE.out w' hw';go_simp;(try rfl)
               simp only[Act.put,pq]
               refine tkQ 3 (v:=?_) ?_ hS ?_;rotate_left;· intro w' hw';have hcells:=HCE.out w' hw';go_simp;(try rfl)
               simp only[Act.put,pq]
               refine tkQ 4 (v:=?_) ?_ hS ?_;rotate_left;· intro w' hw';have hcells:=HCE.out w' hw';go_simp;(try rfl)
               simp only[Act.put,pq]
               refine tkQ 5 (v:=?_) ?_ hS ?_;rotate_left;· intro w' hw';have hcells:=HCE.out w' hw';go_simp;(try rfl)
               simp only[Act.put,pq]
               refine wpAnyH_done (by kernel_rfl) ?_ _
               (try dsimp only)
               clear hS
               go_wp2
               exact bodyPost_ret (v:=.tuple #[.string ⟨#[]⟩,.int .i64 en]) (by simp[results,Tryz.results21,go_sem]) rfl ⟨by rw[HENC.out,←HEN.out,if_pos HZE.out],(HBW.out.trans (HBE.out.mono HWS.out)).drew⟩
 ·have hne:(u0 != 0)=true:=by simp[h0]
  have HR:Hid (gT d=(⟨#[]⟩,u0)):=hid (by unfold gT;rw[←hu0,if_pos h0])
  clear hu0 h0
  go_wp2_with (go_at_call 8;refine HCK.out.mono ?_;rintro e w1 ⟨rfl,hbk⟩;have HBK:=hid hbk;clear hbk)
  exact bodyPost_ret (v:=.tuple #[.string ⟨#[]⟩,.int .i64 u0]) (by simp[results,Tryz.results21,go_sem]) rfl ⟨by rw[HR.out],HB1W.out.trans (HBK.out.mono HB1W.out.size)⟩
end
end Go.Proofs.YteladbdfiannjaaGreatDoor
