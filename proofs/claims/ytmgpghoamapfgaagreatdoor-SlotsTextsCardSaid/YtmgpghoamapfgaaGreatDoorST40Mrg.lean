/- A part. -/
import Derived.Test.YtmgpghoamapfgaaGreatDoorST27Mrg
import Derived.Test.YtmgpghoamapfgaaGreatDoorST29Mrg
import Derived.Lib.CountLaws
namespace Go.Proofs.YtmgpghoamapfgaaGreatDoor
set_option linter.unusedVariables false
set_option maxRecDepth 100000
set_option maxHeartbeats 16000000
set_option linter.unusedSimpArgs false
open Go Go.RowKit Go.Shelf
theorem aG0 (c:UInt8):∀(k:Nat) (s:ByteArray),s.size<=k->Lib.splitB ⟨#[c]⟩ 0 (Lib.countB s ⟨#[c]⟩) s=fD c s/\(fD c s).length=Lib.countB s ⟨#[c]⟩+1:=by
 intro k
 induction k with
 | zero =>
   intro s hs;rcases rI c s.data.toList with ⟨k1,k2⟩ | ⟨i,k1,k2,k3⟩
   ·have hm:Lib.indexB s ⟨#[c]⟩ = -1:=k1;rw[Lib.countB_miss s _ hm,rJ k2];exact⟨rfl,rfl⟩
   ·rw[xM] at k2;omega
 | succ k ih =>
   intro s hs;rcases rI c s.data.toList with ⟨k1,k2⟩ | ⟨i,k1,k2,k3⟩
   ·have hm:Lib.indexB s ⟨#[c]⟩ = -1:=k1;rw[Lib.countB_miss s _ hm,rJ k2];exact⟨rfl,rfl⟩
   ·have hm:Lib.indexB s ⟨#[c]⟩=i:=k1;rw[xM] at k2;have h1:(⟨#[c]⟩:ByteArray).size=1:=rfl;obtain⟨e1,e2⟩:=ih (s.extract (i+1) s.size) (by rw[ByteArray.size_extract];omega);rw[Lib.countB_hit s _ i (by rw[h1];exact Nat.le_refl 1) hm,Nat.add_comm 1,Lib.splitB_hit _ _ _ _ i hm,aCw k3,h1,e1,List.length_cons,e2];exact⟨rfl,rfl⟩
theorem stc2 (a:Addr) (i:Nat) (u v:Value):storeCells a [u,v] i=(do store (a.add i) u;storeCells a [v] (i+1)):=rfl
theorem infoMs:(Tryz.prog.info? 86).map (·.size)=some 10:=by kernel_rfl
theorem aJ4 (s:ByteArray) (hs:s.size<=1000000) (w:World) (hT:Tabs w) (hN:NumVars w) :
 CP 153 #[.string s] w fun x w'=>∃(c:SC) (E:Int),x=.returned (.tuple #[c.v,I6 E]) /\
  ((E=0/\∃d:St,iY s.data.toList=some d/\IsSt (fun b=>w.heap.size<=b/\b<w'.heap.size) w' c d)\/(E=13/\iY s.data.toList=none))/\Below w.heap.size w w' :=
 (aAv s hs w hT hN).mono fun x w' h=>by
   rcases h.1 with ⟨c,d,h1,h2,h3⟩ | ⟨h1,h2⟩
   ·exact⟨c,0,h2,.inl ⟨rfl,d,h1,h3⟩,h.2⟩
   ·exact⟨⟨0,none,0,0⟩,13,h2,.inr ⟨rfl,h1⟩,h.2⟩
section
attribute [-go_sem] loadCellsFrom storeCells
attribute [local go_sem] aBr aBq aBp aBo aBn aBm aAt aAs stc2
theorem oT (w:World) (N:Nat) (cs:Array Value):Below N w (w.setRow N cs):=⟨rfl,rfl,rfl,by rw[setRow_size];exact Nat.le_refl _,fun k hk=>setRow_other w N k cs ga⟩
theorem aDn {tmps:Array Value} {W:World} {N:Nat} {vs:List Value} {v3:Value} (hl:vs.length=10) (h2:tmps.getD 2 undef=.pointer (some ⟨N,0,none⟩)) (h3:tmps.getD 3 undef=v3)
 (hN:W.heap[N]?=some (.cells vs.toArray 86)):(results Tryz.f85 tmps).run Tryz.prog W=.ok (.tuple #[.agg vs.toArray,v3]) W:=by
 have h2':tmps[2]?.getD undef=.pointer (some ⟨N,0,none⟩):=by simpa using h2
 have h3':tmps[3]?.getD undef=v3:=by simpa using h3
 have hld:=aIa (P:=Tryz.prog) hN;rw[hl] at hld;simp[results,Tryz.results85,go_sem,h2',h3',hld]
theorem mBad {W:World} {N:Nat} {w:World} (hb:Below N w W) (hN:W.heap[N]?=some (.cells #[I6 0,.slice none 0 0,I6 0,.slice none 0 0,I6 0,I6 0,I6 0,.string ⟨#[]⟩,.slice none 0 0,.slice none 0 0] 86)) :
 (W.setRow N #[I6 0,.slice none 0 0,I6 0,.slice none 0 0,I6 0,I6 0,I6 0,.string ⟨#[]⟩,.slice none 0 0,.slice none 0 0]).heap[N]?=some (.cells #[I6 0,.slice none 0 0,I6 0,.slice none 0 0,I6 0,I6 0,I6 0,.string ⟨#[]⟩,.slice none 0 0,.slice none 0 0] 86)/\Below N w (W.setRow N #[I6 0,.slice none 0 0,I6 0,.slice none 0 0,I6 0,I6 0,I6 0,.string ⟨#[]⟩,.slice none 0 0,.slice none 0 0]) :=
 ⟨setRow_heap W N _ _ _ (0,0) hN,hb.trans (oT W N _)⟩
theorem aBj (s:ByteArray) (w:World) (hs:s.size<=120000) (h4:∀a b c e,gF 4 s=[a,b,c,e]->e.size<=65536) (hT:Tabs w) (hZ:ZTab w) (hNV:NumVars w) :
 CP 85 #[.string s] w fun x w' =>
  ((∃(c:MC) (d:Msg),qT s=some d/\x=.returned (.tuple #[c.v,I6 0])/\IsMsg (fun b=>w.heap.size<=b/\b<w'.heap.size) w' c d) \/
   (qT s=none/\x=.returned (.tuple #[.agg #[I6 0,.slice none 0 0,I6 0,.slice none 0 0,I6 0,I6 0,I6 0,.string ⟨#[]⟩,.slice none 0 0,.slice none 0 0],I6 3])))/\Below w.heap.size w w':=by
 obtain⟨N,hN⟩:=ez w.heap.size
 obtain⟨w0,hw0⟩:=ez (w.alloc (.cells #[I6 0,.slice none 0 0,I6 0,.slice none 0 0,I6 0,I6 0,I6 0,.string ⟨#[]⟩,.slice none 0 0,.slice none 0 0] 86))
 have hz0:w0.heap[N]?=some (.cells #[I6 0,.slice none 0 0,I6 0,.slice none 0 0,I6 0,I6 0,I6 0,.string ⟨#[]⟩,.slice none 0 0,.slice none 0 0] 86):=by rw[hw0,hN];exact heap_alloc_new w _
 have hb0:Below N w w0:=by rw[hw0,hN];exact(bR w).alloc lr _
 have hT0:Tabs w0:=hT.below (by rw[hN] at hb0;exact hb0);have hV0:NumVars w0:=hNV.below (by rw[hN] at hb0;exact hb0);have hZ0:ZTab w0:=hZ.below (by rw[hN] at hb0;exact hb0);have hN0:N<w0.heap.size:=ltOf hz0;have HNN:=hid (show w0.heap.size=N+1 by rw[hw0,hN];simp);have HST:=hid (fun (w2:World) (vs:List Value) (hv:vs.length=10) (h1:∀v∈vs,v.oneCell'=true) (cur:Array Value) (hc:cur.size=10) (hz:w2.heap[N]?=some (.cells cur 86)) =>
  (show(storeCells ⟨N,0,none⟩ vs 0).run Tryz.prog w2=.ok () (w2.setRow N vs.toArray)/\(loadCellsFrom ⟨N,0,none⟩ 0 10 #[]).run Tryz.prog (w2.setRow N vs.toArray)=.ok vs.toArray (w2.setRow N vs.toArray) from
    ⟨stOld vs hz (by rw[hc,hv]) h1,by have:=aIa (P:=Tryz.prog) (vs:=vs) (setRow_heap w2 N _ vs.toArray 86 (0,0) hz);rw[hv] at this;exact this⟩))
 rw[<-hN];have HW:=hid hw0;have HN:=hid hN;have HB0:=hid hb0;have HV:=hid (And.intro hT0 (And.intro hV0 hZ0));have HH0:=hid hz0;have HVW:=hid (And.intro hT (And.intro hNV hZ));rcases split4 s w0 hs hV0 with ⟨pa,pb,pc,pe,hp,hsp⟩ | ⟨hp,hsp⟩
 ·have hza:pa.size<=s.size:=kN 4 s pa (by rw[hp];simp);have hzb:pb.size<=s.size:=kN 4 s pb (by rw[hp];simp);have hzc:pc.size<=s.size:=kN 4 s pc (by rw[hp];simp);have HZ:=hid (And.intro hza (And.intro hzb (And.intro hzc (And.intro (h4 _ _ _ _ hp) hs))));have HP:=hid hp;have HSP:=hid hsp;obtain⟨P,hP⟩:=ez w0.heap.size
  obtain⟨w1,hw1⟩:=ez (w0.alloc (.cells #[.string pa,.string pb,.string pc,.string pe] 9))
  have hp1:w1.heap[P]?=some (.cells #[.string pa,.string pb,.string pc,.string pe] 9):=by rw[hw1,hP];exact heap_alloc_new w0 _
  have hb1:Below w0.heap.size w0 w1:=by rw[hw1];exact(Below.refl _ w0).alloc lr _
  have HSTP:=hid (aJ4 pa ga w1 (hT0.below hb1) (hV0.below hb1));have q0:Ce w1 P 0 (.string pa):=aA hp1 0;have HB1:=hid hb1;have HP1:=hid hp1;have HW1:=hid hw1;have HPE:=hid hP;clear hw0 hN hz0 hb0 hT0 hV0 hZ0 hN0 hp hsp hza hzb hzc hP hw1 hp1 hb1 hT hZ hNV h4 hs;go_enter Tryz.func85,Tryz.ntmps85
  go_upto_region 1 with (fail)
  rw[<-HW.out,<-HN.out];go_upto_region 4 with (go_at_call 152;refine HSP.out.mono ?_;rintro e w1' ⟨rfl,rfl⟩)
  rw[<-HW1.out,<-HPE.out];go_upto_region 5 with (go_at_call 153;refine HSTP.out.mono ?_;rintro e w2 ⟨cs,E,rfl,hd,hb2⟩;have HD:=hid hd;have HB2:=hid hb2;clear hd hb2)
  clear q0;obtain⟨T5,hT5⟩:=ez w2.heap.size
  obtain⟨w3,hw3⟩:=ez (w2.alloc (.cells #[I6 cs.e,.slice cs.a cs.n cs.c] 39))
  rw[<-hw3,<-hT5];have b01:=HB1.out;have s01:=b01.size;have b02:Below w0.heap.size w0 w2:=b01.trans (HB2.out.mono s01);have b03:Below w0.heap.size w0 w3:=by rw[hw3];exact b02.alloc b02.size _
  have p3:w3.heap[P]?=some (.cells #[.string pa,.string pb,.string pc,.string pe] 9):=by rw[hw3];exact aD _ (aB HB2.out HP1.out)
  have t3:w3.heap[T5]?=some (.cells #[I6 cs.e,.slice cs.a cs.n cs.c] 39):=by rw[hw3,hT5];exact heap_alloc_new w2 _
  have d3:(E=0/\∃d:St,iY pa.data.toList=some d/\IsSt (fun b=>w1.heap.size<=b/\b<w3.heap.size) w3 cs d)\/(E=13/\iY pa.data.toList=none):=by
   rcases HD.out with ⟨h1,d,h2,h3⟩ | h
   ·refine .inl ⟨h1,d,h2,h3.same fun b hb=>?_⟩;rw[hw3];exact⟨⟨hb.1,by rw[World.size_alloc];omega⟩,cW w2 _ _ hb.2⟩
   ·exact .inr h
  have q1:Ce w3 P 1 (.string pb):=aA p3 1;have HAT:=hid (oG pb (by have:=HZ.out.2.1;have:=HZ.out.2.2.2.2;omega) w3 (HV.out.2.1.below b03));have H3:=hid (And.intro b03 (And.intro p3 (And.intro t3 d3)));clear hT5 hw3 b01 s01 b02 b03 p3 t3 d3;go_upto_region 6 with (go_at_call 148;refine HAT.out.mono ?_;rintro e w4 ⟨ev,rfl,hev,hb4⟩;have HEV:=hid hev;have HB4:=hid hb4;clear hev hb4)
  clear q1;have b04:Below w0.heap.size w0 w4:=H3.out.1.trans (HB4.out.mono H3.out.1.size);have p4:w4.heap[P]?=some (.cells #[.string pa,.string pb,.string pc,.string pe] 9):=aB HB4.out H3.out.2.1;have q3:Ce w4 P 3 (.string pe):=aA p4 3;have HPR:=hid (lX pe w4 HZ.out.2.2.2.1 (HV.out.1.below b04) (HV.out.2.1.below b04));have hst:=fun (w3:World) (c:VC)=>aAw w3 #[I6 0,I6 0,I6 0,.string ⟨#[]⟩,.slice none 0 0,.slice none 0 0] rfl (I6 c.k) (I6 c.i) (I6 c.s) (.string c.t) (.slice c.la c.ll c.lc) (.slice c.fa c.fl c.fc) gm;have H4':=hid (And.intro b04 p4);clear b04 p4
  go_upto_region 7 with (go_at_call 84;refine HPR.out.mono ?_;rintro e w5 ⟨c,rfl,hv5,hb5⟩;have HV5:=hid hv5;have HB5:=hid hb5;clear hv5 hb5)
  clear q3 hst;obtain⟨T9,hT9⟩:=ez w5.heap.size
  obtain⟨w6,hw6⟩:=ez (w5.alloc (oV c 36))
  rw[<-hw6,<-hT9];have b05:Below w0.heap.size w0 w5:=H4'.out.1.trans (HB5.out.mono H4'.out.1.size);have b06:Below w0.heap.size w0 w6:=by rw[hw6];exact b05.alloc b05.size _
  have e36:∀k o,w3.heap[k]?=some o->w6.heap[k]?=some o:=fun k o h=>by rw[hw6];exact aD _ (aB HB5.out (aB HB4.out h))
  have p6:=e36 _ _ H3.out.2.1;have t6:=e36 _ _ H3.out.2.2.1;have v6:w6.heap[T9]?=some (oV c 36):=by rw[hw6,hT9];exact heap_alloc_new w5 _
  have s34:=HB4.out.size;have s45:=HB5.out.size;have s56:w6.heap.size=w5.heap.size+1:=by rw[hw6];simp
  have s13:=H3.out.1.size;have d6:(E=0/\∃d:St,iY pa.data.toList=some d/\IsSt (fun b=>w0.heap.size<=b/\b<w6.heap.size) w6 cs d)\/(E=13/\iY pa.data.toList=none):=by
   rcases H3.out.2.2.2 with ⟨h1,d,h2,h3⟩ | h
   ·refine .inl ⟨h1,d,h2,h3.same fun b hb=>⟨⟨by have:=HB1.out.size;omega,by omega⟩,?_⟩⟩;rw[hw6];exact(cW w5 _ _ ga).trans ((HB5.out.block b ga).trans (HB4.out.block b hb.2))
   ·exact .inr h
  have hv6:IsVal (fun b=>w0.heap.size<=b/\b<w6.heap.size) w6 c (eX pe).1:=HV5.out.same fun b hb=>by
   have:=H4'.out.1.size;rw[hw6];exact⟨⟨by omega,by rw[World.size_alloc];omega⟩,cW w5 _ _ hb.2⟩
  have n6:w6.heap[N]?=some (.cells #[I6 0,.slice none 0 0,I6 0,.slice none 0 0,I6 0,I6 0,I6 0,.string ⟨#[]⟩,.slice none 0 0,.slice none 0 0] 86):=aB b06 HH0.out;have bn6:Below N w w6:=HB0.out.trans (b06.mono (by have:=HNN.out;omega));obtain⟨m,hm⟩:=ez (dO pb.data.toList)
  obtain⟨f,hf⟩:=ez ((eX pe).2.2)
  obtain⟨go,hgo⟩:=ez ((eX pe).2.1)
  have hev:=HEV.out;rw[<-hm,<-hf,<-hgo];have hstz:=(HST.out w6 [I6 0,.slice none 0 0,I6 0,.slice none 0 0,I6 0,I6 0,I6 0,.string ⟨#[]⟩,.slice none 0 0,.slice none 0 0] rfl gm _ rfl n6).1;have hbad:=mBad bn6 n6;have HBAD:=hid hbad;have H6:=hid (And.intro b06 (And.intro p6 (And.intro t6 (And.intro v6 (And.intro d6 (And.intro hv6 (And.intro n6 bn6)))))));have HM:=hid (And.intro hm hf);have HE56:=hid (And.intro s56 hT9);clear b05 b06 e36 p6 t6 v6 s34 s45 s56 s13 d6 hv6 n6 bn6 hm hf hgo hw6 hT9 hbad;have HNONE:=hid (show(E=13\/cG pb.data.toList=false\/f≠0)->qT s=none from fun h=>by
   unfold qT;rw[HP.out];dsimp only;rcases H6.out.2.2.2.2.1 with ⟨h1,d,h2,_⟩ | ⟨h1,h2⟩
   ·rw[h2];dsimp only;rw[if_neg];rintro⟨g1,g2,_⟩;rcases h with h | h | h
    ·omega
    ·rw[g1] at h;cases h
    ·rw[HM.out.2] at h;exact h g2
   ·rw[h2])
  by_cases hE:E=13
  ·subst hE;go_wp2;refine bodyPost_ret (aDn (vs:=[I6 0,.slice none 0 0,I6 0,.slice none 0 0,I6 0,I6 0,I6 0,.string ⟨#[]⟩,.slice none 0 0,.slice none 0 0]) rfl rfl rfl HBAD.out.1) rfl ⟨.inr ⟨HNONE.out gd,rfl⟩,HBAD.out.2⟩
  have hE0:E=0:=by rcases H6.out.2.2.2.2.1 with h | h;exact h.1;exact absurd h.1 hE
  subst hE0;rcases hev with ⟨hok,rfl⟩ | ⟨hok,pp,rfl⟩
  ·have HOKB:=hid hok;clear hok;by_cases hf0:f=0
   ·subst hf0;clear hstz;have hld:=ld6 H6.out.2.2.2.1;have u0:Ce w6 T5 0 (I6 cs.e):=aA H6.out.2.2.1 0;have u1:Ce w6 T5 1 (.slice cs.a cs.n cs.c):=aA H6.out.2.2.1 1;obtain⟨M,hM⟩:=ez w6.heap.size
    obtain⟨w7,hw7⟩:=ez (w6.alloc (.cells #[I6 cs.e,.slice cs.a cs.n cs.c,I6 m,.slice none 0 0,I6 c.k,I6 c.i,I6 c.s,.string c.t,.slice c.la c.ll c.lc,.slice c.fa c.fl c.fc] 86))
    have hst:=stNew w6 86 #[I6 0,.slice none 0 0,I6 0,.slice none 0 0,I6 0,I6 0,I6 0,.string ⟨#[]⟩,.slice none 0 0,.slice none 0 0] [I6 cs.e,.slice cs.a cs.n cs.c,I6 m,.slice none 0 0,I6 c.k,I6 c.i,I6 c.s,.string c.t,.slice c.la c.ll c.lc,.slice c.fa c.fl c.fc] infoMs rfl gm;go_upto_region 10 with (fail)
    rw[<-hw7,<-hM];clear hst hld u0 u1;have hz7:w7.heap[M]?=some (.cells #[I6 cs.e,.slice cs.a cs.n cs.c,I6 m,.slice none 0 0,I6 c.k,I6 c.i,I6 c.s,.string c.t,.slice c.la c.ll c.lc,.slice c.fa c.fl c.fc] 86):=by rw[hw7,hM];exact heap_alloc_new w6 _
    have s7:w7.heap.size=M+1:=by rw[hw7,hM];simp
    have e67:∀k o,w6.heap[k]?=some o->w7.heap[k]?=some o:=fun k o h=>by rw[hw7];exact aD _ h
    have q2:Ce w7 P 2 (.string pc):=aA (e67 _ _ H6.out.2.1) 2;obtain⟨L,hL⟩:=ez (fD 44 pc)
    obtain⟨K,hK⟩:=ez L.length
    obtain⟨w8,hw8⟩:=ez (w7.alloc (.cells (L.map Value.string).toArray 9))
    have hsp:CP 154 #[.string pc,.string ⟨#[44]⟩] w7 fun e w'=>e=.returned (.slice (some ⟨M+1,0,none⟩) K K)/\w'=w8:=by
     have b07:Below w0.heap.size w0 w7:=by rw[hw7];exact H6.out.1.alloc H6.out.1.size _
     obtain⟨mm,hmm⟩:=(HV.out.2.1.below b07).2.2;obtain⟨g1,g2⟩:=aG0 44 pc.size pc lr;refine(Tryz.strings_Split pc ⟨#[44]⟩ mm w7 (by have:=HZ.out.2.2.1;have:=HZ.out.2.2.2.2;omega) hmm (Nat.le_refl 1)).mono ?_;rintro e w' ⟨rfl,rfl⟩;rw[g1,<-g2,s7,<-hL,<-hK];exact⟨rfl,hw8.symm⟩
    have HSPL:=hid hsp;have hz8:w8.heap[M]?=some (.cells #[I6 cs.e,.slice cs.a cs.n cs.c,I6 m,.slice none 0 0,I6 c.k,I6 c.i,I6 c.s,.string c.t,.slice c.la c.ll c.lc,.slice c.fa c.fl c.fc] 86):=by rw[hw8];exact aD _ hz7
    have hr8:w8.heap[M+1]?=some (.cells (L.map Value.string).toArray 9):=by rw[hw8,<-s7];exact heap_alloc_new w7 _
    have s8:w8.heap.size=M+2:=by rw[hw8];simp[s7]
    have e68:∀k o,w6.heap[k]?=some o->w8.heap[k]?=some o:=fun k o h=>by rw[hw8];exact aD _ (e67 k o h)
    have sNM:N<M:=by rw[hM];exact ltOf H6.out.2.2.2.2.2.2.1
    have bn8:Below N w w8:=by
     have h:=H6.out.2.2.2.2.2.2.2;rw[hw8,hw7];exact(h.alloc ga _).alloc gj _
    have H8:=hid (And.intro hz8 (And.intro hr8 (And.intro s8 (And.intro e68 (And.intro sNM bn8)))));have HL:=hid (And.intro hL hK);have HM6:=hid hM;have hKs:K<=120001:=by
     have h1:=oY 44 pc;have h2:=HZ.out.2.2.1;have h3:=HZ.out.2.2.2.2;rw[<-hL] at h1;omega
    clear hw7 hz7 s7 e67 hL hK hw8 hsp hz8 hr8 s8 e68 sNM bn8 hM;go_wp2_with (go_at_call 154;refine HSPL.out.mono ?_;rintro e w8' ⟨rfl,hw⟩;obtain rfl:=hw.symm)
    go_loopw [67] (fun iv wr=>∃(k:Nat) (v:Value),iv=I6 k/\k<=K/\wr.heap[M]?=some (.cells #[I6 cs.e,.slice cs.a cs.n cs.c,I6 m,v,I6 c.k,I6 c.i,I6 c.s,.string c.t,.slice c.la c.ll c.lc,.slice c.fa c.fl c.fc] 86)/\wr.ownsRow (M+2) 3 1 v k ((L.take k).map fun x=>I6 (dO x.data.toList)) /\
     (∀x∈L.take k,cG x.data.toList=true)/\(∀b o,b≠M->w8.heap[b]?=some o->wr.heap[b]?=some o)/\w8.heap.size<=wr.heap.size/\Below N w wr) (fun iv _=>K-(intOf iv).toNat)
    case atStart=>exact⟨0,_,rfl,Nat.zero_le _,H8.out.1,World.ownsRow_nil _ _ _ _,fun x hx=>absurd hx gd,fun b o _ h=>h,Nat.le_refl _,H8.out.2.2.2.2.2⟩
    case round =>
     obtain⟨k,v,rfl,hk,hM,hown,hall,hkeep,hsz,hbel⟩:=hrel;have sM8:=H8.out.2.2.1;have sNM:=H8.out.2.2.2.2.1;have nr:wr.heap[N]?=some (.cells #[I6 0,.slice none 0 0,I6 0,.slice none 0 0,I6 0,I6 0,I6 0,.string ⟨#[]⟩,.slice none 0 0,.slice none 0 0] 86):=hkeep N _ ga (H8.out.2.2.2.1 _ _ H6.out.2.2.2.2.2.2.1);by_cases hlt:k<K
     ·have hkl:k<L.length:=by rw[<-HL.out.2];exact hlt
      obtain⟨x,hx⟩:=ez (L[k])
      have hmem:x∈L:=by rw[hx];exact List.getElem_mem _
      have q5:wr.cell? ⟨M+1,k,none⟩=some (.string x):=by
       rw[aA (hkeep (M+1) _ ga H8.out.2.1) k,hx];simp[hkl]
      have hxz:x.size<=1000000:=by
       have h1:=yL 44 pc x (by rw[<-HL.out.1];exact hmem);have h2:=HZ.out.2.2.1;have h3:=HZ.out.2.2.2.2;omega
      have HAX:=hid (oG x hxz wr (HVW.out.2.1.below (by rw[HN.out] at hbel;exact hbel)));have HX:=hid (And.intro hx (And.intro hmem hkl));have HR:=hid (And.intro hM (And.intro hown (And.intro hall (And.intro hkeep (And.intro hsz (And.intro hbel nr))))));have hlt':(k:Int)<(K:Int):=by omega
      clear hx hmem hxz hM hown hall hkeep hsz hbel nr;have hat:=HAX.out;obtain⟨ax,hax⟩:=ez (dO x.data.toList)
      rw[<-hax] at hat
      have HAT2:=hid hat
      have HAXE:=hid hax;clear hat hax HAX;go_upto_region 14 with (go_at_call 148;refine HAT2.out.mono ?_;rintro e w9 ⟨ev9,rfl,hev9,hb9⟩;have HEV9:=hid hev9;have HB9:=hid hb9;clear hev9 hb9)
      clear q5;rcases HEV9.out with ⟨hok,rfl⟩ | ⟨hok,pp,rfl⟩
      ·have hm9:=aB HB9.out HR.out.1;have u3:Ce w9 M 3 v:=aA hm9 3;have t3:w9.frozen? ⟨M,3,none⟩=false:=aC hm9 3;have hown9:=fM HR.out.2.1 HB9.out;have hsz9:=HB9.out.size;have hsz:=HR.out.2.2.2.2.1;have hcap1:k+1<=maxLen:=by unfold maxLen;omega
       have hcap2:(k+1) * 8<=140737488355328:=by omega
       obtain⟨ti,hi,hz0,hz1,hz2⟩:=info_parts aE6;have hne:∀b,b<M+2->some b≠v.ownBlock:=fun b hb e=>by have:=(World.ownsRow.lt HR.out.2.1 b e.symm).1;omega
       have HM5:=hid (show ∀w5,(w9.alloc (.cells #[I6 ax] 3)).grownBy w5 v.ownBlock->w5.heap[M]?=some (.cells #[I6 cs.e,.slice cs.a cs.n cs.c,I6 m,v,I6 c.k,I6 c.i,I6 c.s,.string c.t,.slice c.la c.ll c.lc,.slice c.fa c.fl c.fc] 86) from fun w5 h =>
        (h.block M (by have:=ltOf hm9;simp;omega) (hne M ga)).trans (aD _ hm9))
       have HOK:=hid hok;have HOWN:=hid hown9;have HNE:=hid hne;have hsz9':M+2<=w9.heap.size:=by omega
       clear hok hm9 hown9 hne;go_wp2_with (at_builtin;go_loud (refine wpList_append_own_at _ gh _ _ 37 gh (M+2) 3 ti _ 1 8 Tryz.underlying37 hi hz0 hz1 hz2 rfl ga v k _ gh (HOWN.out.alloc _) ⟨w9.heap.size,0,none⟩ 1 1 [I6 ax] gh gh (cell_one_new _ _ _) gm hcap1 hcap2 gj ?_;intro v' w5 hown' hgrow hnil hloc;obtain⟨g,cap,rfl,hgl⟩:=yR hown';have HO2:=hid hown';have HG:=hid hgrow;have HM5':=hid (HM5.out w5 hgrow);have u4:=aA HM5'.out 3;have t4:=aC HM5'.out 3;clear hown' hgrow hnil hloc u3 t3 hgl))
       have hw:∀b o,b≠M->some b≠v.ownBlock->wr.heap[b]?=some o->(w5.setCell ⟨M,3,none⟩ (.slice (some ⟨g,0,none⟩) (k+1) cap)).heap[b]?=some o:=fun b o h1 h2 h=>by
        have h9:=aB HB9.out h;have hl:=ltOf h9;exact(Below.heap_setCell _ _ _ _ gi).trans ((HG.out.block b gj h2).trans (aD _ h9))
       have hs5:=HG.out.size;simp only[World.size_alloc] at hs5;refine⟨⟨k+1,.slice (some ⟨g,0,none⟩) (k+1) cap,by go_num,by omega,dQ HM5'.out,?_,fun y hy=>?_,fun b o h1 h=>hw b o h1 (HNE.out b (by have:=ltOf h;omega)) (HR.out.2.2.2.1 b o h1 h),by simp[World.setCell];omega,?_⟩,by simp[intOf];omega⟩
       ·rw[List.take_succ_eq_append_getElem HX.out.2.2,<-HX.out.1,List.map_append,List.map_singleton,<-HAXE.out];exact aBc HO2.out fun b o hb h=>(Below.heap_setCell _ _ _ _ (by
         have:=(jN HO2.out b hb).1;dsimp only;omega)).trans h
       ·rw[List.take_succ_eq_append_getElem HX.out.2.2,<-HX.out.1] at hy;rcases List.mem_append.1 hy with hy | hy
        ·exact HR.out.2.2.1 y hy
        ·obtain rfl:=List.mem_singleton.1 hy;exact HOK.out
       ·have h1:=HR.out.2.2.2.2.2.1;have hN:N<=wr.heap.size:=by omega
        have h2:=((h1.trans (HB9.out.mono hN)).alloc ga (.cells #[I6 ax] 3)).grown HG.out gj (fun b e=>by have:=(World.ownsRow.lt HR.out.2.1 b e).1;omega);exact h2.setCell (p:=⟨M,3,none⟩) gi _
      ·have n9:=aB HB9.out HR.out.2.2.2.2.2.2;have hstz:=(HST.out w9 [I6 0,.slice none 0 0,I6 0,.slice none 0 0,I6 0,I6 0,I6 0,.string ⟨#[]⟩,.slice none 0 0,.slice none 0 0] rfl gm _ rfl n9).1;have hbad:=mBad (HR.out.2.2.2.2.2.1.trans (HB9.out.mono (by have:=ltOf HR.out.2.2.2.2.2.2;omega))) n9;have HBAD2:=hid hbad;have HNO:=hid (show qT s=none by
        unfold qT;rw[HP.out];dsimp only;split
        ·rfl
        ·rw[if_neg];rintro⟨_,_,g,_⟩;have h1:=HX.out.2.1;rw[HL.out.1] at h1;unfold fD at h1;obtain⟨z,hz,rfl⟩:=List.mem_map.1 h1;have:=List.all_eq_true.1 g z hz;rw[show(⟨z.toArray⟩:ByteArray).data.toList=z from rfl,this] at hok;cases hok)
       clear n9 hbad hok;go_wp2;refine bodyPost_ret (aDn (vs:=[I6 0,.slice none 0 0,I6 0,.slice none 0 0,I6 0,I6 0,I6 0,.string ⟨#[]⟩,.slice none 0 0,.slice none 0 0]) rfl rfl rfl HBAD2.out.1) rfl ⟨.inr ⟨HNO.out,rfl⟩,HBAD2.out.2⟩
     ·obtain rfl:K=k:=by omega
      clear hlt;rw[HL.out.2,List.take_length] at hown;rw[HL.out.2,List.take_length] at hall;obtain⟨zs,hzs⟩:=ez (L.map fun x=>dO x.data.toList)
      have hmap:L.map (fun x=>I6 (dO x.data.toList))=zs.map (Value.int .i64):=by rw[hzs,List.map_map];rfl
      rw[hmap] at hown;rw[<-HL.out.2] at hown;obtain⟨a,cap,rfl,hints⟩:=iP hown ga (fun z hz=>by
       rw[hzs] at hz;obtain⟨x,_,rfl⟩:=List.mem_map.1 hz;exact bV _)
      obtain⟨sd,hsd,hsi⟩:∃d:St,iY pa.data.toList=some d/\IsSt (fun b=>w0.heap.size<=b/\b<w6.heap.size) w6 cs d:=by
       rcases H6.out.2.2.2.2.1 with h | h
       ·exact h.2
       ·exact absurd h.1 gc
      obtain⟨d,hd⟩:=ez (⟨sd,m,zs,(eX pe).1⟩:Msg)
      have hk6:∀b,b<w6.heap.size->wr.heap[b]?=w6.heap[b]?:=fun b hb=>by
       have h1:=Array.getElem?_eq_getElem hb;rw[h1];exact hkeep b _ (by have:=HM6.out;omega) (H8.out.2.2.2.1 b _ h1)
      have hi:IsMsg (fun b=>w0.heap.size<=b/\b<wr.heap.size) wr ⟨cs,m,a,K,cap,c⟩ d:=by
       have h6:w6.heap.size<=wr.heap.size:=by have:=HM6.out;omega
       rw[hd];refine⟨hsi.same fun b hb=>⟨⟨hb.1,by omega⟩,hk6 b hb.2⟩,rfl,by show I64 m;rw[HM.out.1];exact bV _,hints.same fun b hb=>⟨⟨by have:=H6.out.1.size;have:=HM6.out;omega,hb.2⟩,rfl⟩,H6.out.2.2.2.2.2.1.same fun b hb=>⟨⟨hb.1,by omega⟩,hk6 b hb.2⟩⟩
      have hiw:IsMsg (· < wr.heap.size) wr ⟨cs,m,a,K,cap,c⟩ d:=hi.same fun b hb=>⟨hb.2,rfl⟩
      have hen:=pE ⟨cs,m,a,K,cap,c⟩ d wr hiw (HVW.out.1.below (by rw[HN.out] at hbel;exact hbel)) (HVW.out.2.2.below (by rw[HN.out] at hbel;exact hbel));obtain⟨t1,ht1⟩:=ez ((dJ d).1)
      obtain⟨e1,he1⟩:=ez ((dJ d).2)
      rw[<-ht1,<-he1] at hen;have HDM:=hid (show qT s=if dJ d=(s,0) then some d else none by
       have g1:(spl 44 pc.data.toList).all cG=true:=by
        rw[List.all_eq_true];intro z hz;exact hall ⟨z.toArray⟩ (by rw[HL.out.1];unfold fD;exact List.mem_map.2 ⟨z,hz,rfl⟩)
       have g2:(spl 44 pc.data.toList).map dO=zs:=by rw[hzs,HL.out.1];unfold fD;rw[List.map_map];rfl
       have g3:cG pb.data.toList=true:=HOKB.out;unfold qT;rw[HP.out];dsimp only;rw[hsd];dsimp only;rw[g1,g2,g3,<-HM.out.2,<-HM.out.1,<-hd];simp only[true_and])
      have HEN:=hid hen;have HTE:=hid (And.intro ht1 he1);have HI:=hid hi;have HK:=hid (And.intro hM (And.intro hbel nr));have hl10:=aIa (P:=Tryz.prog) (vs:=[I6 cs.e,.slice cs.a cs.n cs.c,I6 m,.slice a K cap,I6 c.k,I6 c.i,I6 c.s,.string c.t,.slice c.la c.ll c.lc,.slice c.fa c.fl c.fc]) hM;have hl10':(loadCellsFrom ⟨M,0,none⟩ 0 10 #[]).run Tryz.prog wr=.ok #[I6 cs.e,.slice cs.a cs.n cs.c,I6 m,.slice a K cap,I6 c.k,I6 c.i,I6 c.s,.string c.t,.slice c.la c.ll c.lc,.slice c.fa c.fl c.fc] wr:=hl10;clear hl10 hown hall hzs hmap hints hsd hsi hd hk6 hi hiw hen ht1 he1 hM hkeep hsz hbel nr
      go_upto_region 19 with (go_at_call 37;refine HEN.out.mono ?_;rintro e w9 ⟨rfl,hb9⟩;have HB9:=hid hb9;clear hb9)
      clear hl10';have m9:=aB HB9.out HK.out.1;have n9:=aB HB9.out HK.out.2.2;have bn9:Below N w w9:=HK.out.2.1.trans (HB9.out.mono (by have:=ltOf HK.out.2.2;omega));have hstz:=(HST.out w9 [I6 0,.slice none 0 0,I6 0,.slice none 0 0,I6 0,I6 0,I6 0,.string ⟨#[]⟩,.slice none 0 0,.slice none 0 0] rfl gm _ rfl n9).1;have HBAD2:=hid (mBad bn9 n9);have H9:=hid (And.intro m9 (And.intro n9 bn9));clear m9 n9 bn9;by_cases he1:e1=0
      ·subst he1;obtain⟨bq,hbq⟩:∃bq,(t1.toList==s.toList)=bq:=⟨_,rfl⟩
       have hbn:(t1.toList != s.toList) = !bq:=by rw[<-hbq];rfl
       have HBQ:=hid hbq;cases bq
       ·go_wp2;refine bodyPost_ret (aDn (vs:=[I6 0,.slice none 0 0,I6 0,.slice none 0 0,I6 0,I6 0,I6 0,.string ⟨#[]⟩,.slice none 0 0,.slice none 0 0]) rfl rfl rfl HBAD2.out.1) rfl ⟨.inr ⟨?_,rfl⟩,HBAD2.out.2⟩;rw[HDM.out,if_neg];intro h;have h1:=HTE.out.1;rw[h] at h1;have h2:=HBQ.out;rw[h1] at h2;simp at h2
       ·have hts:t1=s:=by
         have h2:=HBQ.out;rw[bList] at h2;exact of_decide_eq_true h2
        have HTS:=hid hts;clear hts hstz;have hstv:=(HST.out w9 [I6 cs.e,.slice cs.a cs.n cs.c,I6 m,.slice a K cap,I6 c.k,I6 c.i,I6 c.s,.string c.t,.slice c.la c.ll c.lc,.slice c.fa c.fl c.fc] rfl gm _ rfl H9.out.2.1).1;have hl10:=aIa (P:=Tryz.prog) (vs:=[I6 cs.e,.slice cs.a cs.n cs.c,I6 m,.slice a K cap,I6 c.k,I6 c.i,I6 c.s,.string c.t,.slice c.la c.ll c.lc,.slice c.fa c.fl c.fc]) H9.out.1
        have hl10':(loadCellsFrom ⟨M,0,none⟩ 0 10 #[]).run Tryz.prog w9=.ok #[I6 cs.e,.slice cs.a cs.n cs.c,I6 m,.slice a K cap,I6 c.k,I6 c.i,I6 c.s,.string c.t,.slice c.la c.ll c.lc,.slice c.fa c.fl c.fc] w9:=hl10;clear hl10;go_wp2;have hrow:=setRow_heap w9 N _ #[I6 cs.e,.slice cs.a cs.n cs.c,I6 m,.slice a K cap,I6 c.k,I6 c.i,I6 c.s,.string c.t,.slice c.la c.ll c.lc,.slice c.fa c.fl c.fc] 86 (0,0) H9.out.2.1
        refine bodyPost_ret (aDn (vs:=[I6 cs.e,.slice cs.a cs.n cs.c,I6 m,.slice a K cap,I6 c.k,I6 c.i,I6 c.s,.string c.t,.slice c.la c.ll c.lc,.slice c.fa c.fl c.fc]) rfl rfl rfl hrow) rfl ⟨.inl ⟨⟨cs,m,a,K,cap,c⟩,d,?_,rfl,?_⟩,H9.out.2.2.trans (oT w9 N _)⟩
        ·rw[HDM.out,if_pos];rw[<-HTS.out,HTE.out.1];exact Prod.ext rfl HTE.out.2.symm
        ·refine HI.out.same fun b hb=>⟨⟨by have:=HNN.out;omega,by rw[setRow_size];have:=HB9.out.size;omega⟩,(setRow_other w9 N b _ (by have:=HNN.out;omega)).trans (HB9.out.block b hb.2)⟩
      ·have hx0:(e1==0)=false:=by simp;exact he1
       have hx1:(e1 != 0)=true:=by simp;exact he1
       have HE1:=hid he1;clear he1;go_wp2;refine bodyPost_ret (aDn (vs:=[I6 0,.slice none 0 0,I6 0,.slice none 0 0,I6 0,I6 0,I6 0,.string ⟨#[]⟩,.slice none 0 0,.slice none 0 0]) rfl rfl rfl HBAD2.out.1) rfl ⟨.inr ⟨?_,rfl⟩,HBAD2.out.2⟩;rw[HDM.out,if_neg];intro h;have h1:=HTE.out.2;rw[h] at h1;exact HE1.out h1
   ·have hx0:(f==0)=false:=by simp;exact hf0
    have hx1:(f != 0)=true:=by simp;exact hf0
    have HF:=hid hf0;clear hf0;go_wp2;refine bodyPost_ret (aDn (vs:=[I6 0,.slice none 0 0,I6 0,.slice none 0 0,I6 0,I6 0,I6 0,.string ⟨#[]⟩,.slice none 0 0,.slice none 0 0]) rfl rfl rfl HBAD.out.1) rfl ⟨.inr ⟨HNONE.out (.inr (.inr HF.out)),rfl⟩,HBAD.out.2⟩
  ·have HK:=hid hok;clear hok;go_wp2;refine bodyPost_ret (aDn (vs:=[I6 0,.slice none 0 0,I6 0,.slice none 0 0,I6 0,I6 0,I6 0,.string ⟨#[]⟩,.slice none 0 0,.slice none 0 0]) rfl rfl rfl HBAD.out.1) rfl ⟨.inr ⟨HNONE.out (.inr (.inl HK.out)),rfl⟩,HBAD.out.2⟩
 ·have HNO:=hid (show qT s=none by
   unfold qT;split
   ·rename_i h;rw[h] at hp;simp at hp
   ·rfl)
  have HSP:=hid hsp;clear hw0 hN hz0 hb0 hT0 hV0 hZ0 hN0 hp hsp hT hZ hNV h4 hs;go_enter Tryz.func85,Tryz.ntmps85
  go_upto_region 1 with (fail)
  rw[<-HW.out,<-HN.out];go_upto_region 2 with (go_at_call 152;refine HSP.out.mono ?_;rintro e w1 ⟨n,k,hn4,rfl,hb1⟩;have HN4:=hid hn4;have HB1:=hid hb1;clear hn4 hb1)
  have n1:=aB HB1.out HH0.out;have hstz:=(HST.out w1 [I6 0,.slice none 0 0,I6 0,.slice none 0 0,I6 0,I6 0,I6 0,.string ⟨#[]⟩,.slice none 0 0,.slice none 0 0] rfl gm _ rfl n1).1;have HBAD2:=hid (mBad (HB0.out.trans (HB1.out.mono (by have:=HNN.out;omega))) n1);have hn4:(n:Int)<4:=by have:=HN4.out;omega
  clear n1;go_wp2;exact bodyPost_ret (aDn (vs:=[I6 0,.slice none 0 0,I6 0,.slice none 0 0,I6 0,I6 0,I6 0,.string ⟨#[]⟩,.slice none 0 0,.slice none 0 0]) rfl rfl rfl HBAD2.out.1) rfl ⟨.inr ⟨HNO.out,rfl⟩,HBAD2.out.2⟩
end
end Go.Proofs.YtmgpghoamapfgaaGreatDoor
