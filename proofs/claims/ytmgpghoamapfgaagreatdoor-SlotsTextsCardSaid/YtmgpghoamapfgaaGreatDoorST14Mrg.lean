/- A part. -/
import Derived.Test.YtmgpghoamapfgaaGreatDoorST11Mrg
namespace Go.Proofs.YtmgpghoamapfgaaGreatDoor
set_option linter.unusedVariables false
set_option maxRecDepth 100000
set_option maxHeartbeats 16000000
set_option linter.unusedSimpArgs false
open Go Go.RowKit Go.Shelf
theorem nQ (n:Int) (m:Nat) (hm:m=n.natAbs) (hb:m<=999999999999999) (w:World):CP 270 #[I6 n] w fun e w'=>e=.returned (I6 (m:Int))/\w=w':=by
 have w1:IntKind.i64.wrap (-n) = -n:=IntWalk.i64_in _ ga;have emax:max n (-n)=(m:Int):=by omega
 clear hm hb;go_enter Tryz.func270,Tryz.ntmps270
 go_wp2;go_ret;exact⟨rfl,rfl⟩
theorem aEp (m s:Nat) (hs:1<=s) (t:ByteArray) (ht:t=⟨(Lib.decDigits m).toArray⟩) (c:Nat) (hc:c=s+1-t.size) (z:ByteArray) (hz:z=⟨(Lib.repeatL (⟨#[48]⟩:ByteArray).data.toList c).toArray⟩) (u:ByteArray) (hu:u=z++t) (p:Nat) (hp:p=u.size-s) :
 u.extract 0 p++⟨#[46]⟩++u.extract p u.size=⟨(fO m s).toArray⟩:=by
 have hts:t.size=(Lib.decDigits m).length:=by rw[ht,aU]
 have hr:Lib.repeatL (⟨#[48]⟩:ByteArray).data.toList c=List.replicate c 48:=aB8 48 c;have hul:u=⟨(List.replicate c 48++Lib.decDigits m).toArray⟩:=by rw[hu,hz,ht,bA,hr]
 have hus:u.size=c+(Lib.decDigits m).length:=by rw[hul,aU];simp
 have hs0:¬ s=0:=by omega
 rw[fO,if_neg hs0,<-hts,<-hc,hts,<-hus,<-hp,hul,ByteArray.extract_mk,ByteArray.extract_mk,show(⟨#[46]⟩:ByteArray)=⟨[46].toArray⟩ from rfl,bA,bA];congr 2;rw[List.append_assoc];congr 1;rw[aU,List.take_of_length_le gd];rfl
theorem iK (n:Int) (s:Nat) (h1:n.natAbs<=999999999999999) (h2:s<=12) (w:World):CP 269 #[.agg #[I6 n,I6 (s:Int)]] w (Rt (I6 0) w):=by
 obtain⟨m,hm⟩:=ez n.natAbs
 have HA:=hid (fun w=>nQ n m hm ga w);have k1:¬ (999999999999999:Int)<(m:Int):=by omega
 have k2:¬ n < -999999999999999:=by omega
 have k3:¬ (s:Int)<0:=by omega
 have k4:¬ (12:Int)<(s:Int):=by omega
 clear hm h1 h2;go_enter Tryz.func269,Tryz.ntmps269
 go_wp2_with (go_at_call 270;refine(HA.out _).mono ?_;rintro e w' ⟨rfl,rfl⟩)
 go_ret;exact⟨rfl,(bR w).alloc lr _⟩
theorem aCt (n:Int) (m s:Nat) (hm:m=n.natAbs) (hmb:m<=999999999999999) (hs:s=0) (hneg:0<=n) (w:World) (hT:Tabs w) :
 CP 217 #[.agg #[I6 n,I6 (s:Int)]] w (Rt (.tuple #[.string ⟨(cM n s).toArray⟩,I6 0]) w):=by
 have HCK:=hid (iK n s ga ga (w.alloc (.cells #[I6 n,I6 (s:Int)] 221)));have HAB:=hid (fun w=>nQ n m hm ga w);have hlen:=bU m 15 ga gc;obtain⟨t,ht⟩:=ez (aF (m:Int):ByteArray)
 have htD:t=⟨(Lib.decDigits m).toArray⟩:=by rw[ht];unfold aF;rw[Lib.itoa_nonneg]
 have hts:t.size=(Lib.decDigits m).length:=by rw[htD,aU]
 have hI:=fun w hT=>(bZ (m:Int) ⟨by omega,by omega⟩ w hT)
 rw[<-ht] at hI;have HI:=hid hI;have HTD:=hid htD;have HTS:=hid hts;have htz:t.size<=15:=by omega
 have hb0:BB w (w.alloc (.cells #[I6 n,I6 (s:Int)] 221)):=(bR w).alloc lr _;have HB0:=hid hb0;have HX0:=hid (heap_alloc_new w (.cells #[I6 n,I6 (s:Int)] 221));have HC:=hid (fun (w':World) (h:w'.heap[w.heap.size]?=some (.cells #[I6 n,I6 (s:Int)] 221))=>(show Ce w' w.heap.size 0 (I6 n)/\Ce w' w.heap.size 1 (I6 (s:Int)) from⟨aA h 0,aA h 1⟩));have hn0:¬ n<0:=by omega
 have hs0:¬ (0:Int)<(s:Int):=by omega
 have HM:=hid hm;have HMB:=hid hmb;have HS:=hid hs;have HNG:=hid hneg;clear hm hmb hs hneg hI ht htD hts hlen hb0;go_enter Tryz.func217,Tryz.ntmps217
 go_wp2_with (first
  | (fail)
  | (go_at_call 35;refine(HI.out w1 (hT.below (HB0.out.trans (HB1.out.mono gd)))).mono ?_;rintro e w2 ⟨rfl,hb2⟩;have HX2:=hid (aB hb2 HX1.out);have HB2:=hid hb2;have hc2:=HC.out w2 HX2.out;clear hb2)
  | (go_at_call 270;refine(HAB.out _).mono ?_;rintro e w' ⟨rfl,rfl⟩)
  | (go_at_call 269;refine HCK.out.mono ?_;rintro e w1 ⟨rfl,hb1⟩;have HX1:=hid (aB hb1 HX0.out);have HB1:=hid hb1;have hc1:=HC.out w1 HX1.out;clear hb1))
 refine bodyPost_ret (v:=.tuple #[.string t,I6 0]) (by simp[results,Tryz.results217,go_sem]) rfl ?_;refine⟨?_,(HB0.out.trans (HB1.out.mono gd)).trans (HB2.out.mono (HB0.out.trans (HB1.out.mono gd)).size)⟩;have hs':=HS.out;subst hs';rw[HTD.out];unfold cM fO;rw[<-HM.out,if_neg ga];rfl
theorem aAo (n:Int) (m s:Nat) (hm:m=n.natAbs) (hmb:m<=999999999999999) (hs:s=0) (hneg:n<0) (w:World) (hT:Tabs w) :
 CP 217 #[.agg #[I6 n,I6 (s:Int)]] w (Rt (.tuple #[.string ⟨(cM n s).toArray⟩,I6 0]) w):=by
 have HCK:=hid (iK n s ga ga (w.alloc (.cells #[I6 n,I6 (s:Int)] 221)));have HAB:=hid (fun w=>nQ n m hm ga w);have hlen:=bU m 15 ga gc;obtain⟨t,ht⟩:=ez (aF (m:Int):ByteArray)
 have htD:t=⟨(Lib.decDigits m).toArray⟩:=by rw[ht];unfold aF;rw[Lib.itoa_nonneg]
 have hts:t.size=(Lib.decDigits m).length:=by rw[htD,aU]
 have hI:=fun w hT=>(bZ (m:Int) ⟨by omega,by omega⟩ w hT)
 rw[<-ht] at hI;have HI:=hid hI;have HTD:=hid htD;have HTS:=hid hts;have htz:t.size<=15:=by omega
 have hb0:BB w (w.alloc (.cells #[I6 n,I6 (s:Int)] 221)):=(bR w).alloc lr _;have HB0:=hid hb0;have HX0:=hid (heap_alloc_new w (.cells #[I6 n,I6 (s:Int)] 221));have HC:=hid (fun (w':World) (h:w'.heap[w.heap.size]?=some (.cells #[I6 n,I6 (s:Int)] 221))=>(show Ce w' w.heap.size 0 (I6 n)/\Ce w' w.heap.size 1 (I6 (s:Int)) from⟨aA h 0,aA h 1⟩));have hn0:n<0:=by omega
 have hs0:¬ (0:Int)<(s:Int):=by omega
 have HM:=hid hm;have HMB:=hid hmb;have HS:=hid hs;have HNG:=hid hneg;clear hm hmb hs hneg hI ht htD hts hlen hb0;go_enter Tryz.func217,Tryz.ntmps217
 go_wp2_with (first
  | (fail)
  | (go_at_call 35;refine(HI.out w1 (hT.below (HB0.out.trans (HB1.out.mono gd)))).mono ?_;rintro e w2 ⟨rfl,hb2⟩;have HX2:=hid (aB hb2 HX1.out);have HB2:=hid hb2;have hc2:=HC.out w2 HX2.out;clear hb2)
  | (go_at_call 270;refine(HAB.out _).mono ?_;rintro e w' ⟨rfl,rfl⟩)
  | (go_at_call 269;refine HCK.out.mono ?_;rintro e w1 ⟨rfl,hb1⟩;have HX1:=hid (aB hb1 HX0.out);have HB1:=hid hb1;have hc1:=HC.out w1 HX1.out;clear hb1))
 refine bodyPost_ret (v:=.tuple #[.string (⟨#[45]⟩++t),I6 0]) (by simp[results,Tryz.results217,go_sem]) rfl ?_;refine⟨?_,(HB0.out.trans (HB1.out.mono gd)).trans (HB2.out.mono (HB0.out.trans (HB1.out.mono gd)).size)⟩;have hs':=HS.out;subst hs';rw[HTD.out];unfold cM fO;rw[<-HM.out,if_pos hn0];rw[show(⟨#[45]⟩:ByteArray)=⟨[45].toArray⟩ from rfl,bA];rfl
theorem aCu (n:Int) (m s:Nat) (hm:m=n.natAbs) (hmb:m<=999999999999999) (hs:1<=s/\s<=12) (hneg:0<=n) (w:World) (hT:Tabs w) :
 CP 217 #[.agg #[I6 n,I6 (s:Int)]] w (Rt (.tuple #[.string ⟨(cM n s).toArray⟩,I6 0]) w):=by
 have HCK:=hid (iK n s ga ga (w.alloc (.cells #[I6 n,I6 (s:Int)] 221)));have HAB:=hid (fun w=>nQ n m hm ga w);have hlen:=bU m 15 ga gc;obtain⟨t,ht⟩:=ez (aF (m:Int):ByteArray)
 have htD:t=⟨(Lib.decDigits m).toArray⟩:=by rw[ht];unfold aF;rw[Lib.itoa_nonneg]
 have hts:t.size=(Lib.decDigits m).length:=by rw[htD,aU]
 have hI:=fun w hT=>(bZ (m:Int) ⟨by omega,by omega⟩ w hT)
 rw[<-ht] at hI;have HI:=hid hI;have HTD:=hid htD;have HTS:=hid hts;have htz:t.size<=15:=by omega
 have hb0:BB w (w.alloc (.cells #[I6 n,I6 (s:Int)] 221)):=(bR w).alloc lr _;have HB0:=hid hb0;have HX0:=hid (heap_alloc_new w (.cells #[I6 n,I6 (s:Int)] 221));have HC:=hid (fun (w':World) (h:w'.heap[w.heap.size]?=some (.cells #[I6 n,I6 (s:Int)] 221))=>(show Ce w' w.heap.size 0 (I6 n)/\Ce w' w.heap.size 1 (I6 (s:Int)) from⟨aA h 0,aA h 1⟩));have hn0:¬ n<0:=by omega
 have hs0:(0:Int)<(s:Int):=by omega
 have HM:=hid hm;have HMB:=hid hmb;have HS:=hid hs;have HNG:=hid hneg;clear hm hmb hs hneg hI ht htD hts hlen hb0;obtain⟨c,hc⟩:=ez (s+1-t.size:Nat)
 have wsx:IntKind.i64.wrap ((s:Int)+1)=(s:Int)+1:=IntWalk.i64_in _ (by have:=HS.out;omega);have wsy:IntKind.i64.wrap ((s:Int)+1-(t.size:Int))=(s:Int)+1-(t.size:Int):=IntWalk.i64_in _ (by have:=HS.out;omega);have emax:max 0 ((s:Int)+1-(t.size:Int))=(c:Int):=by omega
 have hcz:c<=13:=by have:=HS.out;omega
 obtain⟨z,hz⟩:=ez (⟨(Lib.repeatL (⟨#[48]⟩:ByteArray).data.toList c).toArray⟩:ByteArray)
 have hR:=fun w=>Tryz.strings_Repeat ⟨#[48]⟩ c w ga (by have:(⟨#[48]⟩:ByteArray).size=1:=rfl;rw[this];omega);rw[<-hz] at hR;have HR:=hid hR;have hzs:z.size=c:=by rw[hz,aU,Lib.repeatL_length];simp
 have hg:z.size+t.size<=9223372036854775807:=by omega
 have HZ:=hid hz;obtain⟨u,hu⟩:=ez (z++t:ByteArray)
 have huz:u.size=z.size+t.size:=by rw[hu];simp
 have hus:s+1<=u.size/\u.size<=28:=by omega
 have HU:=hid hu;have HCC:=hid hc;obtain⟨p,hp⟩:=ez (u.size-s:Nat)
 have wp:IntKind.i64.wrap ((u.size:Int)-(s:Int))=(p:Int):=by rw[IntWalk.i64_in _ ga];omega
 have p0:(0:Int)<=(p:Int):=by omega
 have p1:(p:Int)<=(u.size:Int):=by omega
 have p2:p<=u.size:=by omega
 obtain⟨x1,hx1⟩:∃x,u.extract 0 p=x:=⟨_,rfl⟩
 obtain⟨x2,hx2⟩:∃x,u.extract p u.size=x:=⟨_,rfl⟩
 have z1:x1.size<=28:=by rw[<-hx1,ByteArray.size_extract];omega
 have z2:x2.size<=28:=by rw[<-hx2,ByteArray.size_extract];omega
 have g1:x1.size+1<=9223372036854775807:=by omega
 have g2:x1.size+1+x2.size<=9223372036854775807:=by omega
 have g3:1+(x1.size+1+x2.size)<=9223372036854775807:=by omega
 have e1:(9223372036854775807<x1.size+1)=False:=eq_false ga;have e2:(9223372036854775807<x1.size+1+x2.size)=False:=eq_false ga;have HG:=hid (show x1++⟨#[46]⟩++x2=⟨(fO m s).toArray⟩ by rw[<-hx1,<-hx2];exact aEp m s (by have:=HS.out;omega) t HTD.out c hc z hz u hu p hp);clear hR hz hc hu hp z1 z2 huz;go_enter Tryz.func217,Tryz.ntmps217
 go_upto_region 7 with (first
  | (go_at_call 245;refine(HR.out _).mono ?_;rintro e w3 ⟨rfl,hb3⟩;have HX3:=hid (aB hb3 HX2.out);have HB3:=hid hb3;have hc4:=HC.out w3 HX3.out;clear hb3)
  | (go_at_call 35;refine(HI.out w1 (hT.below (HB0.out.trans (HB1.out.mono gd)))).mono ?_;rintro e w2 ⟨rfl,hb2⟩;have HX2:=hid (aB hb2 HX1.out);have HB2:=hid hb2;have hc2:=HC.out w2 HX2.out;clear hb2)
  | (go_at_call 270;refine(HAB.out _).mono ?_;rintro e w' ⟨rfl,rfl⟩)
  | (go_at_call 269;refine HCK.out.mono ?_;rintro e w1 ⟨rfl,hb1⟩;have HX1:=hid (aB hb1 HX0.out);have HB1:=hid hb1;have hc1:=HC.out w1 HX1.out;clear hb1))
 rw[<-HU.out];refine aG 16 (fun w'=>w'.heap[w.heap.size]?=some (.cells #[I6 n,I6 (s:Int)] 221)) ge ge ge gc (HX3.out) (fun hS=>?_);simp only[zdm,zdn,zdp,zdq];refine tc 0 HC ?_;refine tc 1 HC ?_;refine tc 2 HC ?_;refine tc 3 HC ?_;refine tc 4 HC ?_;refine tc 5 HC ?_;refine tc 6 HC ?_;refine tc 7 HC ?_;refine tc 8 HC ?_;refine tc 9 HC ?_;refine tc 10 HC ?_;refine tc 11 HC ?_;refine tc 12 HC ?_;refine tc 13 HC ?_;refine tc 14 HC ?_;refine tc 15 HC ?_;refine wpAnyH_done ge ?_ _
 (try dsimp only)
 have HXS:=hid hS;have hc9:=HC.out _ hS;clear hS;go_wp2;refine bodyPost_ret (v:=.tuple #[.string (x1++⟨#[46]⟩++x2),I6 0]) (by simp[results,Tryz.results217,go_sem]) rfl ?_;have b1:=HB0.out.trans (HB1.out.mono gd);have b2:=b1.trans (HB2.out.mono b1.size);have b3:=b2.trans (HB3.out.mono b2.size);refine⟨?_,b3.drew⟩;rw[HG.out];unfold cM;rw[<-HM.out,if_neg ga]
 skip
theorem aAp (n:Int) (m s:Nat) (hm:m=n.natAbs) (hmb:m<=999999999999999) (hs:1<=s/\s<=12) (hneg:n<0) (w:World) (hT:Tabs w) :
 CP 217 #[.agg #[I6 n,I6 (s:Int)]] w (Rt (.tuple #[.string ⟨(cM n s).toArray⟩,I6 0]) w):=by
 have HCK:=hid (iK n s ga ga (w.alloc (.cells #[I6 n,I6 (s:Int)] 221)));have HAB:=hid (fun w=>nQ n m hm ga w);have hlen:=bU m 15 ga gc;obtain⟨t,ht⟩:=ez (aF (m:Int):ByteArray)
 have htD:t=⟨(Lib.decDigits m).toArray⟩:=by rw[ht];unfold aF;rw[Lib.itoa_nonneg]
 have hts:t.size=(Lib.decDigits m).length:=by rw[htD,aU]
 have hI:=fun w hT=>(bZ (m:Int) ⟨by omega,by omega⟩ w hT)
 rw[<-ht] at hI;have HI:=hid hI;have HTD:=hid htD;have HTS:=hid hts;have htz:t.size<=15:=by omega
 have hb0:BB w (w.alloc (.cells #[I6 n,I6 (s:Int)] 221)):=(bR w).alloc lr _;have HB0:=hid hb0;have HX0:=hid (heap_alloc_new w (.cells #[I6 n,I6 (s:Int)] 221));have HC:=hid (fun (w':World) (h:w'.heap[w.heap.size]?=some (.cells #[I6 n,I6 (s:Int)] 221))=>(show Ce w' w.heap.size 0 (I6 n)/\Ce w' w.heap.size 1 (I6 (s:Int)) from⟨aA h 0,aA h 1⟩));have hn0:n<0:=by omega
 have hs0:(0:Int)<(s:Int):=by omega
 have HM:=hid hm;have HMB:=hid hmb;have HS:=hid hs;have HNG:=hid hneg;clear hm hmb hs hneg hI ht htD hts hlen hb0;obtain⟨c,hc⟩:=ez (s+1-t.size:Nat)
 have wsx:IntKind.i64.wrap ((s:Int)+1)=(s:Int)+1:=IntWalk.i64_in _ (by have:=HS.out;omega);have wsy:IntKind.i64.wrap ((s:Int)+1-(t.size:Int))=(s:Int)+1-(t.size:Int):=IntWalk.i64_in _ (by have:=HS.out;omega);have emax:max 0 ((s:Int)+1-(t.size:Int))=(c:Int):=by omega
 have hcz:c<=13:=by have:=HS.out;omega
 obtain⟨z,hz⟩:=ez (⟨(Lib.repeatL (⟨#[48]⟩:ByteArray).data.toList c).toArray⟩:ByteArray)
 have hR:=fun w=>Tryz.strings_Repeat ⟨#[48]⟩ c w ga (by have:(⟨#[48]⟩:ByteArray).size=1:=rfl;rw[this];omega);rw[<-hz] at hR;have HR:=hid hR;have hzs:z.size=c:=by rw[hz,aU,Lib.repeatL_length];simp
 have hg:z.size+t.size<=9223372036854775807:=by omega
 have HZ:=hid hz;obtain⟨u,hu⟩:=ez (z++t:ByteArray)
 have huz:u.size=z.size+t.size:=by rw[hu];simp
 have hus:s+1<=u.size/\u.size<=28:=by omega
 have HU:=hid hu;have HCC:=hid hc;obtain⟨p,hp⟩:=ez (u.size-s:Nat)
 have wp:IntKind.i64.wrap ((u.size:Int)-(s:Int))=(p:Int):=by rw[IntWalk.i64_in _ ga];omega
 have p0:(0:Int)<=(p:Int):=by omega
 have p1:(p:Int)<=(u.size:Int):=by omega
 have p2:p<=u.size:=by omega
 obtain⟨x1,hx1⟩:∃x,u.extract 0 p=x:=⟨_,rfl⟩
 obtain⟨x2,hx2⟩:∃x,u.extract p u.size=x:=⟨_,rfl⟩
 have z1:x1.size<=28:=by rw[<-hx1,ByteArray.size_extract];omega
 have z2:x2.size<=28:=by rw[<-hx2,ByteArray.size_extract];omega
 have g1:x1.size+1<=9223372036854775807:=by omega
 have g2:x1.size+1+x2.size<=9223372036854775807:=by omega
 have g3:1+(x1.size+1+x2.size)<=9223372036854775807:=by omega
 have e1:(9223372036854775807<x1.size+1)=False:=eq_false ga;have e2:(9223372036854775807<x1.size+1+x2.size)=False:=eq_false ga;have HG:=hid (show x1++⟨#[46]⟩++x2=⟨(fO m s).toArray⟩ by rw[<-hx1,<-hx2];exact aEp m s (by have:=HS.out;omega) t HTD.out c hc z hz u hu p hp);clear hR hz hc hu hp z1 z2 huz;go_enter Tryz.func217,Tryz.ntmps217
 go_upto_region 7 with (first
  | (go_at_call 245;refine(HR.out _).mono ?_;rintro e w3 ⟨rfl,hb3⟩;have HX3:=hid (aB hb3 HX2.out);have HB3:=hid hb3;have hc4:=HC.out w3 HX3.out;clear hb3)
  | (go_at_call 35;refine(HI.out w1 (hT.below (HB0.out.trans (HB1.out.mono gd)))).mono ?_;rintro e w2 ⟨rfl,hb2⟩;have HX2:=hid (aB hb2 HX1.out);have HB2:=hid hb2;have hc2:=HC.out w2 HX2.out;clear hb2)
  | (go_at_call 270;refine(HAB.out _).mono ?_;rintro e w' ⟨rfl,rfl⟩)
  | (go_at_call 269;refine HCK.out.mono ?_;rintro e w1 ⟨rfl,hb1⟩;have HX1:=hid (aB hb1 HX0.out);have HB1:=hid hb1;have hc1:=HC.out w1 HX1.out;clear hb1))
 rw[<-HU.out];refine aG 16 (fun w'=>w'.heap[w.heap.size]?=some (.cells #[I6 n,I6 (s:Int)] 221)) ge ge ge gc (HX3.out) (fun hS=>?_);simp only[zdm,zdn,zdp,zdq];refine tc 0 HC ?_;refine tc 1 HC ?_;refine tc 2 HC ?_;refine tc 3 HC ?_;refine tc 4 HC ?_;refine tc 5 HC ?_;refine tc 6 HC ?_;refine tc 7 HC ?_;refine tc 8 HC ?_;refine tc 9 HC ?_;refine tc 10 HC ?_;refine tc 11 HC ?_;refine tc 12 HC ?_;refine tc 13 HC ?_;refine tc 14 HC ?_;refine tc 15 HC ?_;refine wpAnyH_done ge ?_ _
 (try dsimp only)
 have HXS:=hid hS;have hc9:=HC.out _ hS;clear hS;go_wp2;refine bodyPost_ret (v:=.tuple #[.string (⟨#[45]⟩++(x1++⟨#[46]⟩++x2)),I6 0]) (by simp[results,Tryz.results217,go_sem]) rfl ?_;have b1:=HB0.out.trans (HB1.out.mono gd);have b2:=b1.trans (HB2.out.mono b1.size);have b3:=b2.trans (HB3.out.mono b2.size);refine⟨?_,b3.drew⟩;rw[HG.out];unfold cM;rw[<-HM.out,if_pos hn0];rw[show(⟨#[45]⟩:ByteArray)=⟨[45].toArray⟩ from rfl,bA];rfl
theorem tS (n:Int) (s:Nat) (h1:n.natAbs<=999999999999999) (h2:s<=12) (w:World) (hT:Tabs w) :
 CP 217 #[.agg #[I6 n,I6 (s:Int)]] w (Rt (.tuple #[.string ⟨(cM n s).toArray⟩,I6 0]) w):=by
 by_cases hs:s=0<;>by_cases hn:n<0
 ·exact aAo n _ s rfl h1 hs hn w hT
 ·exact aCt n _ s rfl h1 hs ga w hT
 ·exact aAp n _ s rfl h1 ga hn w hT
 ·exact aCu n _ s rfl h1 ga ga w hT
end Go.Proofs.YtmgpghoamapfgaaGreatDoor
