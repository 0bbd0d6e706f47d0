/- A part. -/
import Derived.Test.YtmgpghoamapfgaaGreatDoorST13Mrg
import Derived.Test.YtmgpghoamapfgaaGreatDoorST14Mrg
namespace Go.Proofs.YtmgpghoamapfgaaGreatDoor
set_option linter.unusedVariables false
set_option maxRecDepth 100000
set_option maxHeartbeats 16000000
set_option linter.unusedSimpArgs false
section
open Go Go.RowKit Go.Shelf
theorem aD8 (n:Int) (s:Nat) (h1:n.natAbs<=999999999999999) (h2:s<=12) (w:World) (hT:Tabs w):CP 133 #[I6 n,I6 (s:Int)] w (Rt (.string ⟨(cM n s).toArray⟩) w):=by
 have HD:=hid (fun w hT=>tS n s h1 h2 w hT);clear h1 h2;obtain⟨t,ht⟩:=ez (⟨(cM n s).toArray⟩:ByteArray)
 rw[<-ht] at HD ⊢;clear ht;go_enter Tryz.func133,Tryz.ntmps133
 go_wp2_with (go_at_call 217;refine(HD.out _ hT).mono ?_;rintro e w1 ⟨rfl,hb1⟩)
 go_ret;exact⟨rfl,hb1⟩
section
variable (s:Int) (t:ByteArray) (la:Option Addr) (ll lc:Nat) (fa:Option Addr) (fl fc:Nat) (w:World)
set_option maxRecDepth 100000
set_option maxHeartbeats 4000000
theorem aFt (b:Int) :
 CP 74 #[.agg #[I6 1,I6 b,I6 s,.string t,.slice la ll lc,.slice fa fl fc]] w (Rt (.string ⟨(Lib.formatBool (b==1)).toArray⟩) w):=by
 go_enter Tryz.func74,Tryz.ntmps74
 go_wp2_with (go_at_call 132;refine(Tryz.strconv_FormatBool _ _).mono ?_;rintro e w' ⟨rfl,rfl⟩)
 go_ret;exact⟨rfl,(bR w).alloc lr _⟩
theorem aFs (i:Int) (hi:I64 i) (hT:Tabs w) :
 CP 74 #[.agg #[I6 2,I6 i,I6 s,.string t,.slice la ll lc,.slice fa fl fc]] w (Rt (.string (aF i)) w):=by
 have hb0:BB w (w.alloc (.cells #[I6 2,I6 i,I6 s,.string t,.slice la ll lc,.slice fa fl fc] 36)):=(bR w).alloc lr _;have HI:=hid (bZ i hi _ (hT.below hb0));have HB0:=hid hb0;clear hb0;go_enter Tryz.func74,Tryz.ntmps74
 go_wp2_with (go_at_call 35;refine HI.out.mono ?_;rintro e w1 ⟨rfl,hb1⟩)
 go_ret;exact⟨rfl,HB0.out.trans (hb1.mono HB0.out.size)⟩
theorem aFr (i:Int) (z:Nat) (h1:i.natAbs<=999999999999999) (h2:z<=12) (hz:s=(z:Int)) (hT:Tabs w) :
 CP 74 #[.agg #[I6 3,I6 i,I6 s,.string t,.slice la ll lc,.slice fa fl fc]] w (Rt (.string ⟨(if s=0 then cM i s.toNat++[100] else cM i s.toNat).toArray⟩) w):=by
 subst hz;have hb0:BB w (w.alloc (.cells #[I6 3,I6 i,I6 (z:Int),.string t,.slice la ll lc,.slice fa fl fc] 36)):=(bR w).alloc lr _;have hN:=aD8 i z h1 h2 _ (hT.below hb0);have hlen:=aEr i z h2 ga;obtain⟨x,hx⟩:=ez (⟨(cM i z).toArray⟩:ByteArray)
 have hxz:x.size<=41:=by rw[hx,aU];exact hlen
 have hz1:x.size+1<=9223372036854775807:=by omega
 rw[<-hx] at hN;have HN:=hid hN;have HB0:=hid hb0;have HE:=hid hb0;have HA:=hid (heap_alloc_new w (.cells #[I6 3,I6 i,I6 (z:Int),.string t,.slice la ll lc,.slice fa fl fc] 36));have HX:=hid hx;by_cases h0:z=0
 ·have hz0:((z:Int)==0)=true:=by simp;omega
  have hF:(if (z:Int)=0 then cM i (z:Int).toNat++[100] else cM i (z:Int).toNat)=cM i z++[100]:=by rw[if_pos ga];rfl
  rw[hF];have HF:Hid (x++⟨#[100]⟩=(⟨(cM i z++[100]).toArray⟩:ByteArray)):=hid (by rw[hx,show(⟨#[100]⟩:ByteArray)=⟨[100].toArray⟩ from rfl,bA]);clear hb0 hN hx hxz h1 h2 hlen hF h0;go_enter Tryz.func74,Tryz.ntmps74
  go_wp2_with (go_at_call 133;refine HN.out.mono ?_;rintro e w1 ⟨rfl,hb1⟩;have hq:=aB hb1 HA.out;have q2:=aA hq 2;(try dsimp only at q2))
  go_ret;exact⟨by rw[<-HF.out];rfl,HB0.out.trans (hb1.mono HB0.out.size)⟩
 ·have hz0:((z:Int)==0)=false:=by simp;omega
  have hF:(if (z:Int)=0 then cM i (z:Int).toNat++[100] else cM i (z:Int).toNat)=cM i z:=by rw[if_neg ga];rfl
  rw[hF];clear hb0 hN hx hxz h1 h2 hlen hF h0;go_enter Tryz.func74,Tryz.ntmps74
  go_wp2_with (go_at_call 133;refine HN.out.mono ?_;rintro e w1 ⟨rfl,hb1⟩;have hq:=aB hb1 HA.out;have q2:=aA hq 2;(try dsimp only at q2))
  go_ret;exact⟨by rw[<-HX.out];rfl,HB0.out.trans (hb1.mono HB0.out.size)⟩
theorem aFq (i:Int) (hs:t.size<=1000000) (hT:Tabs w) (hZ:ZTab w) :
 CP 74 #[.agg #[I6 4,I6 i,I6 s,.string t,.slice la ll lc,.slice fa fl fc]] w (Rt (.string ⟨(aP t.data.toList).toArray⟩) w):=by
 have hb0:BB w (w.alloc (.cells #[I6 4,I6 i,I6 s,.string t,.slice la ll lc,.slice fa fl fc] 36)):=(bR w).alloc lr _;have HI:=hid (mZ t _ hs (hT.below hb0) (hZ.below hb0));have HB0:=hid hb0;clear hb0;go_enter Tryz.func74,Tryz.ntmps74
 go_wp2_with (go_at_call 134;refine HI.out.mono ?_;rintro e w1 ⟨rfl,hb1⟩)
 go_ret;exact⟨rfl,HB0.out.trans (hb1.mono HB0.out.size)⟩
theorem aFp (i:Int) (hs:t.size<=1000000) :
 CP 74 #[.agg #[I6 5,I6 i,I6 s,.string t,.slice la ll lc,.slice fa fl fc]] w (Rt (.string ⟨(gL t.data.toList).toArray⟩) w):=by
 have hb0:BB w (w.alloc (.cells #[I6 5,I6 i,I6 s,.string t,.slice la ll lc,.slice fa fl fc] 36)):=(bR w).alloc lr _;have HI:=hid (aD5 t (w.alloc (.cells #[I6 5,I6 i,I6 s,.string t,.slice la ll lc,.slice fa fl fc] 36)) hs);have HB0:=hid hb0;clear hb0;go_enter Tryz.func74,Tryz.ntmps74
 go_wp2_with (go_at_call 135;refine HI.out.mono ?_;rintro e w1 ⟨rfl,hb1⟩)
 go_ret;exact⟨rfl,HB0.out.trans (hb1.mono HB0.out.size)⟩
theorem aFo (i:Int) (n:Nat) (hd:i+719162=n) (hn:n<=3652058) (hT:Tabs w) (hZ:ZTab w) :
 CP 74 #[.agg #[I6 6,I6 i,I6 s,.string t,.slice la ll lc,.slice fa fl fc]] w (Rt (.string ⟨(100 :: 97 :: 116 :: 101 :: 32 :: aP (bY n)).toArray⟩) w):=by
 have hb0:BB w (w.alloc (.cells #[I6 6,I6 i,I6 s,.string t,.slice la ll lc,.slice fa fl fc] 36)):=(bR w).alloc lr _;have hlen:=oD n hn;have hI:=qW i n hd hn _ (hT.below hb0);obtain⟨x,hx⟩:=ez (⟨(bY n).toArray⟩:ByteArray)
 have hxz:x.size=10:=by rw[hx,aU,hlen]
 rw[<-hx] at hI;have hxd:x.data.toList=bY n:=by rw[hx]
 have HQ:=hid (fun w' (h:BB w w')=>mZ x w' ga (hT.below h) (hZ.below h));rw[hxd] at HQ;obtain⟨y,hy⟩:=ez (⟨(aP (bY n)).toArray⟩:ByteArray)
 have hyz:y.size<=100:=by rw[hy,aU];have:=jX (bY n);omega
 have hz1:5+y.size<=9223372036854775807:=by omega
 rw[<-hy] at HQ;have HF:Hid ((⟨#[100,97,116,101,32]⟩:ByteArray)++y=⟨(100 :: 97 :: 116 :: 101 :: 32 :: aP (bY n)).toArray⟩):=hid (by rw[hy,show(⟨#[100,97,116,101,32]⟩:ByteArray)=⟨[100,97,116,101,32].toArray⟩ from rfl,bA];rfl);have HI:=hid hI;have HB0:=hid hb0;clear hb0 hI hlen hx hxz hxd hy hyz hd hn hT hZ;go_enter Tryz.func74,Tryz.ntmps74
 go_wp2_with (first
  | (go_at_call 134;refine(HQ.out w1 (HB0.out.trans (hb1.mono HB0.out.size))).mono ?_;rintro e w2 ⟨rfl,hb2⟩)
  | (go_at_call 136;refine HI.out.mono ?_;rintro e w1 ⟨rfl,hb1⟩))
 go_ret;have h2:=HB0.out.trans (hb1.mono HB0.out.size);exact⟨by rw[<-HF.out];rfl,h2.trans (hb2.mono h2.size)⟩
theorem aFn (i:Int) (n:Nat) (hd:i+62135596800000=n) (hn:n<=315537897599999) (hT:Tabs w) (hZ:ZTab w) :
 CP 74 #[.agg #[I6 7,I6 i,I6 s,.string t,.slice la ll lc,.slice fa fl fc]] w (Rt (.string ⟨(116 :: 105 :: 109 :: 101 :: 32 :: aP (cH n)).toArray⟩) w):=by
 have hb0:BB w (w.alloc (.cells #[I6 7,I6 i,I6 s,.string t,.slice la ll lc,.slice fa fl fc] 36)):=(bR w).alloc lr _;have hlen:=yF n hn;have hI:=wW i n hd hn _ (hT.below hb0);obtain⟨x,hx⟩:=ez (⟨(cH n).toArray⟩:ByteArray)
 have hxz:x.size<=25:=by rw[hx,aU];exact hlen
 rw[<-hx] at hI;have hxd:x.data.toList=cH n:=by rw[hx]
 have HQ:=hid (fun w' (h:BB w w')=>mZ x w' ga (hT.below h) (hZ.below h));rw[hxd] at HQ;obtain⟨y,hy⟩:=ez (⟨(aP (cH n)).toArray⟩:ByteArray)
 have hyz:y.size<=200:=by rw[hy,aU];have:=jX (cH n);omega
 have hz1:5+y.size<=9223372036854775807:=by omega
 rw[<-hy] at HQ;have HF:Hid ((⟨#[116,105,109,101,32]⟩:ByteArray)++y=⟨(116 :: 105 :: 109 :: 101 :: 32 :: aP (cH n)).toArray⟩):=hid (by rw[hy,show(⟨#[116,105,109,101,32]⟩:ByteArray)=⟨[116,105,109,101,32].toArray⟩ from rfl,bA];rfl);have HI:=hid hI;have HB0:=hid hb0;clear hb0 hI hlen hx hxz hxd hy hyz hd hn hT hZ;go_enter Tryz.func74,Tryz.ntmps74
 go_wp2_with (first
  | (go_at_call 134;refine(HQ.out w1 (HB0.out.trans (hb1.mono HB0.out.size))).mono ?_;rintro e w2 ⟨rfl,hb2⟩)
  | (go_at_call 137;refine HI.out.mono ?_;rintro e w1 ⟨rfl,hb1⟩))
 go_ret;have h2:=HB0.out.trans (hb1.mono HB0.out.size);exact⟨by rw[<-HF.out];rfl,h2.trans (hb2.mono h2.size)⟩
end
end
section
open Go Go.RowKit Go.Shelf
attribute [local go_sem ↓] Go.wp_at_zero Go.wp_at_succ
theorem aAl (i0 s0:Int) (t0:ByteArray) (la:Option Addr) (ll lc:Nat) (fa:Option Addr) (fl fc:Nat) (d:Val) (ns:List ByteArray) (fs:List Val) (w:World) (hd:IsVal (· < w.heap.size) w ⟨10,i0,s0,t0,la,ll,lc,fa,fl,fc⟩ (.mk 10 i0 s0 t0 [d] ns fs))
 (y:ByteArray) (hy:y.size<=100000000) (ht:t0.size<=1000)
 (htx:∀(x:VC) (w':World),BB w w'->IsVal (· < w'.heap.size) w' x d->CP 74 #[.agg #[I6 x.k,I6 x.i,I6 x.s,.string x.t,.slice x.la x.ll x.lc,.slice x.fa x.fl x.fc]] w' (Rt (.string y) w')) :
 CP 74 #[.agg #[I6 10,I6 i0,I6 s0,.string t0,.slice la ll lc,.slice fa fl fc]] w (Rt (.string (t0++⟨#[40]⟩++y++⟨#[41]⟩)) w):=by
 obtain⟨⟨_,_,_,_,hok,hll,_,_⟩,hv,_⟩:=hd;dsimp only at hll hv;have hll1:ll=1:=hll;subst hll1;clear hok hll;rcases hv with h0 | ⟨b,o,rfl,hb,hvs⟩
 ·cases h0
 obtain⟨x,hx,hxv⟩:=hvs.get 0 gd;rw[Nat.zero_mul,Nat.add_zero] at hx;simp only[List.getElem_cons_zero] at hxv;obtain⟨w0,hw0⟩:=ez (w.alloc (.cells #[I6 10,I6 i0,I6 s0,.string t0,.slice (some ⟨b,o,none⟩) 1 lc,.slice fa fl fc] 36))
 have hb0:BB w w0:=by rw[hw0];exact(bR w).alloc lr _
 have hn0:w0.heap[w.heap.size]?=some (.cells #[I6 10,I6 i0,I6 s0,.string t0,.slice (some ⟨b,o,none⟩) 1 lc,.slice fa fl fc] 36):=by rw[hw0];exact heap_alloc_new w _
 have HB0:=hid hb0;have HC:=hid (fun (w':World) (h:BB w0 w') =>
  have q:=aB h hn0;have h2:=hb0.trans (h.mono hb0.size);have a:=hx.same (w':=w') (h2.block b hb)
  (show(Ce w' w.heap.size 3 (.string t0)/\Ce w' w.heap.size 4 (.slice (some ⟨b,o,none⟩) 1 lc))/\Ce w' b o (I6 x.k)/\w'.cell? ⟨b,o+1,none⟩=some (I6 x.i)/\w'.cell? ⟨b,o+2,none⟩=some (I6 x.s)/\w'.cell? ⟨b,o+3,none⟩=some (.string x.t)/\w'.cell? ⟨b,o+4,none⟩=some (.slice x.la x.ll x.lc)/\w'.cell? ⟨b,o+5,none⟩=some (.slice x.fa x.fl x.fc) from⟨⟨aA q 3,aA q 4⟩,a.k,a.i,a.s,a.t,a.l,a.f⟩))
 have HTX:=hid (fun (w':World) (h:BB w0 w')=>htx x w' (hb0.trans (h.mono hb0.size)) (hxv.same fun b' hb'=>⟨Nat.lt_of_lt_of_le hb' (hb0.trans (h.mono hb0.size)).size,(hb0.trans (h.mono hb0.size)).block b' hb'⟩));have HW0:=hid hw0;have s1:(9223372036854775807<t0.size+1)=False:=eq_false ga;have s2:(9223372036854775807<t0.size+1+y.size)=False:=eq_false ga;have s3:(9223372036854775807<t0.size+1+y.size+1)=False:=eq_false ga;clear hx hxv htx hb0 hn0 hw0 hvs hy ht;go_enter Tryz.func74,Tryz.ntmps74
 go_upto_region 38 with (fail)
 rw[<-HW0.out];refine aG 10 (fun w'=>BB w0 w') ge ge ge gc ((Below.refl _ w0).drew) (fun hS=>?_);simp only[zdm,zdn,zdp,zdq];refine tc 0 HC ?_;refine tc 1 HC ?_;refine tc 2 HC ?_;refine tc 3 HC ?_;refine tc 4 HC ?_;refine tc 5 HC ?_;refine tc 6 HC ?_;refine yr 7 fun K hK=>?_;go_simp;go_at_call 74;refine(HTX.out _ hS).mono ?_;rintro e w1 ⟨rfl,hb1⟩;refine hK.out _ _ (hS.trans (hb1.mono hS.size)) (fun hS=>?_);clear hK K
 (try simp only[Act.put,pq])
 refine tc 8 HC ?_;refine tc 9 HC ?_;refine wpAnyH_done ge ?_ _
 (try dsimp only)
 have HSS:=hid hS;clear hS;go_wp2;go_ret;exact⟨rfl,HB0.out.trans (HSS.out.mono HB0.out.size)⟩
end
section
open Go Go.RowKit Go.Shelf
theorem kP:∀(ns:List ByteArray) (xs:List (List UInt8)),ns.length=xs.length->(dN ns xs).length=xs.length
 | [],[],_=>rfl
 | [],_ :: _,h=>by simp at h
 | _ :: _,[],h=>by simp at h
 | n :: ns,x :: xs,h=>by rw[dN,List.length_cons,List.length_cons,kP ns xs gt]
theorem vO:∀(ns:List ByteArray) (xs:List (List UInt8)) (j:Nat) (h:j<(dN ns xs).length) (h1:j<ns.length) (h2:j<xs.length),(dN ns xs)[j]=ns[j].data.toList++58 :: 32 :: xs[j]
 | n :: ns,x :: xs,0,_,_,_=>rfl
 | n :: ns,x :: xs,j+1,h,h1,h2=>by
   simp only[dN,List.getElem_cons_succ];exact vO ns xs j (by simpa [dN] using h) (by simpa using h1) (by simpa using h2)
theorem sz_pos (d:Val):1<=Val.sz d:=by obtain⟨k,i,s,t,l,ns,fs⟩:=d;rw[Val.sz];omega
theorem mapData (l:List (List UInt8)):(l.map (fun x=>(⟨x.toArray⟩:ByteArray))).map (·.data.toList)=l:=by
 rw[List.map_map];exact(List.map_congr_left (fun x _=>rfl)).trans (List.map_id _)
theorem aE0 (l:List (List UInt8)) (sep:ByteArray):bJ (l.map (fun x=>(⟨x.toArray⟩:ByteArray))) sep=⟨(Lib.join l sep.data.toList).toArray⟩:=by
 unfold bJ;rw[mapData]
theorem dE (l:List Val):(aW l).length=l.length:=by rw[iL,List.length_map]
theorem Good.kidLen {n:Nat} {d d':Val} (h:Good n d) (hn:n<=4096) (hd:d'∈fA d):(txt d').length<=33554432:=(h.kid hd).len hn
theorem pQ:∀(z:Nat) (d:Val),Val.sz d<=z->∀(c:VC) (w:World),Good 4096 d->IsVal (· < w.heap.size) w c d->Tabs w->ZTab w ->
 CP 74 #[c.v] w (Rt (.string ⟨(txt d).toArray⟩) w)
 | 0,d,h,_,_,_,_,_,_=>absurd (sz_pos d) ga
 | z+1,.mk k i s t l ns fs,hz,⟨ck,ci,cs,ct,la,ll,lc,fa,fl,fc⟩,w,hg,hd,hT,hZ=>by
   have hd0:=hd;obtain⟨⟨h1,h2,h3,h4,hok,hll,hfl,hns⟩,hv,hf⟩:=hd0;dsimp only at h1 h2 h3 h4 hll hfl;subst h1;subst h2;subst h3;subst h4;obtain⟨k1,k2,hr⟩:=hg.self;have k1':1<=ck:=k1;have k2':ck<=10:=k2;have hsz:Val.szs l<=z/\Val.szs fs<=z:=by rw[Val.sz] at hz;omega
   have hk:ck=1\/ck=2\/ck=3\/ck=4\/ck=5\/ck=6\/ck=7\/ck=8\/ck=9\/ck=10:=by omega
   simp only[kK] at hr;rcases hk with rfl | rfl | rfl | rfl | rfl | rfl | rfl | rfl | rfl | rfl
   ·have h:=aFt cs ct la ll lc fa fl fc w ci;have e:txt (.mk 1 ci cs ct l ns fs)=Lib.formatBool (ci==1):=by
     simp[txt,dU,Lib.formatBool];by_cases h1:ci=1<;>simp[h1]<;>kernel_rfl
    rw[e];exact h
   ·exact aFs cs ct la ll lc fa fl fc w ci hok.i hT
   ·simp at hr;obtain⟨a,b⟩:=nI hr;have ha:=aX a;have hb:=aX b;have h:=aFr cs ct la ll lc fa fl fc w ci cs.toNat ga ga ga hT;have e:txt (.mk 3 ci cs ct l ns fs)=(if cs=0 then cM ci cs.toNat++[100] else cM ci cs.toNat):=by simp[txt,dU]
    rw[e];exact h
   ·simp at hr;have hz4:=tR hr;have h:=aFq cs ct la ll lc fa fl fc w ci ga hT hZ;have e:txt (.mk 4 ci cs ct l ns fs)=aP ct.data.toList:=by simp[txt,dU]
    rw[e];exact h
   ·simp at hr;have hz5:=fK gc hr;have h:=aFp cs ct la ll lc fa fl fc w ci ga;have e:txt (.mk 5 ci cs ct l ns fs)=gL ct.data.toList:=by simp[txt,dU]
    rw[e];exact h
   ·simp at hr;have hb:=aX hr;have h:=aFo cs ct la ll lc fa fl fc w ci (ci+719162).toNat ga ga hT hZ;have e:txt (.mk 6 ci cs ct l ns fs)=100 :: 97 :: 116 :: 101 :: 32 :: aP (bY (ci+719162).toNat):=by simp[txt,dU]
    rw[e];exact h
   ·simp at hr;have hb:=aX hr;have h:=aFn cs ct la ll lc fa fl fc w ci (ci+62135596800000).toNat ga ga hT hZ;have e:txt (.mk 7 ci cs ct l ns fs)=116 :: 105 :: 109 :: 101 :: 32 :: aP (cH (ci+62135596800000).toNat):=by simp[txt,dU]
    rw[e];exact h
   ·-- a list
    simp at hr;have hl:=fK gc hr;have h:=xA ci cs ct la ll lc fa fl fc l ns fs w hd ((aW l).map (fun x=>(⟨x.toArray⟩:ByteArray))) (by rw[List.length_map,dE];exact hll.symm) 33554432
     (fun x hx=>by
       obtain⟨y,hy,rfl⟩:=List.mem_map.1 hx;rw[iL] at hy;obtain⟨d',hd',rfl⟩:=List.mem_map.1 hy;exact hg.kidLen lr (by simp[fA];exact hd'))
     (by rw[hll];omega)
     (fun j hj hj2 x w' hb hx=>by
       have e:((aW l).map (fun x=>(⟨x.toArray⟩:ByteArray)))[j]=⟨(txt l[j]).toArray⟩:=by
        rw[List.getElem_map];congr 2;simp only[iL,List.getElem_map]
       rw[e];exact pQ z l[j] (by have:=Val.szs_get l j hj;omega) x w' (hg.kid (by simp[fA])) hx (hT.below hb) (hZ.below hb))
    have e:txt (.mk 8 ci cs ct l ns fs)=91 :: (Lib.join (aW l) [44,32]++[93]):=by simp[txt]
    rw[e];rw[aE0] at h;rw[show(⟨(91 :: (Lib.join (aW l) [44,32]++[93])).toArray⟩:ByteArray)=⟨#[91]⟩++⟨(Lib.join (aW l) [44,32]).toArray⟩++⟨#[93]⟩ by rw[show(⟨#[91]⟩:ByteArray)=⟨[91].toArray⟩ from rfl,show(⟨#[93]⟩:ByteArray)=⟨[93].toArray⟩ from rfl,bA,bA];rfl];exact h
   ·-- a record
    have hrec:dY ns=0:=by simpa using hr
    have e:txt (.mk 9 ci cs ct l ns fs)=123 :: (Lib.join (dN ns (aW fs)) [44,32]++[125]):=by simp[txt]
    rw[e];have e2:(⟨(123 :: (Lib.join (dN ns (aW fs)) [44,32]++[125])).toArray⟩:ByteArray)=recT ((dN ns (aW fs)).map (fun x=>(⟨x.toArray⟩:ByteArray))):=by
     unfold recT;rw[aE0,show(⟨#[123]⟩:ByteArray)=⟨[123].toArray⟩ from rfl,show(⟨#[125]⟩:ByteArray)=⟨[125].toArray⟩ from rfl,bA,bA];rfl
    rw[e2];have hns':ns.length=(aW fs).length:=by rw[dE];exact hns
    rcases Nat.eq_zero_or_pos fl with h0 | h0
    ·have hf0:fs=[]:=List.eq_nil_of_length_eq_zero ga;have hn0:ns=[]:=List.eq_nil_of_length_eq_zero ga;subst hf0;subst hn0;subst h0;exact wY ci cs ct la ll lc fa fc w
    have hnl:fl<=64:=by
     unfold dY at hrec;split at hrec
     ·cases hrec
     ·rename_i hle;omega
    have hnm:∀n∈ns,n.data.toList.length<=32:=by
     unfold dY at hrec;split at hrec
     ·cases hrec
     ·exact kY _ _ hrec
    have hkx:∀d'∈fs,d'∈fA (.mk 9 ci cs ct l ns fs):=fun d' h=>by simp[fA];exact h
    refine aAm ci cs ct la ll lc fa fl fc l ns fs w hd _ (fun j=>if h:j<fs.length then ⟨(txt fs[j]).toArray⟩ else ⟨#[]⟩) h0 (by rw[List.length_map,kP _ _ hns',dE];exact hfl.symm)
     (fun j hj hn=>by
       have hjf:j<fs.length:=by rw[List.length_map,kP _ _ hns',dE] at hj;exact hj
       rw[List.getElem_map,vO ns (aW fs) j (by simpa using hj) hn (by rw[dE];exact hjf),dif_pos hjf];have e3:(aW fs)[j]'(by rw[dE];exact hjf)=txt fs[j]:=by simp only[iL,List.getElem_map]
       rw[e3];apply ByteArray.ext;simp[ByteArray.data_append])
     33554500
     (fun x hx=>by
       obtain⟨y,hy,rfl⟩:=List.mem_map.1 hx;obtain⟨j,hj,rfl⟩:=List.getElem_of_mem hy;have hjf:j<fs.length:=by rw[kP _ _ hns',dE] at hj;exact hj
       have hjn:j<ns.length:=by omega
       rw[vO ns (aW fs) j hj hjn (by rw[dE];exact hjf)];have e3:(aW fs)[j]'(by rw[dE];exact hjf)=txt fs[j]:=by simp only[iL,List.getElem_map]
       rw[e3];have a1:=hnm ns[j] (List.getElem_mem _);have a2:=hg.kidLen lr (hkx fs[j] (List.getElem_mem _));simp;simp at a1;omega)
     ga
     (fun j hj x w' hb hx=>by
       rw[dif_pos hj];exact pQ z fs[j] (by have:=Val.szs_get fs j hj;omega) x w' (hg.kid (hkx _ (List.getElem_mem _))) hx (hT.below hb) (hZ.below hb))
   ·-- a variant
    have hvar:cS ct l.length=0:=by simpa using hr
    have hl1:l.length=1/\ct.data.toList.length<=32:=by
     unfold cS at hvar;split at hvar
     ·cases hvar
     ·rename_i hx;have hx':=pH (by simpa using hx);split at hvar
      ·cases hvar
      ·have:=fK gc hvar;constructor
       ·omega
       ·exact hx'
    obtain⟨d',rfl⟩:∃d',l=[d']:=by
     match l,hl1.1 with
     | [d'],_=>exact⟨d',rfl⟩
    have e:txt (.mk 10 ci cs ct [d'] ns fs)=ct.data.toList++40 :: (txt d'++[41]):=by simp[txt,aW]
    rw[e];have hkd:d'∈fA (.mk 10 ci cs ct [d'] ns fs):=by simp[fA]
    have h:=aAl ci cs ct la ll lc fa fl fc d' ns fs w hd ⟨(txt d').toArray⟩ (by have:=hg.kidLen lr hkd;rw[aU];omega) (by have:=hl1.2;rw[qZ] at this;omega)
     (fun x w' hb hx=>pQ z d' (by have h1:=hsz.1;simp only[Val.szs] at h1;omega) x w' (hg.kid hkd) hx (hT.below hb) (hZ.below hb))
    have e2:(⟨(ct.data.toList++40 :: (txt d'++[41])).toArray⟩:ByteArray)=ct++⟨#[40]⟩++⟨(txt d').toArray⟩++⟨#[41]⟩:=by
     apply ByteArray.ext;simp[ByteArray.data_append]
    rw[e2];exact h
theorem aJ2 (d:Val) (c:VC) (w:World) (hg:Good 4096 d) (hd:IsVal (· < w.heap.size) w c d) (hT:Tabs w) (hZ:ZTab w) :
 CP 74 #[c.v] w (Rt (.string ⟨(txt d).toArray⟩) w):=pQ _ d lr c w hg hd hT hZ
end
end Go.Proofs.YtmgpghoamapfgaaGreatDoor
