/- A part. -/
import Derived.Test.YtmgpghoamapfgaaGreatDoorST32Mrg
import Derived.Test.YtmgpghoamapfgaaGreatDoorST38Mrg
import Derived.Test.YtmgpghoamapfgaaGreatDoorST39Mrg
import Derived.Test.YtmgpghoamapfgaaGreatDoorST40Mrg
namespace Go.Proofs.YtmgpghoamapfgaaGreatDoor
set_option linter.unusedVariables false
set_option maxRecDepth 100000
set_option maxHeartbeats 16000000
set_option linter.unusedSimpArgs false
open Go Go.RowKit Go.Shelf
theorem jT {b B:Nat} {w w':World} (hbB:b<B) (hb:b<=w.heap.size) (h:Turn (fun k=>k=b\/B<=k) w w'):Below b w w' :=
 ⟨h.os,h.tape,h.output,h.size,fun k hk=>h.block k ga ga⟩
theorem row6 {w:World} {B T g n cap Q:Nat} {l:List Value} {z0 z1 z2 z3 z4 z5:Value} (h:w.ownsRow B T 6 (.slice (some ⟨g,0,none⟩) n cap) n (l++[z0,z1,z2,z3,z4,z5])) (hl:l.length=Q) :
 Ce w g Q z0/\w.cell? ⟨g,Q+1,none⟩=some z1/\w.cell? ⟨g,Q+2,none⟩=some z2/\w.cell? ⟨g,Q+3,none⟩=some z3/\w.cell? ⟨g,Q+4,none⟩=some z4/\w.cell? ⟨g,Q+5,none⟩=some z5/\∀j,w.frozen? ⟨g,j,none⟩=false:=by
 have hn:n * 6=Q+6:=by have:=h.1;simp at this;omega
 have c:∀i,i<6->w.cell? ⟨g,Q+i,none⟩=[z0,z1,z2,z3,z4,z5][i]?:=fun i hi=>by
  rw[h.cellAt (Q+i) ga,List.getElem?_append_right ga,hl,show Q+i-Q=i by omega]
 exact⟨c 0 gc,c 1 gc,c 2 gc,c 3 gc,c 4 gc,c 5 gc,fun j=>h.frozenAt j⟩
theorem zT:∀l:List VC,(l.flatMap VC.cs).length=l.length * 6
 | []=>rfl
 | c :: l=>by rw[List.flatMap_cons,List.length_append,zT l,List.length_cons];show 6+l.length * 6=_;omega
theorem wp_region_two' {P:Program} {ops:Array Oper} {Q:Exit->Act->World->Prop} {id:Nat} {a:Act} {w:World} (st:Nat) {S:World->Prop} (hm:P.follows .mixedOrders=true) (hS:SL st S (Array.replicate ops.size false) w.drew)
 (h:gC P .any ops Q st S ops.size (Array.replicate ops.size false) a w.drew):(Code.region id ops true).wp P Q a w :=
 wp_region_any hm (oU _ _ _ _ h)
theorem dD {w w':World} {a:Addr} (h:w'.heap[a.block]?=w.heap[a.block]?):w'.frozen? a=w.frozen? a:=by
 simp only[World.frozen?,h]
theorem LastO.lastCell {B:Nat} {w:World} {gs scap:Nat} {ls:List Slot} {x:Slot} {cs:List SlC} {c:SlC} (h:LastO B w (.slice (some ⟨gs,0,none⟩) (ls.length+1) scap) ls x cs c) :
 w.cell? ⟨gs,ls.length * 10+8,none⟩=some (.slice c.ia c.il c.ic)/\w.cell? ⟨gs,ls.length * 10+9,none⟩=some (.slice c.va c.vl c.vc)/\∀j,w.frozen? ⟨gs,ls.length * 10+j,none⟩=false:=by
 have hr:=h.row;rw[h.len] at hr;have q:=AtG.ofRow (K:=slK) hr ls.length (by simp[h.len]);have e:(cs++[c])[ls.length]'(by simp[h.len])=c:=by
  rw[List.getElem_append_right (by rw[h.len];exact Nat.le_refl _)];simp[h.len]
 rw[e] at q;obtain⟨_,_,_,_,_,_,_,_,q8,q9⟩:=q.slot;exact⟨q8,q9,fun j=>hr.frozenAt _⟩
theorem LastO.lastCell' {B:Nat} {w:World} {gs scap ln1:Nat} {ls:List Slot} {x:Slot} {cs:List SlC} {c:SlC} (h:LastO B w (.slice (some ⟨gs,0,none⟩) ln1 scap) ls x cs c) :
 w.cell? ⟨gs,ls.length * 10+8,none⟩=some (.slice c.ia c.il c.ic)/\w.cell? ⟨gs,ls.length * 10+9,none⟩=some (.slice c.va c.vl c.vc)/\∀j,w.frozen? ⟨gs,ls.length * 10+j,none⟩=false:=by
 have e:ln1=ls.length+1:=by
  rcases h.row.2 with ⟨_,h0⟩ | ⟨g,cap,cur,hv,_⟩
  ·omega
  ·simp only[Value.slice.injEq] at hv;have:=h.len;omega
 subst e;exact h.lastCell
def zMc0:MC:=⟨⟨0,none,0,0⟩,0,none,0,0,⟨0,0,0,⟨#[]⟩,none,0,0,none,0,0⟩⟩
def zMs0:Msg:=⟨⟨0,[]⟩,0,[],dA⟩
theorem aLe (S:Nat->Prop) (w:World):IsInts S w none 0 0 []:=⟨rfl,Nat.le_refl _,by decide,fun x h=>by(cases h),.inl rfl⟩
theorem zMs0_is (S:Nat->Prop) (w:World):IsMsg S w zMc0 zMs0 :=
 ⟨⟨rfl,⟨by decide,by decide⟩,aLe S w⟩,rfl,⟨by decide,by decide⟩,aLe S w,⟨⟨rfl,rfl,rfl,rfl,⟨⟨by decide,by decide⟩,⟨by decide,by decide⟩,⟨by decide,by decide⟩,by decide,by decide,by decide,by decide,by decide⟩,rfl,rfl,rfl⟩,.inl rfl,.inl rfl⟩⟩
theorem mDec_u (s:ByteArray) (w:World) (hs:s.size<=120000) (h4:∀a b c e,gF 4 s=[a,b,c,e]->e.size<=65536) (hT:Tabs w) (hZ:ZTab w) (hNV:NumVars w) :
 CP 85 #[.string s] w fun x w'=>∃(c:MC) (d:Msg) (E:Int),x=.returned (.tuple #[.agg #[I6 c.st.e,.slice c.st.a c.st.n c.st.c,I6 c.m,.slice c.a c.n c.c,I6 c.b.k,I6 c.b.i,I6 c.b.s,.string c.b.t,.slice c.b.la c.b.ll c.b.lc,.slice c.b.fa c.b.fl c.b.fc],I6 E])/\IsMsg (fun b=>w.heap.size<=b/\b<w'.heap.size) w' c d /\
  ((E=0/\qT s=some d)\/(E=3/\qT s=none))/\BB w w' :=
 (aBj s w hs h4 hT hZ hNV).mono fun x w' h=>by
   rcases h.1 with ⟨c,d,h1,h2,h3⟩ | ⟨h1,h2⟩
   ·exact⟨c,d,0,h2,h3,.inl ⟨rfl,h1⟩,h.2⟩
   ·exact⟨zMc0,zMs0,3,h2,zMs0_is _ _,.inr ⟨rfl,h1⟩,h.2⟩
def lM (B b:Nat) (d:Sta) (word rest:ByteArray) (w:World) (e:Ending) (w':World):Prop :=
 ∃bb:Bool,e=.returned (.bool bb)/\Turn (fun k=>k=b\/B<=k) w w'/\((bb=true/\∃d',cO d word rest=some d'/\StOwn B b w' d')\/(bb=false/\cO d word rest=none))
theorem fU (s:ByteArray) (hs:s.size<=1000000) (w:World) (hN:NumVars w) :
 CP 83 #[.string s] w (Rt (.tuple #[I6 (cD s).1,.string (cD s).2.1,.bool (cD s).2.2]) w):=by
 obtain⟨m,hm⟩:=hN.2.2;obtain⟨fl,hfl⟩:=ez ((Lib.cut s.data.toList [32]).2.2)
 obtain⟨a,ha⟩:=ez ((oO s).1)
 obtain⟨r,hr⟩:=ez ((oO s).2)
 have HCUT:Hid (CP 81 #[.string s,.string ⟨#[32]⟩] w (Rt (.tuple #[.string a,.string r,.bool fl]) w)):=hid ((Tryz.strings_Cut s ⟨#[32]⟩ m w ga hm).mono fun e w' ⟨he,k,hw⟩=>⟨by rw[he,ha,hr,hfl];rfl,by rw[hw];exact below_drewN _ _⟩);have hal:a.size<=1000000:=by rw[ha];have:=(aA2 s).1;omega
 have HAT:=hid (fun (w':World) (h:BB w w')=>oG a hal w' (hN.below h));have HR:=hid (show cD s=(dO a.data.toList,r,cG a.data.toList) by rw[ha,hr];rfl);clear hm hfl ha hr hal hN;go_enter Tryz.func83,Tryz.ntmps83
 go_upto_region 3 with (first
  | (go_at_call 148;refine(HAT.out w1 HB1.out).mono ?_;rintro e w2 ⟨ev,rfl,hev,hb2⟩;have HB2:=hid hb2;clear hb2;rcases hev with ⟨hok,rfl⟩ | ⟨hok,p,rfl⟩)
  | (go_at_call 81;refine HCUT.out.mono ?_;rintro e w1 ⟨rfl,hb1⟩;have HB1:=hid hb1;clear hb1))
 ·refine wp_region_held_drew (S:=(fun _=>True)) ge (trivial) (fun hS=>?_);refine ta 0 ?_;refine ta 1 ?_;refine ta 2 ?_;refine ta 3 ?_;refine ta 4 ?_;refine ta 5 ?_;refine ta 6 ?_;refine wpAnyH_done ge ?_ _
  (try dsimp only)
  go_wp2;refine bodyPost_ret (v:=.tuple #[I6 (dO a.data.toList),.string r,.bool true]) (by simp[results,Tryz.results83,go_sem]) rfl ?_;exact⟨by rw[HR.out,hok],(HB1.out.trans (HB2.out.mono HB1.out.size)).drew⟩
 ·refine wp_region_held_drew (S:=(fun _=>True)) ge (trivial) (fun hS=>?_);refine ta 0 ?_;refine ta 1 ?_;refine ta 2 ?_;refine ta 3 ?_;refine ta 4 ?_;refine ta 5 ?_;refine ta 6 ?_;refine wpAnyH_done ge ?_ _
  (try dsimp only)
  go_wp2;refine bodyPost_ret (v:=.tuple #[I6 (dO a.data.toList),.string r,.bool false]) (by simp[results,Tryz.results83,go_sem]) rfl ?_;exact⟨by rw[HR.out,hok],(HB1.out.trans (HB2.out.mono HB1.out.size)).drew⟩
theorem uH (B b:Nat) (d:Sta) (word rest:ByteArray) (w:World) (hd:StOwn B b w d) (hbB:b<B) (hB:B<=w.heap.size) (n:Nat) (hz:Sz n d.l) (hn:n<=2000) (hT:∀w',Below b w w'->Tabs w'/\ZTab w'/\NumVars w') (hok:LnOK word rest) (hw:word=wState) :
 CP 42 #[.pointer (some ⟨b,0,none⟩),.string word,.string rest] w (lM B b d word rest w):=by
 obtain⟨sv,hb,hI1,hI2,hsl⟩:=hd;have hbl:=ltOf hb;have HZ:=hid hz;have HT:Hid (∀w',Turn (fun k=>k=b\/B<=k) w w'->Tabs w'/\ZTab w'/\NumVars w'):=hid fun w' h=>hT w' (jT hbB (Nat.le_of_lt hbl) h);have HOK:=hid hok;have HI:=hid (And.intro hI1 hI2);have q1:(word.toList==[115,116,97,116,101])=true:=qY _ _ hw;have HWD:=hid hw;clear hw;have HSL:=hid hsl;rcases hsl with ⟨hdl,hsl⟩ | ⟨ls,x,cs,c,hdl,hl⟩
 ·have hlo:=hsl;obtain⟨a,cap,rfl⟩:∃a cap,sv=.slice a 0 cap:=by
   rcases hsl.2 with ⟨rfl,_⟩ | ⟨g,cap,cur,rfl,_⟩
   ·exact⟨_,_,rfl⟩
   ·exact⟨_,_,rfl⟩
  have c0:=aA hb 0;have c1:=aA hb 1;have c2:=aA hb 2;have f0:=aC hb 0;have f1:=aC hb 1;have f2:=aC hb 2
  (try dsimp only at c0 c1 c2)
  have HB:=hid hb;have HDL:=hid hdl;clear hsl hdl hlo hb hz hok hT hI1 hI2;obtain⟨n1,hn1⟩:=ez ((cD rest).1)
  obtain⟨r1,hr1⟩:=ez ((cD rest).2.1)
  obtain⟨o1,ho1⟩:=ez ((cD rest).2.2)
  obtain⟨n2,hn2⟩:=ez ((cD r1).1)
  obtain⟨r2,hr2⟩:=ez ((cD r1).2.1)
  obtain⟨o2,ho2⟩:=ez ((cD r1).2.2)
  have HN1:Hid (CP 83 #[.string rest] w (Rt (.tuple #[I6 n1,.string r1,.bool o1]) w)):=hid (by rw[hn1,hr1,ho1];exact fU rest (by have:=HOK.out.z;omega) w (HT.out w (Turn.refl _ _)).2.2);have HN2:Hid (∀w',NumVars w'->CP 83 #[.string r1] w' (Rt (.tuple #[I6 n2,.string r2,.bool o2]) w')):=hid fun w' h=>by rw[hn2,hr2,ho2];exact fU r1 (by have:=HOK.out.z;have:=jO rest;rw[hr1];omega) w' h
  have HRF:=hid (show cO d word rest=if o1=true/\o2=true then some ⟨n1,n2,d.l⟩ else none by
   rw[HWD.out];unfold cO;rw[if_pos rfl,hn1,hn2,ho1,ho2,hr1])
  have HI1:=hid (show I64 n1 by rw[hn1];exact bV _);have HI2:=hid (show I64 n2 by rw[hn2];exact bV _);clear hn1 hr1 ho1 hn2 hr2 ho2;go_enter Tryz.func42,Tryz.ntmps42
  go_upto_region 7 with (fail)
  clear c0 c1 c2 f0 f1 f2;go_upto_region 8 with (go_at_call 83;refine HN1.out.mono ?_;rintro e w1 ⟨rfl,hb1⟩;have g1:=aB hb1 HB.out;have HB1:=hid hb1;have G1:=hid g1;have c0:=aA g1 0;have f0:=aC g1 0;(try dsimp only at c0);clear g1 hb1)
  clear c0 f0;obtain⟨w2,hw2⟩:=ez (w1.setCell ⟨b,0,none⟩ (I6 n1))
  rw[<-hw2];have T2:=hid (show Turn (fun k=>k=b\/B<=k) w w2 by rw[hw2];exact(Turn.of_below HB1.out).trans (Turn.setCell ⟨b,0,none⟩ _ (.inl rfl)));have g2:=aE (o:=0) (I6 n1) G1.out;rw[<-hw2] at g2;simp only[List.setIfInBounds_toArray,List.set_cons_zero,List.set_cons_succ] at g2;have G2:=hid g2;have K2:=hid (show ∀k,B<=k->k<w.heap.size->w2.heap[k]?=w.heap[k]? from fun k h1 h2=>by rw[hw2];exact(Below.heap_setCell _ _ _ _ gi).trans (HB1.out.block k h2));clear hw2 g2;cases o1
  ·go_wp2;go_ret;exact⟨false,rfl,T2.out,.inr ⟨rfl,by rw[HRF.out,if_neg gd]⟩⟩
  have HN2':=hid (HN2.out w2 (HT.out w2 T2.out).2.2);go_upto_region 10 with (go_at_call 83;refine HN2'.out.mono ?_;rintro e w3 ⟨rfl,hb3⟩;have g3:=aB hb3 G2.out;have HB3:=hid hb3;have G3:=hid g3;have c1:=aA g3 1;have f1:=aC g3 1;(try dsimp only at c1);clear g3 hb3)
  clear c1 f1;obtain⟨w4,hw4⟩:=ez (w3.setCell ⟨b,1,none⟩ (I6 n2))
  rw[<-hw4];have T4:=hid (show Turn (fun k=>k=b\/B<=k) w w4 by rw[hw4];exact(T2.out.trans (Turn.of_below HB3.out)).trans (Turn.setCell ⟨b,1,none⟩ _ (.inl rfl)));have g4:=aE (o:=1) (I6 n2) G3.out;rw[<-hw4] at g4;simp only[List.setIfInBounds_toArray,List.set_cons_zero,List.set_cons_succ] at g4;have G4:=hid g4;have K4:=hid (show ∀k,B<=k->k<w.heap.size->w4.heap[k]?=w.heap[k]? from fun k h1 h2=>by rw[hw4];exact(Below.heap_setCell _ _ _ _ gi).trans ((HB3.out.block k (by have:=T2.out.size;omega)).trans (K2.out k h1 h2)));clear hw4 g4;go_wp2;go_ret;cases o2
  ·exact⟨false,rfl,T4.out,.inr ⟨rfl,by rw[HRF.out,if_neg gd]⟩⟩
  ·exact⟨true,rfl,T4.out,.inl ⟨rfl,⟨n1,n2,d.l⟩,by rw[HRF.out,if_pos gd],_,G4.out,HI1.out,HI2.out,HSL.out.move K4.out T4.out.size⟩⟩
 ·obtain⟨gs,scap,rfl,hgB,hgl⟩:∃gs scap,sv=.slice (some ⟨gs,0,none⟩) (ls.length+1) scap/\B<=gs/\gs<w.heap.size:=by
   have hlen:=hl.len;rcases hl.row.2 with ⟨_,h0⟩ | ⟨g,cap,cur,rfl,h1,h2,_⟩
   ·omega
   ·exact⟨g,cap,by rw[hlen],h1,ltOf h2⟩
  have hlsn:ls.length+1<=2000:=by have:=hz.1;rw[hdl] at this;simp at this;omega
  have k1:(((ls.length+1:Nat):Int))-1=(ls.length:Int):=by omega
  have k2:(0:Int)<((ls.length+1:Nat):Int):=by omega
  have k3:(0:Int)<=(ls.length:Int):=by omega
  have k4:(ls.length:Int)<((ls.length+1:Nat):Int):=by omega
  obtain⟨ln,hln⟩:=ez ls.length
  obtain⟨ln1,hln1⟩:=ez (ls.length+1)
  rw[<-hln1] at k1 k2 k4 hlsn;rw[<-hln] at k1 k3 k4;have k5:wrap64 ((ln1:Int)-1)=(ln:Int):=by unfold wrap64;omega
  have k6:IntKind.i64.wrap ((ln1:Int)-1)=(ln:Int):=IntWalk.i64_in _ ga |>.trans ga;have c0:=aA hb 0;have c1:=aA hb 1;have c2:=aA hb 2;have f0:=aC hb 0;have f1:=aC hb 1;have f2:=aC hb 2
  (try dsimp only at c0 c1 c2)
  rw[<-hln1] at c2 HSL hb;have HB:=hid hb;have HLN:=hid (And.intro hln hln1);have HLL:=hid hl;have HDL:=hid hdl;clear hl hdl hb hz hok hT hI1 hI2 hln hln1;obtain⟨n1,hn1⟩:=ez ((cD rest).1)
  obtain⟨r1,hr1⟩:=ez ((cD rest).2.1)
  obtain⟨o1,ho1⟩:=ez ((cD rest).2.2)
  obtain⟨n2,hn2⟩:=ez ((cD r1).1)
  obtain⟨r2,hr2⟩:=ez ((cD r1).2.1)
  obtain⟨o2,ho2⟩:=ez ((cD r1).2.2)
  have HN1:Hid (CP 83 #[.string rest] w (Rt (.tuple #[I6 n1,.string r1,.bool o1]) w)):=hid (by rw[hn1,hr1,ho1];exact fU rest (by have:=HOK.out.z;omega) w (HT.out w (Turn.refl _ _)).2.2);have HN2:Hid (∀w',NumVars w'->CP 83 #[.string r1] w' (Rt (.tuple #[I6 n2,.string r2,.bool o2]) w')):=hid fun w' h=>by rw[hn2,hr2,ho2];exact fU r1 (by have:=HOK.out.z;have:=jO rest;rw[hr1];omega) w' h
  have HRF:=hid (show cO d word rest=if o1=true/\o2=true then some ⟨n1,n2,d.l⟩ else none by
   rw[HWD.out];unfold cO;rw[if_pos rfl,hn1,hn2,ho1,ho2,hr1])
  have HI1:=hid (show I64 n1 by rw[hn1];exact bV _);have HI2:=hid (show I64 n2 by rw[hn2];exact bV _);clear hn1 hr1 ho1 hn2 hr2 ho2;go_enter Tryz.func42,Tryz.ntmps42
  go_upto_region 7 with (fail)
  clear c0 c1 c2 f0 f1 f2;go_upto_region 8 with (go_at_call 83;refine HN1.out.mono ?_;rintro e w1 ⟨rfl,hb1⟩;have g1:=aB hb1 HB.out;have HB1:=hid hb1;have G1:=hid g1;have c0:=aA g1 0;have f0:=aC g1 0;(try dsimp only at c0);clear g1 hb1)
  clear c0 f0;obtain⟨w2,hw2⟩:=ez (w1.setCell ⟨b,0,none⟩ (I6 n1))
  rw[<-hw2];have T2:=hid (show Turn (fun k=>k=b\/B<=k) w w2 by rw[hw2];exact(Turn.of_below HB1.out).trans (Turn.setCell ⟨b,0,none⟩ _ (.inl rfl)));have g2:=aE (o:=0) (I6 n1) G1.out;rw[<-hw2] at g2;simp only[List.setIfInBounds_toArray,List.set_cons_zero,List.set_cons_succ] at g2;have G2:=hid g2;have K2:=hid (show ∀k,B<=k->k<w.heap.size->w2.heap[k]?=w.heap[k]? from fun k h1 h2=>by rw[hw2];exact(Below.heap_setCell _ _ _ _ gi).trans (HB1.out.block k h2));clear hw2 g2;cases o1
  ·go_wp2;go_ret;exact⟨false,rfl,T2.out,.inr ⟨rfl,by rw[HRF.out,if_neg gd]⟩⟩
  have HN2':=hid (HN2.out w2 (HT.out w2 T2.out).2.2);go_upto_region 10 with (go_at_call 83;refine HN2'.out.mono ?_;rintro e w3 ⟨rfl,hb3⟩;have g3:=aB hb3 G2.out;have HB3:=hid hb3;have G3:=hid g3;have c1:=aA g3 1;have f1:=aC g3 1;(try dsimp only at c1);clear g3 hb3)
  clear c1 f1;obtain⟨w4,hw4⟩:=ez (w3.setCell ⟨b,1,none⟩ (I6 n2))
  rw[<-hw4];have T4:=hid (show Turn (fun k=>k=b\/B<=k) w w4 by rw[hw4];exact(T2.out.trans (Turn.of_below HB3.out)).trans (Turn.setCell ⟨b,1,none⟩ _ (.inl rfl)));have g4:=aE (o:=1) (I6 n2) G3.out;rw[<-hw4] at g4;simp only[List.setIfInBounds_toArray,List.set_cons_zero,List.set_cons_succ] at g4;have G4:=hid g4;have K4:=hid (show ∀k,B<=k->k<w.heap.size->w4.heap[k]?=w.heap[k]? from fun k h1 h2=>by rw[hw4];exact(Below.heap_setCell _ _ _ _ gi).trans ((HB3.out.block k (by have:=T2.out.size;omega)).trans (K2.out k h1 h2)));clear hw4 g4;go_wp2;go_ret;cases o2
  ·exact⟨false,rfl,T4.out,.inr ⟨rfl,by rw[HRF.out,if_neg gd]⟩⟩
  ·exact⟨true,rfl,T4.out,.inl ⟨rfl,⟨n1,n2,d.l⟩,by rw[HRF.out,if_pos gd],_,G4.out,HI1.out,HI2.out,HSL.out.move K4.out T4.out.size⟩⟩
theorem xE (B b:Nat) (d:Sta) (word rest:ByteArray) (w:World) (hd:StOwn B b w d) (hbB:b<B) (hB:B<=w.heap.size) (n:Nat) (hz:Sz n d.l) (hn:n<=2000) (hT:∀w',Below b w w'->Tabs w'/\ZTab w'/\NumVars w') (hok:LnOK word rest) (hw:word=wSlot) :
 CP 42 #[.pointer (some ⟨b,0,none⟩),.string word,.string rest] w (lM B b d word rest w):=by
 obtain⟨sv,hb,hI1,hI2,hsl⟩:=hd;have hbl:=ltOf hb;have HZ:=hid hz;have HT:Hid (∀w',Turn (fun k=>k=b\/B<=k) w w'->Tabs w'/\ZTab w'/\NumVars w'):=hid fun w' h=>hT w' (jT hbB (Nat.le_of_lt hbl) h);have HOK:=hid hok;have HI:=hid (And.intro hI1 hI2);have q1:(word.toList==[115,116,97,116,101])=false:=jA _ _ (by rw[hw];decide);have q2:(word.toList==[115,108,111,116])=true:=qY _ _ hw;have HWD:=hid hw;clear hw;have HSL:=hid hsl;rcases hsl with ⟨hdl,hsl⟩ | ⟨ls,x,cs,c,hdl,hl⟩
 ·have hlo:=hsl;obtain⟨a,cap,rfl⟩:∃a cap,sv=.slice a 0 cap:=by
   rcases hsl.2 with ⟨rfl,_⟩ | ⟨g,cap,cur,rfl,_⟩
   ·exact⟨_,_,rfl⟩
   ·exact⟨_,_,rfl⟩
  have c0:=aA hb 0;have c1:=aA hb 1;have c2:=aA hb 2;have f0:=aC hb 0;have f1:=aC hb 1;have f2:=aC hb 2
  (try dsimp only at c0 c1 c2)
  have HB:=hid hb;have HDL:=hid hdl;clear hsl hdl hlo hb hz hok hT hI1 hI2;obtain⟨n1,hn1⟩:=ez ((cD rest).1)
  obtain⟨r1,hr1⟩:=ez ((cD rest).2.1)
  obtain⟨o1,ho1⟩:=ez ((cD rest).2.2)
  obtain⟨n2,hn2⟩:=ez ((cD r1).1)
  obtain⟨r2,hr2⟩:=ez ((cD r1).2.1)
  obtain⟨o2,ho2⟩:=ez ((cD r1).2.2)
  obtain⟨pv,hpv⟩:=ez ((eX r2).1)
  obtain⟨pp,hpp⟩:=ez ((eX r2).2.1)
  obtain⟨pe,hpe⟩:=ez ((eX r2).2.2)
  have HN1:Hid (∀w',NumVars w'->CP 83 #[.string rest] w' (Rt (.tuple #[I6 n1,.string r1,.bool o1]) w')):=hid fun w' h=>by rw[hn1,hr1,ho1];exact fU rest (by have:=HOK.out.z;omega) w' h
  have HN2:Hid (∀w',NumVars w'->CP 83 #[.string r1] w' (Rt (.tuple #[I6 n2,.string r2,.bool o2]) w')):=hid fun w' h=>by rw[hn2,hr2,ho2];exact fU r1 (by have:=HOK.out.z;have:=jO rest;rw[hr1];omega) w' h
  have HPA:Hid (∀w',Tabs w'->NumVars w'->CP 84 #[.string r2] w' fun x w2=>∃c:VC,x=.returned (.tuple #[c.v,I6 pp,I6 pe])/\IsVal (fun i=>w'.heap.size<=i/\i<w2.heap.size) w2 c pv/\BB w' w2):=hid fun w' h1 h2=>by rw[hpv,hpp,hpe];exact lX r2 w' (by rw[hr2,hr1];exact HOK.out.slot HWD.out) h1 h2
  have HRF:=hid (show cO d word rest=if o1=true/\o2=true/\pe=0 then some ⟨d.n,d.t,d.l++[⟨pv,n1,n2,[],[]⟩]⟩ else none by
   rw[HWD.out];unfold cO;rw[if_neg gc,if_pos rfl,hn1,hn2,ho1,ho2,hpv,hpe,hr2,hr1])
  have HI1:=hid (show I64 n1 by rw[hn1];exact bV _);have HI2:=hid (show I64 n2 by rw[hn2];exact bV _);have HLEN:=hid (show d.l.length=0 by rw[HDL.out];rfl);have HOV:=hid (show ∀r,Value.ownBlock (.slice a 0 cap)=some r->r<w.heap.size from fun r e=>(HSL.out.own r e).2);clear hn1 hr1 ho1 hn2 hr2 ho2 hpv hpp hpe;go_enter Tryz.func42,Tryz.ntmps42
  go_upto_region 13 with (fail)
  clear c0 c1 c2 f0 f1 f2;obtain⟨X,hX⟩:=ez w.heap.size
  obtain⟨w0,hw0⟩:=ez (w.alloc (.cells #[I6 0,I6 0,I6 0,.string ⟨#[]⟩,.slice none 0 0,.slice none 0 0,I6 0,I6 0,.slice none 0 0,.slice none 0 0] 66))
  rw[<-hw0,<-hX];have T0:=hid (show Turn (fun k=>k=b\/B<=k) w w0 by rw[hw0];exact Turn.of_below ((bR w).alloc lr _));have HXX:=hid (show w.heap.size<=X/\b<X by omega);have G0:=hid (show w0.heap[b]?=some (.cells #[I6 d.n,I6 d.t,.slice a 0 cap] 24)/\w0.heap[X]?=some (.cells #[I6 0,I6 0,I6 0,.string ⟨#[]⟩,.slice none 0 0,.slice none 0 0,I6 0,I6 0,.slice none 0 0,.slice none 0 0] 66) by rw[hw0,hX];exact⟨aD _ HB.out,heap_alloc_new w _⟩);have HBw:=hid hB;have K0:=hid (show ∀k,B<=k->k<w.heap.size->w0.heap[k]?=w.heap[k]? from fun k _ h=>by rw[hw0];exact Below.heap_alloc _ _ _ h);clear hw0 hX
  have HN1':=hid (HN1.out w0 (HT.out w0 T0.out).2.2);go_upto_region 14 with (go_at_call 83;refine HN1'.out.mono ?_;rintro e w1 ⟨rfl,hb1⟩;have g1:=aB hb1 G0.out.2;have HB1:=hid hb1;have G1:=hid g1;have x6:=aA g1 6;have y6:=aC g1 6;(try dsimp only at x6);clear g1 hb1)
  clear x6 y6;obtain⟨w2,hw2⟩:=ez (w1.setCell ⟨X,6,none⟩ (I6 n1))
  rw[<-hw2];have T2:=hid (show Turn (fun k=>k=b\/B<=k) w w2 by rw[hw2];exact(T0.out.trans (Turn.of_below HB1.out)).trans (Turn.setCell ⟨X,6,none⟩ _ (.inr (by dsimp only;have:=HXX.out;omega))));have g2:=aE (o:=6) (I6 n1) G1.out;rw[<-hw2] at g2;simp only[List.setIfInBounds_toArray,List.set_cons_zero,List.set_cons_succ] at g2
  have G2:=hid (show w2.heap[b]?=some (.cells #[I6 d.n,I6 d.t,.slice a 0 cap] 24)/\w2.heap[X]?=some (.cells #[I6 0,I6 0,I6 0,.string ⟨#[]⟩,.slice none 0 0,.slice none 0 0,I6 n1,I6 0,.slice none 0 0,.slice none 0 0] 66) from⟨by rw[hw2];exact(Below.heap_setCell _ _ _ _ (by have:=HXX.out;dsimp only;omega)).trans (aB HB1.out G0.out.1),g2⟩);have K2:=hid (show ∀k,B<=k->k<w.heap.size->w2.heap[k]?=w.heap[k]? from fun k h1 h2=>by rw[hw2];exact(Below.heap_setCell _ _ _ _ (by have:=HXX.out;dsimp only;omega)).trans ((HB1.out.block k (by have:=T0.out.size;omega)).trans (K0.out k h1 h2)));clear hw2 g2;cases o1
  ·go_wp2;go_ret;exact⟨false,rfl,T2.out,.inr ⟨rfl,by rw[HRF.out,if_neg gd]⟩⟩
  have HN2':=hid (HN2.out w2 (HT.out w2 T2.out).2.2);go_upto_region 17 with (go_at_call 83;refine HN2'.out.mono ?_;rintro e w3 ⟨rfl,hb3⟩;have g3:=aB hb3 G2.out.2;have HB3:=hid hb3;have G3:=hid g3;have x7:=aA g3 7;have y7:=aC g3 7;(try dsimp only at x7);clear g3 hb3)
  clear x7 y7;obtain⟨w4,hw4⟩:=ez (w3.setCell ⟨X,7,none⟩ (I6 n2))
  rw[<-hw4];have T4:=hid (show Turn (fun k=>k=b\/B<=k) w w4 by rw[hw4];exact(T2.out.trans (Turn.of_below HB3.out)).trans (Turn.setCell ⟨X,7,none⟩ _ (.inr (by dsimp only;have:=HXX.out;omega))));have g4:=aE (o:=7) (I6 n2) G3.out;rw[<-hw4] at g4;simp only[List.setIfInBounds_toArray,List.set_cons_zero,List.set_cons_succ] at g4
  have G4:=hid (show w4.heap[b]?=some (.cells #[I6 d.n,I6 d.t,.slice a 0 cap] 24)/\w4.heap[X]?=some (.cells #[I6 0,I6 0,I6 0,.string ⟨#[]⟩,.slice none 0 0,.slice none 0 0,I6 n1,I6 n2,.slice none 0 0,.slice none 0 0] 66) from⟨by rw[hw4];exact(Below.heap_setCell _ _ _ _ (by have:=HXX.out;dsimp only;omega)).trans (aB HB3.out G2.out.1),g4⟩);have K4:=hid (show ∀k,B<=k->k<w.heap.size->w4.heap[k]?=w.heap[k]? from fun k h1 h2=>by rw[hw4];exact(Below.heap_setCell _ _ _ _ (by have:=HXX.out;dsimp only;omega)).trans ((HB3.out.block k (by have:=T2.out.size;omega)).trans (K2.out k h1 h2)));clear hw4 g4;cases o2
  ·go_wp2;go_ret;exact⟨false,rfl,T4.out,.inr ⟨rfl,by rw[HRF.out,if_neg gd]⟩⟩
  have HPA':=hid (HPA.out w4 (HT.out w4 T4.out).1 (HT.out w4 T4.out).2.2);go_upto_region 20 with (go_at_call 84;refine HPA'.out.mono ?_;rintro e w5 ⟨c,rfl,hv5,hb5⟩;have g5:=aB hb5 G4.out.2;have HB5:=hid hb5;have HV5:=hid hv5;have G5:=hid g5;have x0:=aA g5 0;have y0:=aC g5 0;have x1:=aA g5 1;have y1:=aC g5 1;have x2:=aA g5 2;have y2:=aC g5 2;have x3:=aA g5 3;have y3:=aC g5 3;have x4:=aA g5 4;have y4:=aC g5 4;have x5:=aA g5 5;have y5:=aC g5 5;(try dsimp only at x0 x1 x2 x3 x4 x5);clear g5 hb5 hv5)
  clear x0 y0 x1 y1 x2 y2 x3 y3 x4 y4 x5 y5;obtain⟨w6,hw6⟩:=ez ((((((w5.setCell ⟨X,0,none⟩ (I6 c.k)).setCell ⟨X,1,none⟩ (I6 c.i)).setCell ⟨X,2,none⟩ (I6 c.s)).setCell ⟨X,3,none⟩ (.string c.t)).setCell ⟨X,4,none⟩ (.slice c.la c.ll c.lc)).setCell ⟨X,5,none⟩ (.slice c.fa c.fl c.fc))
  rw[<-hw6];have g6:=aE (o:=5) (.slice c.fa c.fl c.fc) (aE (o:=4) (.slice c.la c.ll c.lc) (aE (o:=3) (.string c.t) (aE (o:=2) (I6 c.s) (aE (o:=1) (I6 c.i) (aE (o:=0) (I6 c.k) G5.out)))));rw[<-hw6] at g6;simp only[List.setIfInBounds_toArray,List.set_cons_zero,List.set_cons_succ] at g6;have hoth:∀k,k≠X->w6.heap[k]?=w5.heap[k]?:=fun k hk=>by
   rw[hw6];exact(Below.heap_setCell _ _ _ _ hk).trans ((Below.heap_setCell _ _ _ _ hk).trans ((Below.heap_setCell _ _ _ _ hk).trans ((Below.heap_setCell _ _ _ _ hk).trans ((Below.heap_setCell _ _ _ _ hk).trans (Below.heap_setCell _ _ _ _ hk)))))
  have hs6:w6.heap.size=w5.heap.size:=by rw[hw6];simp[World.setCell]
  have hXB:B<=X:=by have:=HXX.out;omega
  have T6:=hid (show Turn (fun k=>k=b\/B<=k) w w6 by
   rw[hw6];exact(((((((T4.out.trans (Turn.of_below HB5.out)).trans (Turn.setCell ⟨X,0,none⟩ _ (.inr hXB))).trans (Turn.setCell ⟨X,1,none⟩ _ (.inr hXB))).trans (Turn.setCell ⟨X,2,none⟩ _ (.inr hXB))).trans (Turn.setCell ⟨X,3,none⟩ _ (.inr hXB))).trans (Turn.setCell ⟨X,4,none⟩ _ (.inr hXB))).trans (Turn.setCell ⟨X,5,none⟩ _ (.inr hXB))))
  have G6:=hid (show w6.heap[b]?=some (.cells #[I6 d.n,I6 d.t,.slice a 0 cap] 24)/\w6.heap[X]?=some (.cells #[I6 c.k,I6 c.i,I6 c.s,.string c.t,.slice c.la c.ll c.lc,.slice c.fa c.fl c.fc,I6 n1,I6 n2,.slice none 0 0,.slice none 0 0] 66) from⟨(hoth b (by have:=HXX.out;omega)).trans (aB HB5.out G4.out.1),g6⟩);have K6:=hid (show ∀k,B<=k->k<w.heap.size->w6.heap[k]?=w.heap[k]? from fun k h1 h2=>(hoth k (by have:=HXX.out;omega)).trans ((HB5.out.block k (by have:=T4.out.size;omega)).trans (K4.out k h1 h2)))
  have HV6:=hid (show IsVal (fun i=>w.heap.size<=i/\i<w6.heap.size) w6 c pv from HV5.out.same fun i hi=>⟨⟨by have:=T4.out.size;omega,by omega⟩,hoth i (fun e=>by have:=ltOf G4.out.2;omega)⟩);clear hw6 g6 hoth hs6
  have HC20:Hid (∀w':World,(w'.heap[b]?=some (.cells #[I6 d.n,I6 d.t,.slice a 0 cap] 24)/\w'.heap[X]?=some (.cells #[I6 c.k,I6 c.i,I6 c.s,.string c.t,.slice c.la c.ll c.lc,.slice c.fa c.fl c.fc,I6 n1,I6 n2,.slice none 0 0,.slice none 0 0] 66))->(Ce w' b 2 (.slice a 0 cap)/\w'.frozen? ⟨b,2,none⟩=false)/\(Ce w' X 0 (I6 c.k)/\Ce w' X 1 (I6 c.i)/\Ce w' X 2 (I6 c.s)/\Ce w' X 3 (.string c.t)/\Ce w' X 4 (.slice c.la c.ll c.lc)/\Ce w' X 5 (.slice c.fa c.fl c.fc)/\Ce w' X 6 (I6 n1)/\Ce w' X 7 (I6 n2)/\Ce w' X 8 (.slice none 0 0)/\Ce w' X 9 (.slice none 0 0))):=hid fun w' h=>⟨⟨aA h.1 2,aC h.1 2⟩,aA h.2 0,aA h.2 1,aA h.2 2,aA h.2 3,aA h.2 4,aA h.2 5,aA h.2 6,aA h.2 7,aA h.2 8,aA h.2 9⟩
  obtain⟨cs7,hcs7,hown7,hel7⟩:=(HSL.out.move K6.out T6.out.size).built HZ.out ga;rw[HLEN.out] at hown7;obtain⟨ti,hi,hz0,hz1,hz2⟩:=info_parts zQ;refine dP 8 (fun w'=>w'.heap[b]?=some (.cells #[I6 d.n,I6 d.t,.slice a 0 cap] 24)/\w'.heap[X]?=some (.cells #[I6 c.k,I6 c.i,I6 c.s,.string c.t,.slice c.la c.ll c.lc,.slice c.fa c.fl c.fc,I6 n1,I6 n2,.slice none 0 0,.slice none 0 0] 66)) ge ge ge gc (⟨G6.out.1,G6.out.2⟩) (fun hS=>?_);simp only[zdm,zdn,zdp,zdq]
  refine tc 0 HC20 ?_;refine tc 1 HC20 ?_;refine tc 2 HC20 ?_;refine tc 3 HC20 ?_;refine tc 4 HC20 ?_;refine tc 5 HC20 ?_;refine yr 6 fun K hK=>?_;generalize hw7:World.drew _=w7 at hS ⊢;have hs7:w7.heap.size=w6.heap.size:=by rw[<-hw7];rfl
  have ho7:w7.ownsRow B 66 10 (.slice a 0 cap) 0 (cs7.flatMap SlC.cs):=qA hown7 (fun k o _ ho=>by rw[<-hw7];exact ho);have hbl7:∀j:Nat,w7.heap[j]?=w6.heap[j]?:=fun j=>by rw[<-hw7];rfl
  have hw76:w7.os=w6.os/\w7.tape=w6.tape/\w7.output=w6.output:=by rw[<-hw7];exact⟨rfl,rfl,rfl⟩
  have HS7:=hid hs7;have HBL7:=hid hbl7;have HW76:=hid hw76;have HO7:=hid ho7;clear hw7 hs7 hbl7 hw76 ho7;go_simp;refine hK.out _ _ (⟨aD _ ((HBL7.out b).trans G6.out.1),aD _ ((HBL7.out X).trans G6.out.2)⟩) (fun hS=>?_);clear hK K
  (try simp only[Act.put,pq])
  refine yr 7 fun K hK=>?_;refine step_append_lies _ gh _ _ _ gh B 66 ti _ 10 152 Tryz.underlying22 hi hz0 hz1 hz2 rfl ga (.slice a 0 cap) 0 (cs7.flatMap SlC.cs) gh (HO7.out.alloc _) ⟨w7.heap.size,0,none⟩ 1 1 (SlC.cs ⟨c,n1,n2,none,0,0,none,0,0⟩) gh gh (World.news_of_block (heap_alloc_new w7 _)) (by simp[SlC.cs,Value.oneCell']) ga (by unfold maxLen;omega) ga (by have:=T6.out.size;have:=HBw.out;have:=HS7.out;simp;omega) (w7.heap.size+1) gd ?_;intro gg cap8 w8 hown8 hgrow hat hlt8
  have hs7:=HS7.out;have hbl7:=HBL7.out;have hw76:=HW76.out;have ho7:=HO7.out;have hne:∀j,j<w7.heap.size->(Value.ownBlock (.slice a 0 cap)=some j->False)->w8.heap[j]?=w7.heap[j]?:=fun j hj hn=>(hgrow.block j gj (fun e=>hn e.symm)).trans (Below.heap_alloc _ _ _ hj);have hS8:w8.heap[b]?=some (.cells #[I6 d.n,I6 d.t,.slice a 0 cap] 24)/\w8.heap[X]?=some (.cells #[I6 c.k,I6 c.i,I6 c.s,.string c.t,.slice c.la c.ll c.lc,.slice c.fa c.fl c.fc,I6 n1,I6 n2,.slice none 0 0,.slice none 0 0] 66):=by
   have hx:=HXX.out;have q1:=ltOf G6.out.1;have q2:=ltOf G6.out.2;refine⟨(hne b ga (fun e=>by have:=(ho7.lt b e).1;omega)).trans ((hbl7 b).trans G6.out.1),(hne X ga (fun e=>?_)).trans ((hbl7 X).trans G6.out.2)⟩;have:=HOV.out X e;omega
  refine hK.out _ _ (hS8) (fun hS=>?_);clear hK K
  (try simp only[Act.put,pq])
  refine wpAnyH_done ge ?_ _
  (try dsimp only)
  have T8:Turn (fun k=>k=b\/B<=k) w6 w8:=by
   refine⟨hgrow.os.trans hw76.1,hgrow.tape.trans hw76.2.1,hgrow.output.trans hw76.2.2,by have:=hgrow.size;simp at this;omega,fun j hj hR=>?_⟩;exact(hne j ga (fun e=>hR (.inr (ho7.lt j e).1))).trans (hbl7 j)
  have hpush:SlotsO B w8 (.slice (some ⟨gg,0,none⟩) (0+1) cap8) (d.l++[⟨pv,n1,n2,[],[]⟩]):=by
   have hlen:=HLEN.out;have hgo:(w7.alloc (.cells #[I6 c.k,I6 c.i,I6 c.s,.string c.t,.slice c.la c.ll c.lc,.slice c.fa c.fl c.fc,I6 n1,I6 n2,.slice none 0 0,.slice none 0 0] 66)).grownBy w8 (Value.ownBlock (.slice a 0 cap)):=hgrow;have q:=SlotsO.push (B:=B) (N:=w.heap.size) (w1:=w7) (w2:=w8) (sv:=(.slice a 0 cap)) (l:=d.l) (cs:=cs7) (k:=c) (dk:=pv) (n:=n1) (t:=n2) (g:=gg) (cap:=cap8) hcs7
    (fun j h1 h2=>(hel7 j h1 h2).same fun i hi=>⟨⟨hi.1,by have:=hi.2.1;omega,hi.2.2⟩,hbl7 i⟩) (HV6.out.same fun i hi=>⟨⟨hi.1,by have:=hi.2;omega⟩,hbl7 i⟩) HI1.out HI2.out HBw.out
    (fun r e=>HOV.out r e) (by rw[hlen];exact hown8) hgo hat
   rw[hlen] at q;exact q
  have HT8:=hid T8;have HPU:=hid hpush;have HS8:=hid hS8;have z2:=aA hS8.1 2;have zf2:=aC hS8.1 2
  (try dsimp only at z2)
  clear hS T8 hpush hS8 hne hown8 hgrow hat hlt8 ho7 hbl7 hw76 hs7 hcs7 hown7 hel7;go_upto_region 21 with (fail)
  clear z2 zf2;obtain⟨w9,hw9⟩:=ez (w8.setCell ⟨b,2,none⟩ (.slice (some ⟨gg,0,none⟩) (0+1) cap8))
  have T9:=hid (show Turn (fun k=>k=b\/B<=k) w w9 by rw[hw9];exact(T6.out.trans HT8.out).trans (Turn.setCell ⟨b,2,none⟩ _ (.inl rfl)));have hfin:=hid (show StOwn B b w9 ⟨d.n,d.t,d.l++[⟨pv,n1,n2,[],[]⟩]⟩ by
   have g9:=aE (o:=2) (.slice (some ⟨gg,0,none⟩) (0+1) cap8) HS8.out.1;rw[<-hw9] at g9;simp only[List.setIfInBounds_toArray,List.set_cons_zero,List.set_cons_succ] at g9;exact⟨_,g9,HI.out.1,HI.out.2,HPU.out.move (fun j h1 h2=>by rw[hw9];exact Below.heap_setCell _ _ _ _ gi) (by rw[hw9];simp[World.setCell])⟩)
  try rw[<-hw9]
  clear hw9;by_cases he:pe=0
  ·subst he;go_wp2;go_ret;exact⟨true,rfl,T9.out,.inl ⟨rfl,⟨d.n,d.t,d.l++[⟨pv,n1,n2,[],[]⟩]⟩,by rw[HRF.out,if_pos gd],hfin.out⟩⟩
  ·have hx0:(pe==0)=false:=by simp;exact he
   have HE:=hid he;clear he;go_wp2;go_ret;exact⟨false,rfl,T9.out,.inr ⟨rfl,by rw[HRF.out,if_neg (fun h=>HE.out h.2.2)]⟩⟩
 ·obtain⟨gs,scap,rfl,hgB,hgl⟩:∃gs scap,sv=.slice (some ⟨gs,0,none⟩) (ls.length+1) scap/\B<=gs/\gs<w.heap.size:=by
   have hlen:=hl.len;rcases hl.row.2 with ⟨_,h0⟩ | ⟨g,cap,cur,rfl,h1,h2,_⟩
   ·omega
   ·exact⟨g,cap,by rw[hlen],h1,ltOf h2⟩
  have hlsn:ls.length+1<=2000:=by have:=hz.1;rw[hdl] at this;simp at this;omega
  have k1:(((ls.length+1:Nat):Int))-1=(ls.length:Int):=by omega
  have k2:(0:Int)<((ls.length+1:Nat):Int):=by omega
  have k3:(0:Int)<=(ls.length:Int):=by omega
  have k4:(ls.length:Int)<((ls.length+1:Nat):Int):=by omega
  obtain⟨ln,hln⟩:=ez ls.length
  obtain⟨ln1,hln1⟩:=ez (ls.length+1)
  rw[<-hln1] at k1 k2 k4 hlsn;rw[<-hln] at k1 k3 k4;have k5:wrap64 ((ln1:Int)-1)=(ln:Int):=by unfold wrap64;omega
  have k6:IntKind.i64.wrap ((ln1:Int)-1)=(ln:Int):=IntWalk.i64_in _ ga |>.trans ga;have c0:=aA hb 0;have c1:=aA hb 1;have c2:=aA hb 2;have f0:=aC hb 0;have f1:=aC hb 1;have f2:=aC hb 2
  (try dsimp only at c0 c1 c2)
  rw[<-hln1] at c2 HSL hb;have HB:=hid hb;have HLN:=hid (And.intro hln hln1);have HLL:=hid hl;have HDL:=hid hdl;clear hl hdl hb hz hok hT hI1 hI2 hln hln1;obtain⟨n1,hn1⟩:=ez ((cD rest).1)
  obtain⟨r1,hr1⟩:=ez ((cD rest).2.1)
  obtain⟨o1,ho1⟩:=ez ((cD rest).2.2)
  obtain⟨n2,hn2⟩:=ez ((cD r1).1)
  obtain⟨r2,hr2⟩:=ez ((cD r1).2.1)
  obtain⟨o2,ho2⟩:=ez ((cD r1).2.2)
  obtain⟨pv,hpv⟩:=ez ((eX r2).1)
  obtain⟨pp,hpp⟩:=ez ((eX r2).2.1)
  obtain⟨pe,hpe⟩:=ez ((eX r2).2.2)
  have HN1:Hid (∀w',NumVars w'->CP 83 #[.string rest] w' (Rt (.tuple #[I6 n1,.string r1,.bool o1]) w')):=hid fun w' h=>by rw[hn1,hr1,ho1];exact fU rest (by have:=HOK.out.z;omega) w' h
  have HN2:Hid (∀w',NumVars w'->CP 83 #[.string r1] w' (Rt (.tuple #[I6 n2,.string r2,.bool o2]) w')):=hid fun w' h=>by rw[hn2,hr2,ho2];exact fU r1 (by have:=HOK.out.z;have:=jO rest;rw[hr1];omega) w' h
  have HPA:Hid (∀w',Tabs w'->NumVars w'->CP 84 #[.string r2] w' fun x w2=>∃c:VC,x=.returned (.tuple #[c.v,I6 pp,I6 pe])/\IsVal (fun i=>w'.heap.size<=i/\i<w2.heap.size) w2 c pv/\BB w' w2):=hid fun w' h1 h2=>by rw[hpv,hpp,hpe];exact lX r2 w' (by rw[hr2,hr1];exact HOK.out.slot HWD.out) h1 h2
  have HRF:=hid (show cO d word rest=if o1=true/\o2=true/\pe=0 then some ⟨d.n,d.t,d.l++[⟨pv,n1,n2,[],[]⟩]⟩ else none by
   rw[HWD.out];unfold cO;rw[if_neg gc,if_pos rfl,hn1,hn2,ho1,ho2,hpv,hpe,hr2,hr1])
  have HI1:=hid (show I64 n1 by rw[hn1];exact bV _);have HI2:=hid (show I64 n2 by rw[hn2];exact bV _);have HLEN:=hid (show d.l.length=ln1 by rw[HDL.out];rw[HLN.out.2];simp);have HOV:=hid (show ∀r,Value.ownBlock (.slice (some ⟨gs,0,none⟩) ln1 scap)=some r->r<w.heap.size from fun r e=>(HSL.out.own r e).2);clear hn1 hr1 ho1 hn2 hr2 ho2 hpv hpp hpe;go_enter Tryz.func42,Tryz.ntmps42
  go_upto_region 13 with (fail)
  clear c0 c1 c2 f0 f1 f2;obtain⟨X,hX⟩:=ez w.heap.size
  obtain⟨w0,hw0⟩:=ez (w.alloc (.cells #[I6 0,I6 0,I6 0,.string ⟨#[]⟩,.slice none 0 0,.slice none 0 0,I6 0,I6 0,.slice none 0 0,.slice none 0 0] 66))
  rw[<-hw0,<-hX];have T0:=hid (show Turn (fun k=>k=b\/B<=k) w w0 by rw[hw0];exact Turn.of_below ((bR w).alloc lr _));have HXX:=hid (show w.heap.size<=X/\b<X by omega);have G0:=hid (show w0.heap[b]?=some (.cells #[I6 d.n,I6 d.t,.slice (some ⟨gs,0,none⟩) ln1 scap] 24)/\w0.heap[X]?=some (.cells #[I6 0,I6 0,I6 0,.string ⟨#[]⟩,.slice none 0 0,.slice none 0 0,I6 0,I6 0,.slice none 0 0,.slice none 0 0] 66) by rw[hw0,hX];exact⟨aD _ HB.out,heap_alloc_new w _⟩);have HBw:=hid hB;have K0:=hid (show ∀k,B<=k->k<w.heap.size->w0.heap[k]?=w.heap[k]? from fun k _ h=>by rw[hw0];exact Below.heap_alloc _ _ _ h);clear hw0 hX
  have HN1':=hid (HN1.out w0 (HT.out w0 T0.out).2.2);go_upto_region 14 with (go_at_call 83;refine HN1'.out.mono ?_;rintro e w1 ⟨rfl,hb1⟩;have g1:=aB hb1 G0.out.2;have HB1:=hid hb1;have G1:=hid g1;have x6:=aA g1 6;have y6:=aC g1 6;(try dsimp only at x6);clear g1 hb1)
  clear x6 y6;obtain⟨w2,hw2⟩:=ez (w1.setCell ⟨X,6,none⟩ (I6 n1))
  rw[<-hw2];have T2:=hid (show Turn (fun k=>k=b\/B<=k) w w2 by rw[hw2];exact(T0.out.trans (Turn.of_below HB1.out)).trans (Turn.setCell ⟨X,6,none⟩ _ (.inr (by dsimp only;have:=HXX.out;omega))));have g2:=aE (o:=6) (I6 n1) G1.out;rw[<-hw2] at g2;simp only[List.setIfInBounds_toArray,List.set_cons_zero,List.set_cons_succ] at g2
  have G2:=hid (show w2.heap[b]?=some (.cells #[I6 d.n,I6 d.t,.slice (some ⟨gs,0,none⟩) ln1 scap] 24)/\w2.heap[X]?=some (.cells #[I6 0,I6 0,I6 0,.string ⟨#[]⟩,.slice none 0 0,.slice none 0 0,I6 n1,I6 0,.slice none 0 0,.slice none 0 0] 66) from⟨by rw[hw2];exact(Below.heap_setCell _ _ _ _ (by have:=HXX.out;dsimp only;omega)).trans (aB HB1.out G0.out.1),g2⟩);have K2:=hid (show ∀k,B<=k->k<w.heap.size->w2.heap[k]?=w.heap[k]? from fun k h1 h2=>by rw[hw2];exact(Below.heap_setCell _ _ _ _ (by have:=HXX.out;dsimp only;omega)).trans ((HB1.out.block k (by have:=T0.out.size;omega)).trans (K0.out k h1 h2)))
  clear hw2 g2;cases o1
  ·go_wp2;go_ret;exact⟨false,rfl,T2.out,.inr ⟨rfl,by rw[HRF.out,if_neg gd]⟩⟩
  have HN2':=hid (HN2.out w2 (HT.out w2 T2.out).2.2);go_upto_region 17 with (go_at_call 83;refine HN2'.out.mono ?_;rintro e w3 ⟨rfl,hb3⟩;have g3:=aB hb3 G2.out.2;have HB3:=hid hb3;have G3:=hid g3;have x7:=aA g3 7;have y7:=aC g3 7;(try dsimp only at x7);clear g3 hb3)
  clear x7 y7;obtain⟨w4,hw4⟩:=ez (w3.setCell ⟨X,7,none⟩ (I6 n2))
  rw[<-hw4];have T4:=hid (show Turn (fun k=>k=b\/B<=k) w w4 by rw[hw4];exact(T2.out.trans (Turn.of_below HB3.out)).trans (Turn.setCell ⟨X,7,none⟩ _ (.inr (by dsimp only;have:=HXX.out;omega))));have g4:=aE (o:=7) (I6 n2) G3.out;rw[<-hw4] at g4;simp only[List.setIfInBounds_toArray,List.set_cons_zero,List.set_cons_succ] at g4
  have G4:=hid (show w4.heap[b]?=some (.cells #[I6 d.n,I6 d.t,.slice (some ⟨gs,0,none⟩) ln1 scap] 24)/\w4.heap[X]?=some (.cells #[I6 0,I6 0,I6 0,.string ⟨#[]⟩,.slice none 0 0,.slice none 0 0,I6 n1,I6 n2,.slice none 0 0,.slice none 0 0] 66) from⟨by rw[hw4];exact(Below.heap_setCell _ _ _ _ (by have:=HXX.out;dsimp only;omega)).trans (aB HB3.out G2.out.1),g4⟩);have K4:=hid (show ∀k,B<=k->k<w.heap.size->w4.heap[k]?=w.heap[k]? from fun k h1 h2=>by rw[hw4];exact(Below.heap_setCell _ _ _ _ (by have:=HXX.out;dsimp only;omega)).trans ((HB3.out.block k (by have:=T2.out.size;omega)).trans (K2.out k h1 h2)))
  clear hw4 g4;cases o2
  ·go_wp2;go_ret;exact⟨false,rfl,T4.out,.inr ⟨rfl,by rw[HRF.out,if_neg gd]⟩⟩
  have HPA':=hid (HPA.out w4 (HT.out w4 T4.out).1 (HT.out w4 T4.out).2.2);go_upto_region 20 with (go_at_call 84;refine HPA'.out.mono ?_;rintro e w5 ⟨c,rfl,hv5,hb5⟩;have g5:=aB hb5 G4.out.2;have HB5:=hid hb5;have HV5:=hid hv5;have G5:=hid g5;have x0:=aA g5 0;have y0:=aC g5 0;have x1:=aA g5 1;have y1:=aC g5 1;have x2:=aA g5 2;have y2:=aC g5 2;have x3:=aA g5 3;have y3:=aC g5 3;have x4:=aA g5 4;have y4:=aC g5 4;have x5:=aA g5 5;have y5:=aC g5 5;(try dsimp only at x0 x1 x2 x3 x4 x5);clear g5 hb5 hv5)
  clear x0 y0 x1 y1 x2 y2 x3 y3 x4 y4 x5 y5;obtain⟨w6,hw6⟩:=ez ((((((w5.setCell ⟨X,0,none⟩ (I6 c.k)).setCell ⟨X,1,none⟩ (I6 c.i)).setCell ⟨X,2,none⟩ (I6 c.s)).setCell ⟨X,3,none⟩ (.string c.t)).setCell ⟨X,4,none⟩ (.slice c.la c.ll c.lc)).setCell ⟨X,5,none⟩ (.slice c.fa c.fl c.fc))
  rw[<-hw6];have g6:=aE (o:=5) (.slice c.fa c.fl c.fc) (aE (o:=4) (.slice c.la c.ll c.lc) (aE (o:=3) (.string c.t) (aE (o:=2) (I6 c.s) (aE (o:=1) (I6 c.i) (aE (o:=0) (I6 c.k) G5.out)))));rw[<-hw6] at g6;simp only[List.setIfInBounds_toArray,List.set_cons_zero,List.set_cons_succ] at g6;have hoth:∀k,k≠X->w6.heap[k]?=w5.heap[k]?:=fun k hk=>by
   rw[hw6];exact(Below.heap_setCell _ _ _ _ hk).trans ((Below.heap_setCell _ _ _ _ hk).trans ((Below.heap_setCell _ _ _ _ hk).trans ((Below.heap_setCell _ _ _ _ hk).trans ((Below.heap_setCell _ _ _ _ hk).trans (Below.heap_setCell _ _ _ _ hk)))))
  have hs6:w6.heap.size=w5.heap.size:=by rw[hw6];simp[World.setCell]
  have hXB:B<=X:=by have:=HXX.out;omega
  have T6:=hid (show Turn (fun k=>k=b\/B<=k) w w6 by
   rw[hw6];exact(((((((T4.out.trans (Turn.of_below HB5.out)).trans (Turn.setCell ⟨X,0,none⟩ _ (.inr hXB))).trans (Turn.setCell ⟨X,1,none⟩ _ (.inr hXB))).trans (Turn.setCell ⟨X,2,none⟩ _ (.inr hXB))).trans (Turn.setCell ⟨X,3,none⟩ _ (.inr hXB))).trans (Turn.setCell ⟨X,4,none⟩ _ (.inr hXB))).trans (Turn.setCell ⟨X,5,none⟩ _ (.inr hXB))))
  have G6:=hid (show w6.heap[b]?=some (.cells #[I6 d.n,I6 d.t,.slice (some ⟨gs,0,none⟩) ln1 scap] 24)/\w6.heap[X]?=some (.cells #[I6 c.k,I6 c.i,I6 c.s,.string c.t,.slice c.la c.ll c.lc,.slice c.fa c.fl c.fc,I6 n1,I6 n2,.slice none 0 0,.slice none 0 0] 66) from⟨(hoth b (by have:=HXX.out;omega)).trans (aB HB5.out G4.out.1),g6⟩);have K6:=hid (show ∀k,B<=k->k<w.heap.size->w6.heap[k]?=w.heap[k]? from fun k h1 h2=>(hoth k (by have:=HXX.out;omega)).trans ((HB5.out.block k (by have:=T4.out.size;omega)).trans (K4.out k h1 h2)))
  have HV6:=hid (show IsVal (fun i=>w.heap.size<=i/\i<w6.heap.size) w6 c pv from HV5.out.same fun i hi=>⟨⟨by have:=T4.out.size;omega,by omega⟩,hoth i (fun e=>by have:=ltOf G4.out.2;omega)⟩);clear hw6 g6 hoth hs6
  have HC20:Hid (∀w':World,(w'.heap[b]?=some (.cells #[I6 d.n,I6 d.t,.slice (some ⟨gs,0,none⟩) ln1 scap] 24)/\w'.heap[X]?=some (.cells #[I6 c.k,I6 c.i,I6 c.s,.string c.t,.slice c.la c.ll c.lc,.slice c.fa c.fl c.fc,I6 n1,I6 n2,.slice none 0 0,.slice none 0 0] 66))->(Ce w' b 2 (.slice (some ⟨gs,0,none⟩) ln1 scap)/\w'.frozen? ⟨b,2,none⟩=false)/\(Ce w' X 0 (I6 c.k)/\Ce w' X 1 (I6 c.i)/\Ce w' X 2 (I6 c.s)/\Ce w' X 3 (.string c.t)/\Ce w' X 4 (.slice c.la c.ll c.lc)/\Ce w' X 5 (.slice c.fa c.fl c.fc)/\Ce w' X 6 (I6 n1)/\Ce w' X 7 (I6 n2)/\Ce w' X 8 (.slice none 0 0)/\Ce w' X 9 (.slice none 0 0))):=hid fun w' h=>⟨⟨aA h.1 2,aC h.1 2⟩,aA h.2 0,aA h.2 1,aA h.2 2,aA h.2 3,aA h.2 4,aA h.2 5,aA h.2 6,aA h.2 7,aA h.2 8,aA h.2 9⟩
  obtain⟨cs7,hcs7,hown7,hel7⟩:=(HSL.out.move K6.out T6.out.size).built HZ.out ga;rw[HLEN.out] at hown7;obtain⟨ti,hi,hz0,hz1,hz2⟩:=info_parts zQ;refine dP 8 (fun w'=>w'.heap[b]?=some (.cells #[I6 d.n,I6 d.t,.slice (some ⟨gs,0,none⟩) ln1 scap] 24)/\w'.heap[X]?=some (.cells #[I6 c.k,I6 c.i,I6 c.s,.string c.t,.slice c.la c.ll c.lc,.slice c.fa c.fl c.fc,I6 n1,I6 n2,.slice none 0 0,.slice none 0 0] 66)) ge ge ge gc (⟨G6.out.1,G6.out.2⟩) (fun hS=>?_);simp only[zdm,zdn,zdp,zdq]
  refine tc 0 HC20 ?_;refine tc 1 HC20 ?_;refine tc 2 HC20 ?_;refine tc 3 HC20 ?_;refine tc 4 HC20 ?_;refine tc 5 HC20 ?_;refine yr 6 fun K hK=>?_;generalize hw7:World.drew _=w7 at hS ⊢;have hs7:w7.heap.size=w6.heap.size:=by rw[<-hw7];rfl
  have ho7:w7.ownsRow B 66 10 (.slice (some ⟨gs,0,none⟩) ln1 scap) ln1 (cs7.flatMap SlC.cs):=qA hown7 (fun k o _ ho=>by rw[<-hw7];exact ho);have hbl7:∀j:Nat,w7.heap[j]?=w6.heap[j]?:=fun j=>by rw[<-hw7];rfl
  have hw76:w7.os=w6.os/\w7.tape=w6.tape/\w7.output=w6.output:=by rw[<-hw7];exact⟨rfl,rfl,rfl⟩
  have HS7:=hid hs7;have HBL7:=hid hbl7;have HW76:=hid hw76;have HO7:=hid ho7;clear hw7 hs7 hbl7 hw76 ho7;go_simp;refine hK.out _ _ (⟨aD _ ((HBL7.out b).trans G6.out.1),aD _ ((HBL7.out X).trans G6.out.2)⟩) (fun hS=>?_);clear hK K
  (try simp only[Act.put,pq])
  refine yr 7 fun K hK=>?_;refine step_append_lies _ gh _ _ _ gh B 66 ti _ 10 152 Tryz.underlying22 hi hz0 hz1 hz2 rfl ga (.slice (some ⟨gs,0,none⟩) ln1 scap) ln1 (cs7.flatMap SlC.cs) gh (HO7.out.alloc _) ⟨w7.heap.size,0,none⟩ 1 1 (SlC.cs ⟨c,n1,n2,none,0,0,none,0,0⟩) gh gh (World.news_of_block (heap_alloc_new w7 _)) (by simp[SlC.cs,Value.oneCell']) ga (by unfold maxLen;omega) ga (by have:=T6.out.size;have:=HBw.out;have:=HS7.out;simp;omega) (w7.heap.size+1) gd ?_;intro gg cap8 w8 hown8 hgrow hat hlt8
  have hs7:=HS7.out;have hbl7:=HBL7.out;have hw76:=HW76.out;have ho7:=HO7.out;have hne:∀j,j<w7.heap.size->(Value.ownBlock (.slice (some ⟨gs,0,none⟩) ln1 scap)=some j->False)->w8.heap[j]?=w7.heap[j]?:=fun j hj hn=>(hgrow.block j gj (fun e=>hn e.symm)).trans (Below.heap_alloc _ _ _ hj);have hS8:w8.heap[b]?=some (.cells #[I6 d.n,I6 d.t,.slice (some ⟨gs,0,none⟩) ln1 scap] 24)/\w8.heap[X]?=some (.cells #[I6 c.k,I6 c.i,I6 c.s,.string c.t,.slice c.la c.ll c.lc,.slice c.fa c.fl c.fc,I6 n1,I6 n2,.slice none 0 0,.slice none 0 0] 66):=by
   have hx:=HXX.out;have q1:=ltOf G6.out.1;have q2:=ltOf G6.out.2;refine⟨(hne b ga (fun e=>by have:=(ho7.lt b e).1;omega)).trans ((hbl7 b).trans G6.out.1),(hne X ga (fun e=>?_)).trans ((hbl7 X).trans G6.out.2)⟩;have:=HOV.out X e;omega
  refine hK.out _ _ (hS8) (fun hS=>?_);clear hK K
  (try simp only[Act.put,pq])
  refine wpAnyH_done ge ?_ _
  (try dsimp only)
  have T8:Turn (fun k=>k=b\/B<=k) w6 w8:=by
   refine⟨hgrow.os.trans hw76.1,hgrow.tape.trans hw76.2.1,hgrow.output.trans hw76.2.2,by have:=hgrow.size;simp at this;omega,fun j hj hR=>?_⟩;exact(hne j ga (fun e=>hR (.inr (ho7.lt j e).1))).trans (hbl7 j)
  have hpush:SlotsO B w8 (.slice (some ⟨gg,0,none⟩) (ln1+1) cap8) (d.l++[⟨pv,n1,n2,[],[]⟩]):=by
   have hlen:=HLEN.out;have hgo:(w7.alloc (.cells #[I6 c.k,I6 c.i,I6 c.s,.string c.t,.slice c.la c.ll c.lc,.slice c.fa c.fl c.fc,I6 n1,I6 n2,.slice none 0 0,.slice none 0 0] 66)).grownBy w8 (Value.ownBlock (.slice (some ⟨gs,0,none⟩) ln1 scap)):=hgrow;have q:=SlotsO.push (B:=B) (N:=w.heap.size) (w1:=w7) (w2:=w8) (sv:=(.slice (some ⟨gs,0,none⟩) ln1 scap)) (l:=d.l) (cs:=cs7) (k:=c) (dk:=pv) (n:=n1) (t:=n2) (g:=gg) (cap:=cap8) hcs7
    (fun j h1 h2=>(hel7 j h1 h2).same fun i hi=>⟨⟨hi.1,by have:=hi.2.1;omega,hi.2.2⟩,hbl7 i⟩) (HV6.out.same fun i hi=>⟨⟨hi.1,by have:=hi.2;omega⟩,hbl7 i⟩) HI1.out HI2.out HBw.out
    (fun r e=>HOV.out r e) (by rw[hlen];exact hown8) hgo hat
   rw[hlen] at q;exact q
  have HT8:=hid T8;have HPU:=hid hpush;have HS8:=hid hS8;have z2:=aA hS8.1 2;have zf2:=aC hS8.1 2
  (try dsimp only at z2)
  clear hS T8 hpush hS8 hne hown8 hgrow hat hlt8 ho7 hbl7 hw76 hs7 hcs7 hown7 hel7;go_upto_region 21 with (fail)
  clear z2 zf2;obtain⟨w9,hw9⟩:=ez (w8.setCell ⟨b,2,none⟩ (.slice (some ⟨gg,0,none⟩) (ln1+1) cap8))
  have T9:=hid (show Turn (fun k=>k=b\/B<=k) w w9 by rw[hw9];exact(T6.out.trans HT8.out).trans (Turn.setCell ⟨b,2,none⟩ _ (.inl rfl)));have hfin:=hid (show StOwn B b w9 ⟨d.n,d.t,d.l++[⟨pv,n1,n2,[],[]⟩]⟩ by
   have g9:=aE (o:=2) (.slice (some ⟨gg,0,none⟩) (ln1+1) cap8) HS8.out.1;rw[<-hw9] at g9;simp only[List.setIfInBounds_toArray,List.set_cons_zero,List.set_cons_succ] at g9;exact⟨_,g9,HI.out.1,HI.out.2,HPU.out.move (fun j h1 h2=>by rw[hw9];exact Below.heap_setCell _ _ _ _ gi) (by rw[hw9];simp[World.setCell])⟩)
  try rw[<-hw9]
  clear hw9;by_cases he:pe=0
  ·subst he;go_wp2;go_ret;exact⟨true,rfl,T9.out,.inl ⟨rfl,⟨d.n,d.t,d.l++[⟨pv,n1,n2,[],[]⟩]⟩,by rw[HRF.out,if_pos gd],hfin.out⟩⟩
  ·have hx0:(pe==0)=false:=by simp;exact he
   have HE:=hid he;clear he;go_wp2;go_ret;exact⟨false,rfl,T9.out,.inr ⟨rfl,by rw[HRF.out,if_neg (fun h=>HE.out h.2.2)]⟩⟩
theorem xG (B b:Nat) (d:Sta) (word rest:ByteArray) (w:World) (hd:StOwn B b w d) (hbB:b<B) (hB:B<=w.heap.size) (n:Nat) (hz:Sz n d.l) (hn:n<=2000) (hT:∀w',Below b w w'->Tabs w'/\ZTab w'/\NumVars w') (hok:LnOK word rest) (hw:word=wItem) (hne:d.l≠[]) :
 CP 42 #[.pointer (some ⟨b,0,none⟩),.string word,.string rest] w (lM B b d word rest w):=by
 obtain⟨sv,hb,hI1,hI2,hsl⟩:=hd;have hbl:=ltOf hb;have HZ:=hid hz;have HT:Hid (∀w',Turn (fun k=>k=b\/B<=k) w w'->Tabs w'/\ZTab w'/\NumVars w'):=hid fun w' h=>hT w' (jT hbB (Nat.le_of_lt hbl) h);have HOK:=hid hok;have HI:=hid (And.intro hI1 hI2);have q1:(word.toList==[115,116,97,116,101])=false:=jA _ _ (by rw[hw];decide);have q2:(word.toList==[115,108,111,116])=false:=jA _ _ (by rw[hw];decide);have q3:(word.toList==[105,116,101,109])=true:=qY _ _ hw;have HWD:=hid hw;clear hw;have HSL:=hid hsl;have HRF:=hid (show cO d word rest=match qT rest with
  | some m=>some ⟨d.n,d.t,eZ (fI m) d.l⟩
  | none=>none by
  rw[HWD.out];unfold cO;rw[if_neg gc,if_neg gc,if_neg hne,if_pos rfl];cases qT rest<;>rfl)
 rcases hsl with ⟨hdl,_⟩ | ⟨ls,x,cs,c,hdl,hl⟩
 ·exact absurd hdl hne
 clear hne;obtain⟨gs,scap,rfl,hgB,hgl⟩:∃gs scap,sv=.slice (some ⟨gs,0,none⟩) (ls.length+1) scap/\B<=gs/\gs<w.heap.size:=by
  have hlen:=hl.len;rcases hl.row.2 with ⟨_,h0⟩ | ⟨g,cap,cur,rfl,h1,h2,_⟩
  ·omega
  ·exact⟨g,cap,by rw[hlen],h1,ltOf h2⟩
 have hlsn:ls.length+1<=2000:=by have:=hz.1;rw[hdl] at this;simp at this;omega
 have k1:(((ls.length+1:Nat):Int))-1=(ls.length:Int):=by omega
 have k2:(0:Int)<((ls.length+1:Nat):Int):=by omega
 have k3:(0:Int)<=(ls.length:Int):=by omega
 have k4:(ls.length:Int)<((ls.length+1:Nat):Int):=by omega
 obtain⟨ln,hln⟩:=ez ls.length
 obtain⟨ln1,hln1⟩:=ez (ls.length+1)
 rw[<-hln1] at k1 k2 k4 hlsn;rw[<-hln] at k1 k3 k4;have k5:wrap64 ((ln1:Int)-1)=(ln:Int):=by unfold wrap64;omega
 have k6:IntKind.i64.wrap ((ln1:Int)-1)=(ln:Int):=IntWalk.i64_in _ ga |>.trans ga;have c0:=aA hb 0;have c1:=aA hb 1;have c2:=aA hb 2;have f0:=aC hb 0;have f1:=aC hb 1;have f2:=aC hb 2
 (try dsimp only at c0 c1 c2)
 rw[<-hln1] at c2 HSL hb;have HB:=hid hb;have HLN:=hid (And.intro hln hln1);have HLL:=hid hl;have HDL:=hid hdl;clear hl hdl hb hz hok hT hI1 hI2 hln hln1;obtain⟨Y,hY⟩:=ez w.heap.size
 obtain⟨O,hO⟩:=ez (ln * 10)
 have HOO:=hid hO;go_enter Tryz.func42,Tryz.ntmps42
 go_upto_region 26 with (fail)
 clear c0 c1 c2 f0 f1 f2;obtain⟨w0,hw0⟩:=ez (w.alloc (.cells #[I6 0,.slice none 0 0,I6 0,.slice none 0 0,I6 0,I6 0,I6 0,.string ⟨#[]⟩,.slice none 0 0,.slice none 0 0] 86))
 rw[<-hw0,<-hY,<-hO];have T0:=hid (show Turn (fun k=>k=b\/B<=k) w w0 by rw[hw0];exact Turn.of_below ((bR w).alloc lr _));have HXX:=hid (show w.heap.size<=Y/\b<Y/\gs<Y by omega);have G0:=hid (show w0.heap[b]?=some (.cells #[I6 d.n,I6 d.t,.slice (some ⟨gs,0,none⟩) ln1 scap] 24)/\w0.heap[Y]?=some (.cells #[I6 0,.slice none 0 0,I6 0,.slice none 0 0,I6 0,I6 0,I6 0,.string ⟨#[]⟩,.slice none 0 0,.slice none 0 0] 86) by rw[hw0,hY];exact⟨aD _ HB.out,heap_alloc_new w _⟩);have HBw:=hid hB;have HGL:=hid hgl
 have K0:=hid (show ∀k,k<w.heap.size->w0.heap[k]?=w.heap[k]? from fun k h=>by rw[hw0];exact Below.heap_alloc _ _ _ h);clear hw0 hY hO;have HMD:=hid (mDec_u rest w0 HOK.out.z (HOK.out.item HWD.out) (HT.out w0 T0.out).1 (HT.out w0 T0.out).2.1 (HT.out w0 T0.out).2.2)
 go_upto_region 27 with (go_at_call 85;refine HMD.out.mono ?_;rintro e w5 ⟨m,dm,E,rfl,hv5,hE,hb5⟩;have g5:=aB hb5 G0.out.2;have HB5:=hid hb5;have HV5:=hid hv5;have HE:=hid hE;have G5:=hid g5;have x0:=aA g5 0;have y0:=aC g5 0;have x1:=aA g5 1;have y1:=aC g5 1;have x2:=aA g5 2;have y2:=aC g5 2;have x3:=aA g5 3;have y3:=aC g5 3;have x4:=aA g5 4;have y4:=aC g5 4;have x5:=aA g5 5;have y5:=aC g5 5;have x6:=aA g5 6;have y6:=aC g5 6;have x7:=aA g5 7;have y7:=aC g5 7;have x8:=aA g5 8;have y8:=aC g5 8;have x9:=aA g5 9;have y9:=aC g5 9;(try dsimp only at x0 x1 x2 x3 x4 x5 x6 x7 x8 x9);clear g5 hb5 hv5 hE)
 clear x0 y0 x1 y1 x2 y2 x3 y3 x4 y4 x5 y5 x6 y6 x7 y7 x8 y8 x9 y9;obtain⟨w6,hw6⟩:=ez ((((((((((w5.setCell ⟨Y,0,none⟩ (I6 m.st.e)).setCell ⟨Y,1,none⟩ (.slice m.st.a m.st.n m.st.c)).setCell ⟨Y,2,none⟩ (I6 m.m)).setCell ⟨Y,3,none⟩ (.slice m.a m.n m.c)).setCell ⟨Y,4,none⟩ (I6 m.b.k)).setCell ⟨Y,5,none⟩ (I6 m.b.i)).setCell ⟨Y,6,none⟩ (I6 m.b.s)).setCell ⟨Y,7,none⟩ (.string m.b.t)).setCell ⟨Y,8,none⟩ (.slice m.b.la m.b.ll m.b.lc)).setCell ⟨Y,9,none⟩ (.slice m.b.fa m.b.fl m.b.fc))
 rw[<-hw6];have g6:=aE (o:=9) (.slice m.b.fa m.b.fl m.b.fc) (aE (o:=8) (.slice m.b.la m.b.ll m.b.lc) (aE (o:=7) (.string m.b.t) (aE (o:=6) (I6 m.b.s) (aE (o:=5) (I6 m.b.i) (aE (o:=4) (I6 m.b.k) (aE (o:=3) (.slice m.a m.n m.c) (aE (o:=2) (I6 m.m) (aE (o:=1) (.slice m.st.a m.st.n m.st.c) (aE (o:=0) (I6 m.st.e) (G5.out))))))))));rw[<-hw6] at g6;simp only[List.setIfInBounds_toArray,List.set_cons_zero,List.set_cons_succ] at g6;have hoth:∀k,k≠Y->w6.heap[k]?=w5.heap[k]?:=fun k hk=>by
  rw[hw6];exact(Below.heap_setCell _ _ _ _ hk).trans ((Below.heap_setCell _ _ _ _ hk).trans ((Below.heap_setCell _ _ _ _ hk).trans ((Below.heap_setCell _ _ _ _ hk).trans ((Below.heap_setCell _ _ _ _ hk).trans ((Below.heap_setCell _ _ _ _ hk).trans ((Below.heap_setCell _ _ _ _ hk).trans ((Below.heap_setCell _ _ _ _ hk).trans ((Below.heap_setCell _ _ _ _ hk).trans (Below.heap_setCell _ _ _ _ hk)))))))))
 have hs6:w6.heap.size=w5.heap.size:=by rw[hw6];simp[World.setCell]
 have hYB:B<=Y:=by have:=HXX.out;omega
 have T6:=hid (show Turn (fun k=>k=b\/B<=k) w w6 by
  rw[hw6];exact(((((((((((T0.out.trans (Turn.of_below HB5.out)).trans (Turn.setCell ⟨Y,0,none⟩ _ (.inr hYB))).trans (Turn.setCell ⟨Y,1,none⟩ _ (.inr hYB))).trans (Turn.setCell ⟨Y,2,none⟩ _ (.inr hYB))).trans (Turn.setCell ⟨Y,3,none⟩ _ (.inr hYB))).trans (Turn.setCell ⟨Y,4,none⟩ _ (.inr hYB))).trans (Turn.setCell ⟨Y,5,none⟩ _ (.inr hYB))).trans (Turn.setCell ⟨Y,6,none⟩ _ (.inr hYB))).trans (Turn.setCell ⟨Y,7,none⟩ _ (.inr hYB))).trans (Turn.setCell ⟨Y,8,none⟩ _ (.inr hYB))).trans (Turn.setCell ⟨Y,9,none⟩ _ (.inr hYB))))
 have K6:=hid (show ∀k,k<w.heap.size->w6.heap[k]?=w.heap[k]? from fun k h=>(hoth k (by have:=HXX.out;omega)).trans ((HB5.out.block k (by have:=T0.out.size;omega)).trans (K0.out k h)));have G6b:=hid (show w6.heap[b]?=some (.cells #[I6 d.n,I6 d.t,.slice (some ⟨gs,0,none⟩) ln1 scap] 24) from(K6.out b hbl).trans HB.out);have G6:=hid (show w6.heap[b]?=some (.cells #[I6 d.n,I6 d.t,.slice (some ⟨gs,0,none⟩) ln1 scap] 24)/\w6.heap[Y]?=some (oM m 86) from⟨G6b.out,g6⟩)
 have HV6:=hid (show IsMsg (fun i=>w.heap.size<=i/\i<w6.heap.size) w6 m dm from HV5.out.same fun i hi=>⟨⟨by have:=T0.out.size;omega,by omega⟩,hoth i (fun e=>by have:=ltOf G0.out.2;omega)⟩);clear hw6 g6 hoth hs6;have HL6:=hid (show LastO B w6 (.slice (some ⟨gs,0,none⟩) ln1 scap) ls x cs c by have h:=HLL.out;rw[<-HLN.out.2] at h;exact h.move (fun k _ h2=>K6.out k h2) T6.out.size);have HOI:=hid (show ∀r,c.iv.ownBlock=some r\/c.vv.ownBlock=some r->r<w.heap.size from fun r e=>e.elim (fun e=>(HLL.out.items.own r e).2) (fun e=>(HLL.out.vals.own r e).2))
 have HXZ:=hid (show x.items.length<=2000 from by have:=(HZ.out.2 x (by rw[HDL.out];simp)).1;omega);have HC27:Hid (∀w':World,(w'.heap[gs]?=w6.heap[gs]?/\w'.heap[Y]?=some (oM m 86))->(w'.cell? ⟨gs,O+8,none⟩=some (.slice c.ia c.il c.ic)/\w'.frozen? ⟨gs,O+8,none⟩=false)/\(Ce w' Y 0 (I6 m.st.e)/\Ce w' Y 1 (.slice m.st.a m.st.n m.st.c)/\Ce w' Y 2 (I6 m.m)/\Ce w' Y 3 (.slice m.a m.n m.c)/\Ce w' Y 4 (I6 m.b.k)/\Ce w' Y 5 (I6 m.b.i)/\Ce w' Y 6 (I6 m.b.s)/\Ce w' Y 7 (.string m.b.t)/\Ce w' Y 8 (.slice m.b.la m.b.ll m.b.lc)/\Ce w' Y 9 (.slice m.b.fa m.b.fl m.b.fc))):=hid fun w' h=>by
  have hq:=HL6.out.lastCell';rw[<-HLN.out.1,<-HOO.out] at hq;refine⟨⟨(World.cell?_of_block (w:=w6) (a:=⟨gs,O+8,none⟩) h.1).trans hq.1,(dD h.1).trans (hq.2.2 8)⟩,aA h.2 0,aA h.2 1,aA h.2 2,aA h.2 3,aA h.2 4,aA h.2 5,aA h.2 6,aA h.2 7,aA h.2 8,aA h.2 9⟩
 obtain⟨ti,hi,hz0,hz1,hz2⟩:=info_parts aBy;refine dP 8 (fun w'=>w'.heap[gs]?=w6.heap[gs]?/\w'.heap[Y]?=some (oM m 86)) ge ge ge gc (⟨rfl,G6.out.2⟩) (fun hS=>?_);simp only[zdm,zdn,zdp,zdq];refine tc 0 HC27 ?_;refine tc 1 HC27 ?_;refine tc 2 HC27 ?_;refine tc 3 HC27 ?_;refine tc 4 HC27 ?_;refine tc 5 HC27 ?_;refine yr 6 fun K hK=>?_;generalize hw7:World.drew _=w7 at hS ⊢;have hs7:w7.heap.size=w6.heap.size:=by rw[<-hw7];rfl
 have hbl7:∀j:Nat,w7.heap[j]?=w6.heap[j]?:=fun j=>by rw[<-hw7];rfl
 have hw76:w7.os=w6.os/\w7.tape=w6.tape/\w7.output=w6.output:=by rw[<-hw7];exact⟨rfl,rfl,rfl⟩
 have hL7:LastO B w7 (.slice (some ⟨gs,0,none⟩) ln1 scap) ls x cs c:=HL6.out.move (fun j _ _=>hbl7 j) ga;obtain⟨xs,hxs,hxo,hxe⟩:=hL7.items;have HL7:=hid hL7;have HXS:=hid hxs;have HXE:=hid hxe;have HS7:=hid hs7;have HBL7:=hid hbl7;have HW76:=hid hw76;have HXO:=hid hxo;clear hw7 hL7 hxs hxe hs7 hbl7 hw76 hxo;go_simp;refine hK.out _ _ (⟨(cW w7 _ gs (by have:=HGL.out;have:=T6.out.size;have:=HS7.out;omega)).trans (HBL7.out gs),aD _ ((HBL7.out Y).trans G6.out.2)⟩) (fun hS=>?_);clear hK K
 (try simp only[Act.put,pq])
 refine yr 7 fun K hK=>?_;refine step_append_lies _ gh _ _ _ gh B 86 ti _ 10 152 Tryz.underlying64 hi hz0 hz1 hz2 rfl ga (.slice c.ia c.il c.ic) x.items.length (xs.flatMap MC.cs) gh (HXO.out.alloc _) ⟨w7.heap.size,0,none⟩ 1 1 (MC.cs m) gh gh (World.news_of_block (heap_alloc_new w7 _)) (by simp[MC.cs,Value.oneCell']) ga (by have:=HXZ.out;unfold maxLen;omega) (by have:=HXZ.out;omega) (by have:=T6.out.size;have:=HBw.out;have:=HS7.out;simp;omega) (w7.heap.size+1) gd ?_;intro gg cap8 w8 hown8 hgrow hat hlt8
 have hs7:=HS7.out;have hbl7:=HBL7.out;have hw76:=HW76.out;have hxo:=HXO.out;have hne:∀j,j<w7.heap.size->(c.iv.ownBlock=some j->False)->w8.heap[j]?=w7.heap[j]?:=fun j hj hn=>(hgrow.block j gj (fun e=>hn e.symm)).trans (Below.heap_alloc _ _ _ hj);have hgsn:c.iv.ownBlock≠some gs:=fun e=>(HL7.out.d1 gs e).1 rfl;have hYn:c.iv.ownBlock≠some Y:=fun e=>by have:=HOI.out Y (.inl e);have:=HXX.out;omega
 have hS8:w8.heap[gs]?=w6.heap[gs]?/\w8.heap[Y]?=some (oM m 86):=by
  have q1:=ltOf G6.out.1;have q2:=ltOf G6.out.2;have q3:=HGL.out;have q4:=T6.out.size;exact⟨(hne gs ga hgsn).trans (hbl7 gs),(hne Y ga hYn).trans ((hbl7 Y).trans G6.out.2)⟩
 refine hK.out _ _ (hS8) (fun hS=>?_);clear hK K
 (try simp only[Act.put,pq])
 refine wpAnyH_done ge ?_ _
 (try dsimp only)
 have hownF:=hown8;have hgrowF:(w7.alloc (oM m 86)).grownBy w8 c.iv.ownBlock:=hgrow;have hb8:w8.heap[b]?=some (.cells #[I6 d.n,I6 d.t,.slice (some ⟨gs,0,none⟩) ln1 scap] 24):=(hne b (by have:=ltOf HB.out;have:=T6.out.size;omega) (fun e=>by have:=(hxo.lt b e).1;omega)).trans ((hbl7 b).trans G6b.out);have T8:Turn (fun k=>k=b\/B<=k) w6 w8:=by
  refine⟨hgrowF.os.trans hw76.1,hgrowF.tape.trans hw76.2.1,hgrowF.output.trans hw76.2.2,by have:=hgrowF.size;simp at this;omega,fun j hj hR=>?_⟩;exact((hgrowF.block j gj (fun e=>hR (.inr (hxo.lt j e.symm).1))).trans (Below.heap_alloc _ _ _ ga)).trans (hbl7 j)
 have hpush:=LastO.pushI (N:=w.heap.size) (w1:=w7) (w2:=w8) (gs:=gs) (scap:=scap) (ls:=ls) (x:=x) (cs:=cs) (c:=c) (xs:=xs) (m:=m) (dm:=dm) (g:=gg) (cap:=cap8) (by have h:=HL7.out;rw[HLN.out.2] at h;exact h) HXS.out (by have h:=HXE.out;rw[HLN.out.2] at h;exact h)
  (HV6.out.same fun i hi=>⟨⟨hi.1,by have:=hi.2;omega⟩,hbl7 i⟩) HBw.out HGL.out (fun r e=>HOI.out r (.inl e)) (fun r e=>HOI.out r (.inr e)) hownF hgrowF hat
 have HT8:=hid T8;have HPU:=hid hpush;have HB8:=hid hb8;have hq8:=HL6.out.lastCell';have z8:w8.cell? ⟨gs,O+8,none⟩=some (.slice c.ia c.il c.ic):=(World.cell?_of_block (w:=w6) (a:=⟨gs,O+8,none⟩) hS8.1).trans (by have hq:=hq8.1;rw[<-HLN.out.1,<-HOO.out] at hq;exact hq);have zf8:w8.frozen? ⟨gs,O+8,none⟩=false:=(dD (w:=w6) (a:=⟨gs,O+8,none⟩) hS8.1).trans (by have hq:=hq8.2.2 8;rw[<-HLN.out.1,<-HOO.out] at hq;exact hq);clear hS T8 hpush hS8 hne hown8 hgrow hat hlt8 hbl7 hw76 hs7 hxo hownF hgrowF hb8 HL7 HXS HXE hgsn hYn hq8;go_upto_region 28 with (fail)
 clear z8 zf8;obtain⟨w9,hw9⟩:=ez (w8.setCell ⟨gs,O+8,none⟩ (.slice (some ⟨gg,0,none⟩) (x.items.length+1) cap8))
 have T9:=hid (show Turn (fun k=>k=b\/B<=k) w w9 by rw[hw9];exact(T6.out.trans HT8.out).trans (Turn.setCell ⟨gs,O+8,none⟩ _ (.inr hgB)));have hfin:=hid (show StOwn B b w9 ⟨d.n,d.t,ls++[fI dm x]⟩ by
  have hpush:=HPU.out;have e1:O=ls.length * 10:=by rw[HOO.out,HLN.out.1]
  rw[<-HLN.out.2,<-e1,<-hw9] at hpush;have hbx:w9.heap[b]?=some (.cells #[I6 d.n,I6 d.t,.slice (some ⟨gs,0,none⟩) ln1 scap] 24):=by
   rw[hw9];exact(Below.heap_setCell _ _ _ _ gi).trans HB8.out
  exact⟨_,hbx,HI.out.1,HI.out.2,.inr ⟨ls,_,cs,_,rfl,hpush⟩⟩)
 try rw[<-hw9]
 clear hw9;rcases HE.out with ⟨rfl,hdm⟩ | ⟨rfl,hdm⟩
 ·have HDM:=hid hdm;clear hdm;go_wp2;go_ret;exact⟨true,rfl,T9.out,.inl ⟨rfl,⟨d.n,d.t,ls++[fI dm x]⟩,by rw[HRF.out,HDM.out,HDL.out];dsimp only;rw[fY],hfin.out⟩⟩
 ·have HDM:=hid hdm;clear hdm;go_wp2;go_ret;exact⟨false,rfl,T9.out,.inr ⟨rfl,by rw[HRF.out,HDM.out]⟩⟩
theorem aB9 (B b:Nat) (d:Sta) (word rest:ByteArray) (w:World) (hd:StOwn B b w d) (hbB:b<B) (hB:B<=w.heap.size) (n:Nat) (hz:Sz n d.l) (hn:n<=2000) (hT:∀w',Below b w w'->Tabs w'/\ZTab w'/\NumVars w') (hok:LnOK word rest) (hw:word≠wState/\word≠wSlot/\word≠wItem) (hne:d.l≠[]) :
 CP 42 #[.pointer (some ⟨b,0,none⟩),.string word,.string rest] w (lM B b d word rest w):=by
 obtain⟨sv,hb,hI1,hI2,hsl⟩:=hd;have hbl:=ltOf hb;have HZ:=hid hz;have HT:Hid (∀w',Turn (fun k=>k=b\/B<=k) w w'->Tabs w'/\ZTab w'/\NumVars w'):=hid fun w' h=>hT w' (jT hbB (Nat.le_of_lt hbl) h);have HOK:=hid hok;have HI:=hid (And.intro hI1 hI2);have q1:(word.toList==[115,116,97,116,101])=false:=jA _ _ hw.1;have q2:(word.toList==[115,108,111,116])=false:=jA _ _ hw.2.1;have q3:(word.toList==[105,116,101,109])=false:=jA _ _ hw.2.2;have HWN:=hid hw;have HSL:=hid hsl;have HRF:=hid (show cO d word rest=if (eX rest).2.2=0/\word=wValue then some ⟨d.n,d.t,eZ (fQ (eX rest).1) d.l⟩ else none by
  unfold cO;rw[if_neg hw.1,if_neg hw.2.1,if_neg hne,if_neg hw.2.2])
 clear hw;rcases hsl with ⟨hdl,_⟩ | ⟨ls,x,cs,c,hdl,hl⟩
 ·exact absurd hdl hne
 clear hne;obtain⟨gs,scap,rfl,hgB,hgl⟩:∃gs scap,sv=.slice (some ⟨gs,0,none⟩) (ls.length+1) scap/\B<=gs/\gs<w.heap.size:=by
  have hlen:=hl.len;rcases hl.row.2 with ⟨_,h0⟩ | ⟨g,cap,cur,rfl,h1,h2,_⟩
  ·omega
  ·exact⟨g,cap,by rw[hlen],h1,ltOf h2⟩
 have hlsn:ls.length+1<=2000:=by have:=hz.1;rw[hdl] at this;simp at this;omega
 have k1:(((ls.length+1:Nat):Int))-1=(ls.length:Int):=by omega
 have k2:(0:Int)<((ls.length+1:Nat):Int):=by omega
 have k3:(0:Int)<=(ls.length:Int):=by omega
 have k4:(ls.length:Int)<((ls.length+1:Nat):Int):=by omega
 obtain⟨ln,hln⟩:=ez ls.length
 obtain⟨ln1,hln1⟩:=ez (ls.length+1)
 rw[<-hln1] at k1 k2 k4 hlsn;rw[<-hln] at k1 k3 k4;have k5:wrap64 ((ln1:Int)-1)=(ln:Int):=by unfold wrap64;omega
 have k6:IntKind.i64.wrap ((ln1:Int)-1)=(ln:Int):=IntWalk.i64_in _ ga |>.trans ga;have c0:=aA hb 0;have c1:=aA hb 1;have c2:=aA hb 2;have f0:=aC hb 0;have f1:=aC hb 1;have f2:=aC hb 2
 (try dsimp only at c0 c1 c2)
 rw[<-hln1] at c2 HSL hb;have HB:=hid hb;have HLN:=hid (And.intro hln hln1);have HLL:=hid hl;have HDL:=hid hdl;clear hl hdl hb hz hok hT hI1 hI2 hln hln1;obtain⟨O,hO⟩:=ez (ln * 10)
 have HOO:=hid hO;obtain⟨dm,hpv⟩:=ez ((eX rest).1)
 obtain⟨pp,hpp⟩:=ez ((eX rest).2.1)
 obtain⟨pe,hpe⟩:=ez ((eX rest).2.2)
 have HPA:Hid (CP 84 #[.string rest] w fun x w2=>∃c:VC,x=.returned (.tuple #[.agg #[I6 c.k,I6 c.i,I6 c.s,.string c.t,.slice c.la c.ll c.lc,.slice c.fa c.fl c.fc],I6 pp,I6 pe])/\IsVal (fun i=>w.heap.size<=i/\i<w2.heap.size) w2 c dm/\BB w w2):=hid (by rw[hpv,hpp,hpe];exact lX rest w (HOK.out.other HWN.out.1 HWN.out.2.1 HWN.out.2.2) (HT.out w (Turn.refl _ _)).1 (HT.out w (Turn.refl _ _)).2.2);have HRF':=hid (show cO d word rest=if pe=0/\word=wValue then some ⟨d.n,d.t,eZ (fQ dm) d.l⟩ else none by rw[HRF.out,hpe,hpv]);clear hpv hpp hpe;have HBw:=hid hB;have HGL:=hid hgl;go_enter Tryz.func42,Tryz.ntmps42
 go_upto_region 29 with (fail)
 clear c0 c1 c2 f0 f1 f2;rw[<-hO];clear hO;go_upto_region 30 with (go_at_call 84;refine HPA.out.mono ?_;rintro e w5 ⟨m,rfl,hv5,hb5⟩;have HB5:=hid hb5;have HV5:=hid hv5;clear hb5 hv5)
 obtain⟨Y,hY⟩:=ez w5.heap.size
 obtain⟨w6,hw6⟩:=ez (w5.alloc (oV m 36))
 rw[<-hw6,<-hY];have hs65:w6.heap.size=w5.heap.size+1:=by rw[hw6];simp
 have HXX:=hid (show w.heap.size<=Y/\b<Y/\gs<Y by have:=HB5.out.size;omega);have hoth:∀k,k<w5.heap.size->w6.heap[k]?=w5.heap[k]?:=fun k hk=>by rw[hw6];exact Below.heap_alloc _ _ _ hk
 have T6:=hid (show Turn (fun k=>k=b\/B<=k) w w6 by rw[hw6];exact Turn.of_below (HB5.out.alloc HB5.out.size _));have K6:=hid (show ∀k,k<w.heap.size->w6.heap[k]?=w.heap[k]? from fun k h=>(hoth k (by have:=HB5.out.size;omega)).trans (HB5.out.block k h));have G6b:=hid (show w6.heap[b]?=some (.cells #[I6 d.n,I6 d.t,.slice (some ⟨gs,0,none⟩) ln1 scap] 24) from(K6.out b hbl).trans HB.out);have G6:=hid (show w6.heap[b]?=some (.cells #[I6 d.n,I6 d.t,.slice (some ⟨gs,0,none⟩) ln1 scap] 24)/\w6.heap[Y]?=some (oV m 36) from⟨G6b.out,by rw[hw6,hY];exact heap_alloc_new w5 _⟩)
 have HV6:=hid (show IsVal (fun i=>w.heap.size<=i/\i<w6.heap.size) w6 m dm from HV5.out.same fun i hi=>⟨⟨hi.1,by omega⟩,hoth i hi.2⟩);clear hw6 hoth hs65 hY;have HL6:=hid (show LastO B w6 (.slice (some ⟨gs,0,none⟩) ln1 scap) ls x cs c by have h:=HLL.out;rw[<-HLN.out.2] at h;exact h.move (fun k _ h2=>K6.out k h2) T6.out.size);have HOI:=hid (show ∀r,c.iv.ownBlock=some r\/c.vv.ownBlock=some r->r<w.heap.size from fun r e=>e.elim (fun e=>(HLL.out.items.own r e).2) (fun e=>(HLL.out.vals.own r e).2))
 have HVL:=hid (show x.vals.length<=2000/\x.vals.length=c.vl from⟨by have:=(HZ.out.2 x (by rw[HDL.out];simp)).2;omega,by
  obtain⟨_,_,q,_⟩:=HLL.out.vals;rcases q.2 with ⟨h4,h5⟩ | ⟨g,cap',cur,hv,_⟩
  ·simp only[Value.slice.injEq] at h4;omega
  ·simp only[Value.slice.injEq] at hv;omega⟩)
 have HXZ:=hid (show c.vl<=2000 by have:=HVL.out;omega);have HC30:Hid (∀w':World,(w'.heap[gs]?=w6.heap[gs]?/\w'.heap[Y]?=some (oV m 36))->(w'.cell? ⟨gs,O+9,none⟩=some (.slice c.va c.vl c.vc)/\w'.frozen? ⟨gs,O+9,none⟩=false)/\(Ce w' Y 0 (I6 m.k)/\Ce w' Y 1 (I6 m.i)/\Ce w' Y 2 (I6 m.s)/\Ce w' Y 3 (.string m.t)/\Ce w' Y 4 (.slice m.la m.ll m.lc)/\Ce w' Y 5 (.slice m.fa m.fl m.fc))):=hid fun w' h=>by
  have hq:=HL6.out.lastCell';rw[<-HLN.out.1,<-HOO.out] at hq;refine⟨⟨(World.cell?_of_block (w:=w6) (a:=⟨gs,O+9,none⟩) h.1).trans hq.2.1,(dD h.1).trans (hq.2.2 9)⟩,aA h.2 0,aA h.2 1,aA h.2 2,aA h.2 3,aA h.2 4,aA h.2 5⟩
 obtain⟨ti,hi,hz0,hz1,hz2⟩:=info_parts lE;refine wp_region_two' 12 (S:=(fun w'=>w'.heap[gs]?=w6.heap[gs]?/\w'.heap[Y]?=some (oV m 36))) ge (fun _=>⟨rfl,G6.out.2⟩) ?_;refine bO (i:=0) (oi:=_) (v:=?_) rfl gc ge ge ge (fun _ _ _ h=>h) (Or.inl ⟨by rfl,?_⟩) (fun _=>⟨rfl,G6.out.2⟩) ?_;rotate_left
 ·intro w' hw'
  skip
  go_simp
  (try rfl)
 simp only[Act.put,pq];refine bO (i:=1) (oi:=_) (v:=?_) rfl gc ge ge ge (fun _ _ _ h=>h) (Or.inl ⟨by rfl,?_⟩) (fun _=>⟨rfl,G6.out.2⟩) ?_;rotate_left
 ·intro w' hw'
  skip
  go_simp
  (try rfl)
 simp only[Act.put,pq];refine bO (i:=2) (oi:=_) (v:=?_) rfl gc ge ge ge (fun _ _ _ h=>h) (Or.inl ⟨by rfl,?_⟩) (fun _=>⟨rfl,G6.out.2⟩) ?_;rotate_left
 ·intro w' hw'
  skip
  go_simp
  (try rfl)
 simp only[Act.put,pq];refine kI (i:=3) (oi:=_) (v:=?_) rfl gc ge ge ge ge ge (fun _ _ _ h=>h) (Or.inl ⟨by rfl,?_⟩) (fun _=>⟨rfl,G6.out.2⟩) ?_;rotate_left
 ·intro w' hw';have hcells:=HC30.out w' hw';go_simp
  (try rfl)
 simp only[Act.put,pq];refine kI (i:=4) (oi:=_) (v:=?_) rfl gc ge ge ge ge ge (fun _ _ _ h=>h) (Or.inl ⟨by rfl,?_⟩) (fun _=>⟨rfl,G6.out.2⟩) ?_;rotate_left
 ·intro w' hw';have hcells:=HC30.out w' hw';go_simp
  (try rfl)
 simp only[Act.put,pq];refine bO (i:=5) (oi:=_) (v:=?_) rfl gc ge ge ge (fun _ _ _ h=>h) (Or.inl ⟨by rfl,?_⟩) (fun _=>⟨rfl,G6.out.2⟩) ?_;rotate_left
 ·intro w' hw'
  skip
  go_simp
  (try rfl)
 simp only[Act.put,pq];refine sA (i:=6) (o:=_) ge rfl (fun K hK=>?_);have hS:True:=trivial;generalize hw7:World.drew _=w7 at hS ⊢;have hs7:w7.heap.size=w6.heap.size:=by rw[<-hw7];rfl
 have hbl7:∀j:Nat,w7.heap[j]?=w6.heap[j]?:=fun j=>by rw[<-hw7];rfl
 have hw76:w7.os=w6.os/\w7.tape=w6.tape/\w7.output=w6.output:=by rw[<-hw7];exact⟨rfl,rfl,rfl⟩
 have hL7:LastO B w7 (.slice (some ⟨gs,0,none⟩) ln1 scap) ls x cs c:=HL6.out.move (fun j _ _=>hbl7 j) ga;obtain⟨xs,hxs,hxo,hxe⟩:=hL7.vals;rw[HVL.out.2] at hxo;have HL7:=hid hL7;have HXS:=hid hxs;have HXE:=hid hxe;have HS7:=hid hs7;have HBL7:=hid hbl7;have HW76:=hid hw76;have HXO:=hid hxo;clear hw7 hL7 hxs hxe hs7 hbl7 hw76 hxo;go_simp;refine hK.out _ _ (⟨(cW w7 _ gs (by have:=HGL.out;have:=T6.out.size;have:=HS7.out;omega)).trans (HBL7.out gs),aD _ ((HBL7.out Y).trans G6.out.2)⟩) ?_;clear hK K
 (try simp only[Act.put,pq])
 refine sA (i:=7) (o:=_) ge rfl (fun K hK=>?_);refine step_append_lies _ gh _ _ _ gh B 36 ti _ 6 88 Tryz.underlying33 hi hz0 hz1 hz2 rfl ga (.slice c.va c.vl c.vc) c.vl (xs.flatMap VC.cs) gh (HXO.out.alloc _) ⟨w7.heap.size,0,none⟩ 1 1 ([I6 0,I6 0,I6 0,.string ⟨#[]⟩,.slice none 0 0,.slice none 0 0]) gh gh (World.news_of_block (heap_alloc_new w7 _)) gm ga (by have:=HXZ.out;unfold maxLen;omega) (by have:=HXZ.out;omega) (by have:=T6.out.size;have:=HBw.out;have:=HS7.out;simp;omega) (w7.heap.size+1) gd ?_
 intro gg cap8 w8 hown8 hgrow hat hlt8;have hs7:=HS7.out;have hbl7:=HBL7.out;have hw76:=HW76.out;have hxo:=HXO.out;have hne:∀j,j<w7.heap.size->(c.vv.ownBlock=some j->False)->w8.heap[j]?=w7.heap[j]?:=fun j hj hn=>(hgrow.block j gj (fun e=>hn e.symm)).trans (Below.heap_alloc _ _ _ hj);have hgsn:c.vv.ownBlock≠some gs:=fun e=>HL7.out.d2 gs e rfl;have hYn:c.vv.ownBlock≠some Y:=fun e=>by have:=HOI.out Y (.inr e);have:=HXX.out;omega
 have hS8:w8.heap[gs]?=w6.heap[gs]?/\w8.heap[Y]?=some (oV m 36):=by
  have q1:=ltOf G6.out.1;have q2:=ltOf G6.out.2;have q3:=HGL.out;have q4:=T6.out.size;exact⟨(hne gs ga hgsn).trans (hbl7 gs),(hne Y ga hYn).trans ((hbl7 Y).trans G6.out.2)⟩
 refine hK.out _ _ hS8 ?_;clear hK K
 (try simp only[Act.put,pq])
 obtain⟨Q,hQ⟩:=ez (c.vl * 6)
 have hidx1:(0:Int)<=(c.vl:Int):=by omega
 have hidx2:((c.vl:Int)<(c.vl:Int)+1)=True:=eq_true ga;have hxl:(xs.flatMap VC.cs).length=Q:=by rw[hQ,<-HVL.out.2,<-HXS.out];exact zT xs
 obtain⟨s0,s1,s2,s3,s4,s5,tt⟩:=row6 hown8 hxl;have t0:=tt (Q);have t1:=tt (Q+1);have t2:=tt (Q+2);have t3:=tt (Q+3);have t4:=tt (Q+4);have t5:=tt (Q+5);clear tt;refine bO (i:=8) (oi:=_) (v:=?_) rfl gc ge ge ge (fun _ _ _ h=>h) (Or.inl ⟨by rfl,?_⟩) (fun _=>hS8) ?_;rotate_left
 ·intro w' hw'
  skip
  go_simp
  (try rfl)
 simp only[Act.put,pq]
 (try rw[<-hQ])
 refine bO (i:=10) (oi:=_) (v:=?_) rfl gc ge ge ge (fun _ _ _ h=>h) (Or.inl ⟨by rfl,?_⟩) (fun _=>hS8) ?_;rotate_left
 ·intro w' hw'
  skip
  go_simp
  (try rfl)
 simp only[Act.put,pq];refine bO (i:=11) (oi:=_) (v:=?_) rfl gc ge ge ge (fun _ _ _ h=>h) (Or.inl ⟨by rfl,?_⟩) (fun _=>hS8) ?_;rotate_left
 ·intro w' hw'
  skip
  go_simp
  (try rfl)
 simp only[Act.put,pq];have hgc:c.vv.ownBlock=some gg\/(w7.alloc (.cells #[I6 0,I6 0,I6 0,.string ⟨#[]⟩,.slice none 0 0,.slice none 0 0] 36)).heap.size<=gg:=hat.imp id (fun h=>by rw[World.size_alloc];omega);have hggs:gg≠gs:=fun e=>by
  rcases hat with h | h
  ·exact hgsn (by rw[h,e])
  ·have q3:=HGL.out;have q4:=T6.out.size;omega
 have hggY:gg≠Y:=fun e=>by
  rcases hat with h | h
  ·exact hYn (by rw[h,e])
  ·have q2:=ltOf G6.out.2;omega
 have p0:=(hown8.stored Q (I6 m.k)).1;have p1:=(p0.stored (Q+1) (I6 m.i)).1;have p2:=(p1.stored (Q+2) (I6 m.s)).1;have p3:=(p2.stored (Q+3) (.string m.t)).1;have p4:=(p3.stored (Q+4) (.slice m.la m.ll m.lc)).1;have p5:=(p4.stored (Q+5) (.slice m.fa m.fl m.fc)).1;rw[set6 _ Q hxl] at p5;obtain⟨w8a,hw8a⟩:=ez ((((((w8.setCell ⟨gg,Q,none⟩ (I6 m.k)).setCell ⟨gg,Q+1,none⟩ (I6 m.i)).setCell ⟨gg,Q+2,none⟩ (I6 m.s)).setCell ⟨gg,Q+3,none⟩ (.string m.t)).setCell ⟨gg,Q+4,none⟩ (.slice m.la m.ll m.lc)).setCell ⟨gg,Q+5,none⟩ (.slice m.fa m.fl m.fc))
 have hgrowA:(w7.alloc (.cells #[I6 0,I6 0,I6 0,.string ⟨#[]⟩,.slice none 0 0,.slice none 0 0] 36)).grownBy w8a c.vv.ownBlock:=by rw[hw8a];exact iC (iC (iC (iC (iC (iC (hgrow) hgc) hgc) hgc) hgc) hgc) hgc
 rw[<-hw8a] at p5;have hothA:∀k,k≠gg->w8a.heap[k]?=w8.heap[k]?:=fun k hk=>by
  rw[hw8a];exact(Below.heap_setCell _ _ _ _ hk).trans ((Below.heap_setCell _ _ _ _ hk).trans ((Below.heap_setCell _ _ _ _ hk).trans ((Below.heap_setCell _ _ _ _ hk).trans ((Below.heap_setCell _ _ _ _ hk).trans (Below.heap_setCell _ _ _ _ hk)))))
 have hSa:w8a.heap[gs]?=w6.heap[gs]?/\w8a.heap[Y]?=some (oV m 36):=⟨(hothA gs (Ne.symm hggs)).trans hS8.1,(hothA Y (Ne.symm hggY)).trans hS8.2⟩
 have hb8:w8a.heap[b]?=some (.cells #[I6 d.n,I6 d.t,.slice (some ⟨gs,0,none⟩) ln1 scap] 24):=(hothA b (fun e=>by
  rcases hat with h | h
  ·have:=(hxo.lt gg h).1;omega
  ·have:=ltOf HB.out;have:=T6.out.size;omega)).trans ((hne b (by have:=ltOf HB.out;have:=T6.out.size;omega) (fun e=>by have:=(hxo.lt b e).1;omega)).trans ((hbl7 b).trans G6b.out))
 have T8:Turn (fun k=>k=b\/B<=k) w6 w8a:=by
  refine⟨hgrowA.os.trans hw76.1,hgrowA.tape.trans hw76.2.1,hgrowA.output.trans hw76.2.2,by have:=hgrowA.size;simp at this;omega,fun j hj hR=>?_⟩;exact((hgrowA.block j gj (fun e=>hR (.inr (hxo.lt j e.symm).1))).trans (Below.heap_alloc _ _ _ ga)).trans (hbl7 j)
 have hq8:=HL6.out.lastCell';rw[<-HLN.out.1,<-HOO.out] at hq8;have HP5:=hid p5;have HGA:=hid hgrowA;have HAT:=hid hat;have HT8:=hid T8;have HB8:=hid hb8;have HSA:=hid hSa;have HW8A:=hid hw8a;have HGG:=hid hggs;have HB7:=hid hbl7;have z8:w8.cell? ⟨gs,O+9,none⟩=some (.slice c.va c.vl c.vc):=(World.cell?_of_block (w:=w6) (a:=⟨gs,O+9,none⟩) hS8.1).trans hq8.2.1;have zf8:w8.frozen? ⟨gs,O+9,none⟩=false:=(dD (w:=w6) (a:=⟨gs,O+9,none⟩) hS8.1).trans (hq8.2.2 9);have za:w8a.cell? ⟨gs,O+9,none⟩=some (.slice c.va c.vl c.vc):=(World.cell?_of_block (w:=w6) (a:=⟨gs,O+9,none⟩) hSa.1).trans hq8.2.1
 have zfa:w8a.frozen? ⟨gs,O+9,none⟩=false:=(dD (w:=w6) (a:=⟨gs,O+9,none⟩) hSa.1).trans (hq8.2.2 9);have HS8':=hid hS8;clear p0 p1 p2 p3 p4 p5 hgrowA hat T8 hb8 hSa hw8a hbl7 hw76 hs7 hxo hown8 hgrow hne hgsn hYn hothA hq8 hgc hlt8 hS8 hxl hQ hidx1 hidx2;have hggs':¬ gg=gs:=hggs;clear hggs hggY;have hst1:∀(p:Nat) (q:Nat) (u:Value),(w8.setCell ⟨gs,p,none⟩ u).cell? ⟨gg,q,none⟩=w8.cell? ⟨gg,q,none⟩:=fun p q u=>World.cell?_of_block (Below.heap_setCell _ _ _ _ (fun e=>hggs' e))
 have hst2:∀(p:Nat) (q:Nat) (u:Value),(w8.setCell ⟨gs,p,none⟩ u).frozen? ⟨gg,q,none⟩=w8.frozen? ⟨gg,q,none⟩:=fun p q u=>dD (Below.heap_setCell _ _ _ _ (fun e=>hggs' e));have HST1:=hid hst1;have HST2:=hid hst2;clear hst1 hst2;refine aCn (i:=9) (o:=_) (os:=_) ge ge rfl rfl (fun K hK=>?_) (fun K hK=>?_)
 ·go_simp;rw[<-HW8A.out];refine hK.out _ _ HSA.out ?_;clear hK K
  (try simp only[Act.put,pq])
  refine oW (i:=12) (o:=_) ge ge rfl (fun K hK=>?_);go_simp;refine hK.out _ _ ?_;clear hK K
  (try simp only[Act.put,pq])
  refine mR ge ?_ _
  (try dsimp only)
  clear za zfa z8 zf8 s0 s1 s2 s3 s4 s5 t0 t1 t2 t3 t4 t5 hggs';obtain⟨w9,hw9⟩:=ez (w8a.setCell ⟨gs,O+9,none⟩ (.slice (some ⟨gg,0,none⟩) (c.vl+1) cap8))
  rw[<-hw9];have T9:=hid (show Turn (fun k=>k=b\/B<=k) w w9 by rw[hw9];exact(T6.out.trans HT8.out).trans (Turn.setCell ⟨gs,O+9,none⟩ _ (.inr hgB)));have hfin:=hid (show StOwn B b w9 ⟨d.n,d.t,ls++[fQ dm x]⟩ by
   have hown:=HP5.out;rw[<-HVL.out.2] at hown;have hpush:=LastO.pushV (N:=w.heap.size) (w1:=w7) (w2:=w8a) (gs:=gs) (scap:=scap) (ls:=ls) (x:=x) (cs:=cs) (c:=c) (xs:=xs) (m:=m) (dm:=dm) (g:=gg) (cap:=cap8) (by have h:=HL7.out;rw[HLN.out.2] at h;exact h) HXS.out (by have h:=HXE.out;rw[HLN.out.2] at h;exact h)
    (HV6.out.same fun i hi=>⟨⟨hi.1,by have:=hi.2;have:=HS7.out;omega⟩,HB7.out i⟩) HBw.out HGL.out (fun r e=>HOI.out r (.inl e)) (fun r e=>HOI.out r (.inr e)) hown HGA.out HAT.out
   have e1:O=ls.length * 10:=by rw[HOO.out,HLN.out.1]
   rw[HVL.out.2,<-HLN.out.2,<-e1,<-hw9] at hpush;have hbx:w9.heap[b]?=some (.cells #[I6 d.n,I6 d.t,.slice (some ⟨gs,0,none⟩) ln1 scap] 24):=by
    rw[hw9];exact(Below.heap_setCell _ _ _ _ gi).trans HB8.out
   exact⟨_,hbx,HI.out.1,HI.out.2,.inr ⟨ls,_,cs,_,rfl,hpush⟩⟩)
  clear hw9;by_cases hv:word=wValue
  ·have q4:(word.toList==[118,97,108,117,101])=true:=qY _ _ hv;have HV:=hid hv;clear hv;by_cases he:pe=0
   ·subst he;go_wp2;go_ret;exact⟨true,rfl,T9.out,.inl ⟨rfl,⟨d.n,d.t,ls++[fQ dm x]⟩,by rw[HRF'.out,if_pos ⟨by simp,HV.out⟩,HDL.out,fY],hfin.out⟩⟩
   ·have hx0:(pe==0)=false:=by simp;exact he
    have HE:=hid he;clear he;go_wp2;go_ret;exact⟨false,rfl,T9.out,.inr ⟨rfl,by rw[HRF'.out,if_neg (fun h=>HE.out h.1)]⟩⟩
  ·have q4:(word.toList==[118,97,108,117,101])=false:=jA _ _ hv;have HV:=hid hv;clear hv;go_wp2;go_ret;exact⟨false,rfl,T9.out,.inr ⟨rfl,by rw[HRF'.out,if_neg (fun h=>HV.out h.2)]⟩⟩
 ·go_simp;refine hK.out _ _ ?_;clear hK K
  (try simp only[Act.put,pq])
  refine oW (i:=9) (o:=_) ge ge rfl (fun K hK=>?_);have hst1:=HST1.out;have hst2:=HST2.out;go_simp;refine hK.out _ _ ?_;clear hK K hst1 hst2
  (try simp only[Act.put,pq])
  refine mR ge ?_ _
  (try dsimp only)
  have hcomm:((((((w8.setCell ⟨gs,O+9,none⟩ (.slice (some ⟨gg,0,none⟩) (c.vl+1) cap8)).setCell ⟨gg,Q,none⟩ (I6 m.k)).setCell ⟨gg,Q+1,none⟩ (I6 m.i)).setCell ⟨gg,Q+2,none⟩ (I6 m.s)).setCell ⟨gg,Q+3,none⟩ (.string m.t)).setCell ⟨gg,Q+4,none⟩ (.slice m.la m.ll m.lc)).setCell ⟨gg,Q+5,none⟩ (.slice m.fa m.fl m.fc)=w8a.setCell ⟨gs,O+9,none⟩ (.slice (some ⟨gg,0,none⟩) (c.vl+1) cap8):=by
   rw[HW8A.out];have hd:∀(i:Nat) (u:Value) (W:World),(W.setCell ⟨gs,O+9,none⟩ (.slice (some ⟨gg,0,none⟩) (c.vl+1) cap8)).setCell ⟨gg,i,none⟩ u=(W.setCell ⟨gg,i,none⟩ u).setCell ⟨gs,O+9,none⟩ (.slice (some ⟨gg,0,none⟩) (c.vl+1) cap8):=fun i u W=>aB3 (fun e=>hggs' e.symm);rw[hd,hd,hd,hd,hd,hd]
  rw[hcomm];clear hcomm;clear za zfa z8 zf8 s0 s1 s2 s3 s4 s5 t0 t1 t2 t3 t4 t5 hggs';obtain⟨w9,hw9⟩:=ez (w8a.setCell ⟨gs,O+9,none⟩ (.slice (some ⟨gg,0,none⟩) (c.vl+1) cap8))
  rw[<-hw9];have T9:=hid (show Turn (fun k=>k=b\/B<=k) w w9 by rw[hw9];exact(T6.out.trans HT8.out).trans (Turn.setCell ⟨gs,O+9,none⟩ _ (.inr hgB)));have hfin:=hid (show StOwn B b w9 ⟨d.n,d.t,ls++[fQ dm x]⟩ by
   have hown:=HP5.out;rw[<-HVL.out.2] at hown;have hpush:=LastO.pushV (N:=w.heap.size) (w1:=w7) (w2:=w8a) (gs:=gs) (scap:=scap) (ls:=ls) (x:=x) (cs:=cs) (c:=c) (xs:=xs) (m:=m) (dm:=dm) (g:=gg) (cap:=cap8) (by have h:=HL7.out;rw[HLN.out.2] at h;exact h) HXS.out (by have h:=HXE.out;rw[HLN.out.2] at h;exact h)
    (HV6.out.same fun i hi=>⟨⟨hi.1,by have:=hi.2;have:=HS7.out;omega⟩,HB7.out i⟩) HBw.out HGL.out (fun r e=>HOI.out r (.inl e)) (fun r e=>HOI.out r (.inr e)) hown HGA.out HAT.out
   have e1:O=ls.length * 10:=by rw[HOO.out,HLN.out.1]
   rw[HVL.out.2,<-HLN.out.2,<-e1,<-hw9] at hpush;have hbx:w9.heap[b]?=some (.cells #[I6 d.n,I6 d.t,.slice (some ⟨gs,0,none⟩) ln1 scap] 24):=by
    rw[hw9];exact(Below.heap_setCell _ _ _ _ gi).trans HB8.out
   exact⟨_,hbx,HI.out.1,HI.out.2,.inr ⟨ls,_,cs,_,rfl,hpush⟩⟩)
  clear hw9;by_cases hv:word=wValue
  ·have q4:(word.toList==[118,97,108,117,101])=true:=qY _ _ hv;have HV:=hid hv;clear hv;by_cases he:pe=0
   ·subst he;go_wp2;go_ret;exact⟨true,rfl,T9.out,.inl ⟨rfl,⟨d.n,d.t,ls++[fQ dm x]⟩,by rw[HRF'.out,if_pos ⟨by simp,HV.out⟩,HDL.out,fY],hfin.out⟩⟩
   ·have hx0:(pe==0)=false:=by simp;exact he
    have HE:=hid he;clear he;go_wp2;go_ret;exact⟨false,rfl,T9.out,.inr ⟨rfl,by rw[HRF'.out,if_neg (fun h=>HE.out h.1)]⟩⟩
  ·have q4:(word.toList==[118,97,108,117,101])=false:=jA _ _ hv;have HV:=hid hv;clear hv;go_wp2;go_ret;exact⟨false,rfl,T9.out,.inr ⟨rfl,by rw[HRF'.out,if_neg (fun h=>HV.out h.2)]⟩⟩
theorem xF (B b:Nat) (d:Sta) (word rest:ByteArray) (w:World) (hd:StOwn B b w d) (hbB:b<B) (hB:B<=w.heap.size) (n:Nat) (hz:Sz n d.l) (hn:n<=2000) (hT:∀w',Below b w w'->Tabs w'/\ZTab w'/\NumVars w') (hok:LnOK word rest) (hw:word≠wState/\word≠wSlot) (hne:d.l=[]) :
 CP 42 #[.pointer (some ⟨b,0,none⟩),.string word,.string rest] w (lM B b d word rest w):=by
 obtain⟨sv,hb,hI1,hI2,hsl⟩:=hd;have hbl:=ltOf hb;have HZ:=hid hz;have HT:Hid (∀w',Turn (fun k=>k=b\/B<=k) w w'->Tabs w'/\ZTab w'/\NumVars w'):=hid fun w' h=>hT w' (jT hbB (Nat.le_of_lt hbl) h);have HOK:=hid hok;have HI:=hid (And.intro hI1 hI2);have q1:(word.toList==[115,116,97,116,101])=false:=jA _ _ hw.1;have q2:(word.toList==[115,108,111,116])=false:=jA _ _ hw.2;have HRF:=hid (show cO d word rest=none by
  unfold cO;rw[if_neg hw.1,if_neg hw.2,if_pos hne])
 clear hw;rcases hsl with ⟨hdl,hsl⟩ | ⟨ls,x,cs,c,hdl,hl⟩;rotate_left
 ·rw[hne] at hdl;exact absurd hdl gd
 obtain⟨a,cap,rfl⟩:∃a cap,sv=.slice a 0 cap:=by
  rcases hsl.2 with ⟨rfl,_⟩ | ⟨g,cap,cur,rfl,_⟩
  ·exact⟨_,_,rfl⟩
  ·exact⟨_,_,rfl⟩
 have c0:=aA hb 0;have c1:=aA hb 1;have c2:=aA hb 2;have f0:=aC hb 0;have f1:=aC hb 1;have f2:=aC hb 2
 (try dsimp only at c0 c1 c2)
 clear hsl hdl hb hz hok hT hI1 hI2;go_enter Tryz.func42,Tryz.ntmps42
 go_wp2;go_ret;exact⟨false,rfl,Turn.refl _ _,.inr ⟨rfl,HRF.out⟩⟩
theorem aJf (B b:Nat) (d:Sta) (word rest:ByteArray) (w:World) (hd:StOwn B b w d) (hbB:b<B) (hB:B<=w.heap.size) (n:Nat) (hz:Sz n d.l) (hn:n<=2000) (hT:∀w',Below b w w'->Tabs w'/\ZTab w'/\NumVars w') (hok:LnOK word rest) :
 CP 42 #[.pointer (some ⟨b,0,none⟩),.string word,.string rest] w (lM B b d word rest w):=by
 by_cases h1:word=wState
 ·exact uH B b d word rest w hd hbB hB n hz hn hT hok h1
 by_cases h2:word=wSlot
 ·exact xE B b d word rest w hd hbB hB n hz hn hT hok h2
 by_cases h3:d.l=[]
 ·exact xF B b d word rest w hd hbB hB n hz hn hT hok ⟨h1,h2⟩ h3
 by_cases h4:word=wItem
 ·exact xG B b d word rest w hd hbB hB n hz hn hT hok h4 h3
 ·exact aB9 B b d word rest w hd hbB hB n hz hn hT hok ⟨h1,h2,h4⟩ h3
end Go.Proofs.YtmgpghoamapfgaaGreatDoor
