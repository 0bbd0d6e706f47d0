/- A part. -/
import Derived.Test.YtoodnaghjpkjfaaGreatDoorSE3Mrg
import Derived.Lib.ItoaLen
import Derived.Lib.AppendIntMem
import Derived.Maps.AppendAt
namespace Go.Proofs.YtoodnaghjpkjfaaGreatDoor
open Tryz
set_option linter.unusedVariables false
set_option maxRecDepth 100000
set_option maxHeartbeats 64000000
set_option linter.unusedSimpArgs false
open Go Go.RowKit Go.Shelf
theorem rO {w:World} {aa:Nat} {e:TypeId} {size:Nat} {v:Value} {n:Nat} {xs:List Value} (h:w.ownsRow aa e size v n xs) (k:Nat) (hk:v.ownBlock=some k):aa<=k:=by
 rcases h.2 with ⟨rfl,_⟩|⟨g,cap,cur,rfl,hb,_⟩
 ·cases hk
 ·cases hk;exact hb
def aE (n:Int):BA:=⟨(Lib.itoa n).toArray⟩
def cE (xs:List BA) (sep:BA):BA:=⟨(Lib.join (xs.map (·.data.toList)) sep.data.toList).toArray⟩
theorem bM (n:Int) (h:I64 n) (w:World) (hT:Tabs w):CP 64 #[I6 n] w (Rt (Sv (aE n)) w) :=
 (Tryz.strconv_Itoa n h.1 h.2 w hT.2).mono λe w' ⟨he,k,os,hw⟩=>⟨he,by rw[hw];exact Lib.below_grow _ w lr k os⟩
theorem xB (l:List (List UInt8)) (aa:List UInt8) (B:Nat) (h:∀x∈l,x.length<=B):(Lib.join l aa).length<=l.length * (B+aa.length):=by
 cases l with
 | nil=>simp[Lib.join_nil]
 | cons x r =>
   rw[Lib.join_cons,ik,Lib.joinTail_length];have h1:=h x ge;have h2:Lib.lens r<=r.length * B:=by
    have ab:∀r:List (List UInt8),(∀x∈r,x.length<=B)->Lib.lens r<=r.length * B:=by
     intro r
     induction r with
     | nil=>intro _;simp[Lib.lens]
     | cons y r ih =>
       intro h;have h2:=ih (λx hx=>h x (by simp[hx]));have h3:=h y ge;simp only[Lib.lens,jv,mz,im,Nat.add_mul] at h2 ⊢;omega
    exact ab r λx hx=>h x (by simp[hx])
   simp only[im];rw[Nat.add_mul,Nat.mul_add,Nat.mul_comm aa.length];omega
theorem kG (n:Int) (h:I64 n):(aE n).data.toList.length<=21:=by
 have:=Lib.itoa_length_le n h.1 h.2
 simpa [aE] using this
theorem cG (n:Int) (h:I64 n):(aE n).size<=21:=by
 have:=kG n h
 simpa using this
theorem iM (xs:List BA) (aa:BA) (L:Nat) (h:∀x∈xs,x.data.toList.length<=L):(cE xs aa).size<=xs.length * (L+aa.data.toList.length):=by
 have:=xB (xs.map (·.data.toList)) aa.data.toList L (λy hy=>by
  rw[oa] at hy;obtain⟨x,ab,rfl⟩:=hy;exact h x ab)
 rw[jy] at this;show(cE xs aa).data.size<=_
 simpa [cE] using this
theorem vA:(prog.info? 9).map (λi=>(i.zero,i.size,i.bytes))=some (some (Sv ByteArray.empty),1,16):=by kernel_rfl
theorem lE {w:World} {B n T:Nat} {v:Value} {xs:List ByteArray} (h:w.ownsRow B T 1 v n (xs.map Value.string)) (hl:n=xs.length) (h0:0<n) (L:Nat) (hx:∀x∈xs,x.data.toList.length<=L) (aa:ByteArray) (hN:n * (L+aa.data.toList.length+1)<=140737488355328) :
 ∃g cap,v=Sl (So g 0) n cap/\∀w',BB w w'->CP 48 #[v,Sv aa] w' (Rt (Sv (cE xs aa)) w'):=by
 have hc:=λg=>h.cells (g:=g);rcases h.2 with ⟨rfl,h1⟩|⟨g,cap,cur,rfl,hb,hg,hn,_⟩
 ·omega
 ·refine⟨g,cap,rfl,λw' hw=>?_⟩;subst hl;refine Tryz.strings_Join g 0 cap xs aa w' (λj x hj=>?_) (by have:=ltOf hg;have:=hw.size;omega) ?_ hn ?_
  ·have h2:=hc g rfl j (Sv x) (by simp[hj]);rw[show(⟨g,0,none⟩:Addr).add j=⟨g,0+j,none⟩ by unfold Addr.add;split<;>simp_all] at h2;exact(jg (w:=w) (a:=⟨g,0+j,none⟩) (hw.block g (ltOf hg))).trans h2
  ·rw[Nat.mul_add] at hN;omega
  ·have:=xB (xs.map (·.data.toList)) aa.data.toList L (λy hy=>by
    rw[oa] at hy;obtain⟨x,ab,rfl⟩:=hy;exact hx x ab)
   rw[jy] at this;rw[Nat.mul_add,Nat.mul_one] at hN;omega
def dL (d:St):ByteArray:=aE d.e++⟨#[47]⟩++cE (d.ps.map aE) ⟨#[46]⟩
def nW (d:St):Value:=if aZ d=0 then .tuple #[.string (dL d),I6 0] else .tuple #[.string ⟨#[]⟩,I6 (aZ d)]
theorem kN (c:SC) (d:St) (w:World) (hx:IsSt (· < w.heap.size) w c d) (hT:Tabs w):CP 85 #[c.v] w (Rt (nW d) w):=by
 obtain⟨ti,hi,a9,a7,a8⟩:=jr vA;obtain⟨ce,a,n,cap⟩:=c;obtain⟨e0,ps⟩:=d;obtain⟨a2,re,ai⟩:=hx;dsimp only[SC.v] at ai a2 re ⊢;subst a2;obtain⟨w1,aq⟩:=xe (w.alloc (.cells #[I6 ce,Sl a n cap] 63))
 have al:BB w w1:=by rw[aq];exact(bR w).alloc lr _
 have ao:w1.heap[w.heap.size]?=some (.cells #[I6 ce,Sl a n cap] 63 (0,0)):=by rw[aq];exact ib w _
 obtain⟨u,hu⟩:=xe (aZ ⟨ce,ps⟩)
 have au:f7 (CP 105 #[.agg #[I6 ce,Sl a n cap]] w1 (Rt (I6 u) w1)):=f8 (by rw[hu];exact eD _ ⟨ce,a,n,cap⟩ ⟨ce,ps⟩ w w1 ⟨rfl,re,ai⟩ (λb hb=>⟨ix hb al.size,al.block b hb⟩));have HX:f7 (∀w2,BB w1 w2->(Ce w2 w.heap.size 0 (I6 ce)/\Ce w2 w.heap.size 1 (Sl a n cap))/\BB w w2/\IsInts (· < w2.heap.size) w2 a n cap ps/\Tabs w2):=f8 λw2 h=>by
  have g:=aB h ao;have hb:=al.trans (h.mono al.size);exact⟨⟨aA g 0,aA g 1⟩,hb,ai.same λb q=>⟨ix q hb.size,hb.block b q⟩,hT.below hb⟩
 rw[aq] at au HX;have HL:=f8 ai.len;have HR:=f8 ai.rng;obtain⟨RE,HU⟩:=h_2 re hu;clear ai hT ao al aq hu re;go_enter func85,ntmps85
 by_cases q1:u=0
 ·subst q1;have ag:=f8 (show nW ⟨ce,ps⟩=.tuple #[Sv (dL ⟨ce,ps⟩),I6 0] by rw[nW,<-HU.o,gw rfl]);have az:0<n:=by
   rcases pi n with h|h
   ·have h0:ps=[]:=kr (by rw[<-HL.o];exact h);have h1:=HU.o;rw[h0,aZ] at h1;dsimp only at h1;split at h1
    ·simp at h1
    ·simp at h1
   ·exact h
  have a0:n<=512:=by
   rcases mf 512 n with h|h
   ·have h1:=HU.o;rw[aZ] at h1;dsimp only at h1;have h2:=HL.o;split at h1
    ·simp at h1
    ·split at h1
     ·simp at h1
     ·rw[gw ga] at h1;simp at h1
   ·exact h
  go_wp2_with (go_at_call 105;refine au.mono ?_;rintro e w2 ⟨rfl,ak⟩;obtain⟨⟨j0,j1⟩,ab,ac,ar⟩:=HX.o _ ak;obtain⟨a4,a1⟩:=h_2 ac ar;clear ac ar ak)
  go_loopw [5,16] (λv i wr=>∃k:Nat,k<=n/\i=I6 k/\wr.ownsRow w2.heap.size 9 1 v k (((ps.take k).map aE).map Value.string)/\BB w2 wr) (λ_ i _=>n-(intOf i).toNat)
  case atStart=>exact⟨0,ii _,rfl,lf _ _ _ _,gx _ _⟩
  case round =>
   obtain⟨k,hk,rfl,aa,af⟩:=hrel;have ap:=f8 af;by_cases ba:k<n
   ·obtain⟨b,o,rfl,hb,hc⟩:=a4.slot az;have ay:k<ps.length:=by have:=HL.o;omega
    have bb:=(jg (w:=w2) (a:=⟨b,o+k,none⟩) (af.block b hb)).trans (hc k ay);clear hc;obtain⟨z,hz⟩:=xe (ps[k])
    rw[<-hz] at bb;have ax:=f8 (bM z (by rw[hz];exact HR.o _ (kc _)) wr (a1.below af));have HZ:=f8 hz;clear hz;have a5:(k:Int)<(n:Int):=ga
    have am:=f8 aa;clear aa af;have an:k+1<=maxLen:=by unfold maxLen;omega
    have aj:(k+1) * 16<=140737488355328:=ga
    go_wp2_with (first
     | (go_at_call 64;refine ax.o.mono ?_;rintro e w3 ⟨rfl,ah⟩)
     | (at_builtin;refine qq _ gh _ _ 43 gh w2.heap.size 9 ti _ 1 16 underlying43 hi a9 a7 a8 rfl ga _ _ _ gh ((fS am.o ah).alloc _) ⟨w3.heap.size,0,none⟩ 1 1 [.string (aE z)] gh gh (cell_one_new _ _ _) gj an aj (by have:=ap.size;have:=ah.size;simp;omega) ?_;intro v' w5 ae ad aw av;obtain⟨a3,HG⟩:=h_2 ae ad;clear ae ad aw av))
    go_roundw
    case rel =>
     refine⟨k+1,by omega,by go_num,?_,?_⟩
     ·have h:=a3.o;rw[show((ps.take (k+1)).map aE).map Value.string=((ps.take k).map aE).map Value.string++[Sv (aE z)] by rw[mh ay,HZ.o,kh,kh];rfl];exact h
     ·have h3:=ap.trans (ah.mono ap.size);refine(h3.alloc h3.size _).grown HG.o (by have:=h3.size;simp;omega) λr hr=>?_;exact rO am.o r hr
    case measure=>simp[intOf];omega
   ·obtain rfl:k=n:=ga
    clear ba;rw[mr (by have:=HL.o;omega)] at aa;obtain⟨g,a6,rfl,hj⟩:=lE aa (by rw[jy];exact HL.o) az 21 (λx hx=>by
     rw[oa] at hx;obtain⟨y,hy,rfl⟩:=hx;exact kG y (HR.o y hy)) ⟨#[46]⟩ gi
    have HJ:=f8 hj;have ax:=f8 (bM ce RE.o wr (a1.below af));have s1:(aE ce).size+1<=9223372036854775807:=by have:=cG ce RE.o;omega
    have s2:(aE ce).size+1+(cE (ps.map aE) ⟨#[46]⟩).size<=9223372036854775807:=by
     have h1:=cG ce RE.o;have h2:=iM (ps.map aE) ⟨#[46]⟩ 21 (λx hx=>by
      rw[oa] at hx;obtain⟨y,hy,rfl⟩:=hx;exact kG y (HR.o y hy))
     rw[jy,<-HL.o] at h2;simp at h2;omega
    have c0:=(jg (w:=w2) (a:=⟨w.heap.size,0,none⟩) (af.block _ (o9 _ _ j0))).trans j0;clear hj aa af;go_wp2_with (first
     | (go_at_call 64;refine ax.o.mono ?_;rintro e w3 ⟨rfl,ah⟩)
     | (go_at_call 48;refine(HJ.o _ ah).mono ?_;rintro e w4 ⟨rfl,bd⟩))
    have bc:BB w w4:=by
     have h1:=ab.trans (ap.mono ab.size);have h2:=h1.trans (ah.mono h1.size);exact h2.trans (bd.mono h2.size)
    exact ig (v:=.tuple #[Sv (dL ⟨ce,ps⟩),I6 0]) (by simp[results,results85,go_sem,dL]) rfl ⟨by rw[ag.o],bc⟩
 ·have ag:=f8 (show nW ⟨ce,ps⟩=.tuple #[Sv ⟨#[]⟩,I6 u] by rw[nW,<-HU.o,f9 q1]);go_wp2_with (go_at_call 105;refine au.mono ?_;rintro e w2 ⟨rfl,ak⟩;obtain⟨⟨j0,j1⟩,ab,ac,ar⟩:=HX.o _ ak;clear ac ar ak)
  exact ig (v:=.tuple #[Sv ⟨#[]⟩,I6 u]) (by simp[results,results85,go_sem]) rfl ⟨by rw[ag.o],ab⟩
theorem rU (s:BA) (hs:s.size<=65536) (w:World):CP 134 #[Sv s] w λe w'=>e=.returned (.tuple #[Sv s,I6 0])/\w=w':=by
 have aa:(s.size:Int)<=65536:=ga
 go_enter func134,ntmps134
 go_wp2;exact ig (v:=.tuple #[Sv s,I6 0]) (by simp[results,results134,go_sem]) rfl ⟨rfl,rfl⟩
theorem yT (s i:Int) (t:BA) (la:Option Addr) (ll lc:Nat) (fa:Option Addr) (fl fc:Nat) (w:World) :
 CP 135 #[.agg #[I6 0,I6 i,I6 s,Sv t,Sl la ll lc,Sl fa fl fc]] w (Rt (Sv ⟨#[110,117,108,108]⟩) w):=by
 go_enter func135,ntmps135
 go_wp2;go_ret;exact⟨rfl,(bR w).alloc lr _⟩
section
attribute [local go_sem ↓] Go.wp_at_zero Go.wp_at_succ
def recT (xs:List BA):BA:=⟨#[123]⟩++cE xs ⟨#[44,32]⟩++⟨#[125]⟩
theorem uY (v:Value) (xs:List BA) (w:World) (h:∀w',BB w w'->CP 48 #[v,Sv ⟨#[44,32]⟩] w' (Rt (Sv (cE xs ⟨#[44,32]⟩)) w')) :
 CP 196 #[v] w (Rt (Sv (cE xs ⟨#[44,32]⟩)) w):=by
 have H:=f8 (h w (bR w));clear h;go_enter func196,ntmps196
 go_wp2_with (go_at_call 48;refine H.mono ?_;rintro e w' ⟨rfl,hb⟩)
 go_ret;exact⟨rfl,hb⟩
theorem aBv (i0 s0:Int) (t0:ByteArray) (la:Option Addr) (ll lc:Nat) (fa:Option Addr) (fl fc:Nat) (l:List Val) (ns:List ByteArray) (fs:List Val) (w:World) (hd:IsVal (· < w.heap.size) w ⟨9,i0,s0,t0,la,ll,lc,fa,fl,fc⟩ (.mk 9 i0 s0 t0 l ns fs))
 (xs:List ByteArray) (tx:Nat->ByteArray) (aj:0<fl) (bo:xs.length=fl) (a9:∀j (h:j<xs.length) (hn:j<ns.length),xs[j]=ns[j]++⟨#[58,32]⟩++tx j)
 (L:Nat) (bh:∀x∈xs,x.data.toList.length<=L) (bi:fl * (L+3)<=140737488355328)
 (br:∀j (h:j<fs.length) (x:VC) (w':World),BB w w'->IsVal (· < w'.heap.size) w' x fs[j]->CP 135 #[.agg #[I6 x.k,I6 x.i,I6 x.s,Sv x.t,Sl x.la x.ll x.lc,Sl x.fa x.fl x.fc]] w' (Rt (Sv (tx j)) w')) :
 CP 135 #[.agg #[I6 9,I6 i0,I6 s0,Sv t0,Sl la ll lc,Sl fa fl fc]] w (Rt (Sv (recT xs)) w):=by
 obtain⟨⟨_,_,_,_,bm,bc,a3,a8⟩,hv,hf⟩:=hd;dsimp only at bc a3 hv hf;have ar:fl * 104<=140737488351232:=bm.f;have HF:=f8 a3;clear a3 bc hv;have bk:=f8 a8;clear a8;clear bm;obtain⟨ti,hi,b4,b1,b3⟩:=jr vA;obtain⟨w0,a0⟩:=xe (w.alloc (.cells #[I6 9,I6 i0,I6 s0,Sv t0,Sl la ll lc,Sl fa fl fc] 67))
 have be:BB w w0:=by rw[a0];exact(bR w).alloc lr _
 have bp:=f8 be;clear be;have b0:=f8 a0;clear a0;have bw:=f8 a9;clear a9;have a6:=f8 bh;clear bh;have aq:=f8 bo;clear bo;have a1:=f8 br;clear br;have a5:=f8 bi;clear bi;go_enter func135,ntmps135
 go_wp2;rw[<-b0.o]
 go_loopw [3,97] (λvv i wr=>∃(k:Nat) (v:Value),v=vv/\k<=fl/\i=I6 k/\wr.ownsRow w0.heap.size 9 1 v k ((xs.take k).map Value.string)/\BB w0 wr) (λ_ i _=>fl-(intOf i).toNat)
 case atStart=>exact⟨0,_,rfl,ii _,rfl,lf _ _ _ _,gx _ _⟩
 case round =>
  obtain⟨k,v,rfl,hk,rfl,ac,ao⟩:=hrel;have az:=f8 ao;have aa:BB w wr:=bp.trans (ao.mono bp.size);have bg:=f8 aa;by_cases b5:k<fl
  ·rcases hf with rfl|⟨b,o,rfl,hb,hvs⟩
   ·exfalso;have:=HF.o;simp at this;omega
   ·have ba:k<fs.length:=by have:=HF.o;omega
    have bd:k<ns.length:=by have:=bk.o;omega
    have bn:k<xs.length:=by have:=aq.o;omega
    obtain⟨⟨av,bz⟩,x,hx,bq⟩:=hvs.get bk.o k ba bd;obtain⟨nm,af⟩:=xe (ns[k])
    rw[<-af] at av bz;obtain⟨tz,a4⟩:=xe (tx k)
    have bj:=f8 (show xs[k]=nm++⟨#[58,32]⟩++tz by rw[bw.o k bn bd,af,a4]);have a7:nm.size+2+tz.size<=L:=by
     have h1:=a6.o xs[k] (kc _);rw[bj.o] at h1;simp at h1;omega
    have ax:L<=140737488355328:=by have h1:=a5.o;rw[Nat.mul_add] at h1;have h2:=Nat.le_mul_of_pos_left L aj;omega
    have s1:(9223372036854775807<nm.size+2)=False:=eq_false ga;have s2:(9223372036854775807<nm.size+2+tz.size)=False:=eq_false ga;clear a7 ax;have b8:=hx.same (w':=wr) (aa.block b hb);have bx:wr.cell? ⟨b,o+k * 7,none⟩=some (Sv nm):=(jg (w:=w) (a:=⟨b,o+k * 7,none⟩) (aa.block b hb)).trans av;obtain⟨cc,ca,cf,b9,ce,cd⟩:=b8;have bs:(k:Int)<(fl:Int):=ga
    have bu:=aa.size;obtain⟨wa,am⟩:=xe (wr.alloc (Obj.cells #[Value.string nm,Value.int IntKind.i64 x.k,Value.int IntKind.i64 x.i,Value.int IntKind.i64 x.s,Value.string x.t,Value.slice x.la x.ll x.lc,Value.slice x.fa x.fl x.fc] 204 (0,0)))
    have ab:BB wr wa.drew:=by rw[am];exact((gx _ wr).alloc lr _).drew
    have b6:=f8 (a4▸a1.o k ba x wa.drew (aa.trans (ab.mono bu)) (bq.same λb hb=>⟨by have:=ab.size;omega,(ab.block b ga).trans (aa.block b hb)⟩));have p2:wa.drew.heap[wr.heap.size]?=some (Obj.cells #[Value.string nm,Value.int IntKind.i64 x.k,Value.int IntKind.i64 x.i,Value.int IntKind.i64 x.s,Value.string x.t,Value.slice x.la x.ll x.lc,Value.slice x.fa x.fl x.fc] 204 (0,0)):=by rw[am];exact ib wr _
    have au:wr.heap.size<=wa.drew.heap.size:=ab.size;have bf:wr.heap.size<wa.heap.size:=by rw[am];simp
    have P2:=f8 p2;clear p2;have b2:=f8 am;clear am;have HC:=f8 (λ(w':World) (h:w'.heap[wr.heap.size]?=some (Obj.cells #[Value.string nm,Value.int IntKind.i64 x.k,Value.int IntKind.i64 x.i,Value.int IntKind.i64 x.s,Value.string x.t,Value.slice x.la x.ll x.lc,Value.slice x.fa x.fl x.fc] 204 (0,0))) =>
     (show Ce w' wr.heap.size 0 (Sv nm)/\Ce w' wr.heap.size 1 (I6 x.k)/\Ce w' wr.heap.size 2 (I6 x.i)/\Ce w' wr.heap.size 3 (I6 x.s)/\Ce w' wr.heap.size 4 (Sv x.t)/\Ce w' wr.heap.size 5 (Sl x.la x.ll x.lc)/\Ce w' wr.heap.size 6 (Sl x.fa x.fl x.fc) from⟨aA h 0,aA h 1,aA h 2,aA h 3,aA h 4,aA h 5,aA h 6⟩))
    have ai:k+1<=maxLen:=by unfold maxLen;omega
    have ag:(k+1) * 16<=140737488355328:=ga
    have aw:some wr.heap.size≠v.ownBlock:=λe=>by have:=ac.lt _ e.symm;omega
    have ah:=f8 ac;clear ac;clear hx av bq af a4 ao aa;go_wp2;rw[<-b2.o];refine aP 10 (λw'=>w'.heap[wr.heap.size]?=some (Obj.cells #[Value.string nm,Value.int IntKind.i64 x.k,Value.int IntKind.i64 x.i,Value.int IntKind.i64 x.s,Value.string x.t,Value.slice x.la x.ll x.lc,Value.slice x.fa x.fl x.fc] 204 (0,0))) gd gd gd gb (P2.o) (λhS=>?_);simp only[zdm,zdn,zdp,zdq];refine tC 0 HC ?_;refine tC 1 HC ?_;refine tC 2 HC ?_;refine tC 3 HC ?_;refine tC 4 HC ?_;refine tC 5 HC ?_;refine yr 6 λK hK=>?_;go_simp;go_at_call 135;refine b6.mono ?_;rintro e w1 ⟨rfl,an⟩;have q2:=f8 (aB an P2.o);have b7:=an.size;simp only[oo] at b7;refine kOQ hK (q2.o) λhS=>?_;clear hK K
    refine tC 7 HC ?_;refine yr 8 λK hK=>?_;go_simp;refine kOQ hK (aC _ q2.o) λhS=>?_;clear hK K
    refine yr 9 λK hK=>?_;refine step_append_lies _ gh _ _ _ gh w0.heap.size 9 ti _ 1 16 underlying43 hi b4 b1 b3 rfl ga v k ((xs.take k).map Value.string) gh ((fS ah.o (ab.trans (an.mono au))).alloc _) ⟨w1.heap.size,0,none⟩ 1 1 [Sv (nm++⟨#[58,32]⟩++tz)] gh gh (World.news_of_block (ib w1 _)) gj ga ai ag (by have:=az.size;simp;omega) (w1.heap.size+1) ge ?_;intro gg cap w2 al ad cb bv;have r2:=f8 (aL ad (aC _ q2.o) aw)
    refine kOQ hK (r2.o) λhS=>?_;clear hK K
    refine iq gd ?_ _
    (try dsimp only)
    clear hS HC;go_wp2
    go_roundw
    case rel =>
     have bb:BB w0 wa.drew:=az.trans (ab.mono az.size);have ae:BB w0 w1:=bb.trans (an.mono bb.size);refine⟨k+1,_,rfl,by omega,by go_num,?_,(ae.alloc ae.size _).grown ad (by have:=ae.size;simp;omega) (λr e=>rO ah.o r e)⟩;rw[mh bn,bj.o]
     simpa using al
    case measure=>simp[intOf];omega
  ·obtain rfl:k=fl:=ga
   clear b5;rw[mr (by have:=aq.o;omega)] at ac;obtain⟨g,ay,rfl,hj⟩:=lE ac aq.symm aj L a6.o ⟨#[44,32]⟩ a5.o;have HJ:=f8 hj;have ak:f7 (CP 196 #[Sl (So g 0) k ay] wr (Rt (Sv (cE xs ⟨#[44,32]⟩)) wr)):=f8 (uY _ _ _ HJ.o);have ap:=iM xs ⟨#[44,32]⟩ L a6.o;rw[aq.o] at ap;have bl:=a5.o;have a2:(cE xs ⟨#[44,32]⟩).size<=140737488355328:=by simp at ap;rw[Nat.mul_add] at bl ap;omega
   have s1:1+(cE xs ⟨#[44,32]⟩).size<=9223372036854775807:=ga
   have s2:1+(cE xs ⟨#[44,32]⟩).size+1<=9223372036854775807:=ga
   clear hj ac ao ap bl a2;go_wp2_with (go_at_call 196;refine ak.o.mono ?_;rintro e w3 ⟨rfl,bt⟩)
   go_ret;exact⟨rfl,bg.trans (bt.mono bg.size)⟩
end
theorem nV (d:St) (h1:I64 d.e) (h2:∀x∈d.ps,I64 x) (h3:d.ps.length<=512):(dL d).size<=20000:=by
 have a1:=cG d.e h1;have a2:=iM (d.ps.map aE) ⟨#[46]⟩ 21 (λx hx=>by
  rw[oa] at hx;obtain⟨y,hy,rfl⟩:=hx;exact kG y (h2 y hy))
 rw[jy,show(⟨#[46]⟩:ByteArray).data.toList.length=1 from rfl] at a2;rw[dL,ly,ly,show(⟨#[47]⟩:ByteArray).size=1 from rfl];omega
theorem aGe {d:St} (h:aZ d=0):d.ps.length<=512:=by
 unfold aZ at h;split at h
 ·simp at h
 ·split at h
  ·simp at h
  ·split at h
   ·simp at h
   ·omega
def aO3 (d:Msg) (t:ByteArray):ByteArray:=dL d.st++⟨#[32]⟩++aE d.m++⟨#[32]⟩++cE (d.es.map aE) ⟨#[44]⟩++⟨#[32]⟩++t
theorem aKm {d:Msg} (h:fF d=0):aZ d.st=0/\d.es≠[]/\d.es.length<=4096:=by
 unfold fF at h;split at h
 ·contradiction
 ·rename_i h1;split at h
  ·simp at h
  ·split at h
   ·simp at h
   ·split at h
    ·simp at h
    ·rename_i h4 h5;exact⟨by simpa using h1,h4,by omega⟩
structure EncAt (w w1:World) (c:MC) (d:Msg):Prop where
 ten:Ten w1 w.heap.size c
 bel:BB w w1
 msg:IsMsg (· < w1.heap.size) w1 c d
 tabs:Tabs w1
theorem sA (c:MC) (d:Msg) (w:World) (hd:IsMsg (· < w.heap.size) w c d) (hT:Tabs w) (w1:World) (hb:BB (w.alloc (mObj c)) w1):EncAt w w1 c d:=by
 have ab:BB w (w.alloc (mObj c)):=(bR w).alloc lr _;have aa:BB w w1:=ab.trans (hb.mono ab.size);exact⟨tenOf (aB hb (ib w _)),aa,hd.same λb h=>⟨ix h aa.size,aa.block b h⟩,hT.below aa⟩
theorem aCo (c:MC) (d:Msg) (w:World) (hd:IsMsg (· < w.heap.size) w c d) (hT:Tabs w) (t:ByteArray) (h0:fF d=0) (bq:t.size<=65536)
 (am:∀w',BB w w'->CP 83 #[c.b.v] w' (Rt (.tuple #[Sv t,I6 0]) w')) :
 CP 37 #[c.v] w (Rt (.tuple #[Sv (aO3 d t),I6 0]) w):=by
 obtain⟨ti,hi,bj,bf,bh⟩:=jr vA;obtain⟨ay,a0,ao⟩:=aKm h0;have HM:=f8 (sA c d w hd hT);have HL:=f8 hd.es.len;have HR:=f8 hd.es.rng;have au:0<c.n:=by rw[HL.o];exact List.length_pos_iff.2 a0
 have bm:c.n<=4096:=by rw[HL.o];exact ao
 have a8:=f8 hd.m;have a6:I64 c.m:=by rw[hd.m];exact hd.rm
 have aw:=f8 a6;have a3:f7 (∀w1,BB (w.alloc (mObj c)) w1->CP 84 #[c.v] w1 (Rt (I6 0) w1)):=f8 λw1 h=>by
  have q:=sA c d w hd hT w1 h;rw[<-h0];exact eK c d w1 q.msg q.tabs
 have a7:f7 (∀w1,BB (w.alloc (mObj c)) w1->CP 85 #[c.st.v] w1 (Rt (.tuple #[Sv (dL d.st),I6 0]) w1)):=f8 λw1 h=>by
  have q:=sA c d w hd hT w1 h;refine(kN c.st d.st w1 q.msg.st q.tabs).mono λe w' ⟨he,hb⟩=>⟨?_,hb⟩
  rw[he,nW,gw ay]
 have a5:f7 (∀w1,BB (w.alloc (mObj c)) w1->CP 83 #[c.b.v] w1 (Rt (.tuple #[Sv t,I6 0]) w1)):=f8 λw1 h=>am w1 (sA c d w hd hT w1 h).bel;have bi:(dL d.st).size<=20000:=nV d.st hd.st.re hd.st.ps.rng (aGe ay);clear hd hT am a0 ao a6 h0 ay;obtain⟨⟨ce,sa,sn,sc⟩,m,a,n,cap,⟨k,i',s,tt,la,ll,lc,fa,fl,fc⟩⟩:=c;have a4:=HM.o _ (gx _ _);have a9:=a4.ten;dsimp only[Ten,mObj] at a9;obtain⟨e0,e1,e2,e3,e4,e5,e6,e7,e8,e9⟩:=a9;clear a4;have ba:=a3.o _ (gx _ _);have aj:=f8 ba;dsimp only[mObj,SC.v,VC.v,MC.v] at HM HL HR au bm a8 aw aj a7 a5 ⊢;clear ba a3
 go_enter func37,ntmps37
 go_wp2_with (first
  | (go_at_call 84;refine aj.mono ?_;rintro e w2 ⟨rfl,ap⟩;obtain⟨⟨j0,j1,j2,j3,j4,j5,j6,j7,j8,j9⟩,_,_,_⟩:=HM.o _ ap;clear e0 e1 e2 e3 e4 e5 e6 e7 e8 e9)
  | (go_at_call 83;refine(a5.o _ ap).mono ?_;rintro e w3 ⟨rfl,bd⟩;have ab:=ap.trans (bd.mono ap.size);obtain⟨⟨l0,l1,l2,l3,l4,l5,l6,l7,l8,l9⟩,_,_,_⟩:=HM.o _ ab;clear j0 j1 j2 j3 j4 j5 j6 j7 j8 j9)
  | (go_at_call 85;refine(a7.o _ ab).mono ?_;rintro e w4 ⟨rfl,bp⟩;have ar:=ab.trans (bp.mono ab.size);obtain⟨⟨m0,m1,m2,m3,m4,m5,m6,m7,m8,m9⟩,ag,ai,an⟩:=HM.o _ ar;have bl:=f8 ai.es;have a2:=f8 an;clear ai an l0 l1 l2 l3 l4 l5 l6 l7 l8 l9))
 go_loopw [9,35] (λv i wr=>∃k:Nat,k<=n/\i=I6 k/\wr.ownsRow w4.heap.size 9 1 v k (((d.es.take k).map aE).map Value.string)/\BB w4 wr) (λ_ i _=>n-(intOf i).toNat)
 case atStart=>exact⟨0,ii _,rfl,lf _ _ _ _,gx _ _⟩
 case round =>
  obtain⟨q,hk,rfl,aa,ae⟩:=hrel;have aq:=f8 ae;by_cases bk:q<n
  ·obtain⟨b,o,rfl,hb,hc⟩:=bl.slot au;have a1:q<d.es.length:=by have:=HL.o;omega
   have bn:=(jg (w:=w4) (a:=⟨b,o+q,none⟩) (ae.block b hb)).trans (hc q a1);clear hc;obtain⟨z,hz⟩:=xe (d.es[q])
   rw[<-hz] at bn;have az:=f8 (bM z (by rw[hz];exact HR.o _ (kc _)) wr (a2.below ae));have HZ:=f8 hz;clear hz;have bc:(q:Int)<(n:Int):=ga
   have ak:=f8 aa;clear aa ae;have al:q+1<=maxLen:=by unfold maxLen;omega
   have ah:(q+1) * 16<=140737488355328:=ga
   go_wp2_with (first
    | (go_at_call 64;refine az.o.mono ?_;rintro e w6 ⟨rfl,af⟩)
    | (at_builtin;refine qq _ gh _ _ 43 gh w4.heap.size 9 ti _ 1 16 underlying43 hi bj bf bh rfl ga _ _ _ gh ((fS ak.o af).alloc _) ⟨w6.heap.size,0,none⟩ 1 1 [.string (aE z)] gh gh (cell_one_new _ _ _) gj al ah (by have:=aq.size;have:=af.size;simp;omega) ?_;intro v' w5 ad ac ax av;obtain⟨bb,HG⟩:=h_2 ad ac;clear ad ac ax av))
   go_roundw
   case rel =>
    refine⟨q+1,by omega,by go_num,?_,?_⟩
    ·have h:=bb.o;rw[show((d.es.take (q+1)).map aE).map Value.string=((d.es.take q).map aE).map Value.string++[Sv (aE z)] by rw[mh a1,HZ.o,kh,kh];rfl];exact h
    ·have h3:=aq.trans (af.mono aq.size);refine(h3.alloc h3.size _).grown HG.o (by have:=h3.size;simp;omega) λr hr=>?_;exact rO ak.o r hr
   case measure=>simp[intOf];omega
  ·obtain rfl:q=n:=ga
   clear bk;rw[mr (by have:=HL.o;omega)] at aa;obtain⟨g,be,rfl,hj⟩:=lE aa (by rw[jy];exact HL.o) au 21 (λx hx=>by
    rw[oa] at hx;obtain⟨y,hy,rfl⟩:=hx;exact kG y (HR.o y hy)) ⟨#[44]⟩ gi
   have HJ:=f8 hj;have az:=f8 (bM m aw.o wr (a2.below ae));have z1:=cG m aw.o;have z2:=iM (d.es.map aE) ⟨#[44]⟩ 21 (λx hx=>by
    rw[oa] at hx;obtain⟨y,hy,rfl⟩:=hx;exact kG y (HR.o y hy))
   rw[jy,<-HL.o] at z2;simp at z2;have s1:(dL d.st).size+1<=9223372036854775807:=ga
   have s2:(dL d.st).size+1+(aE m).size<=9223372036854775807:=ga
   have s3:(dL d.st).size+1+(aE m).size+1<=9223372036854775807:=ga
   have s4:(dL d.st).size+1+(aE m).size+1+(cE (d.es.map aE) ⟨#[44]⟩).size<=9223372036854775807:=ga
   have s5:(dL d.st).size+1+(aE m).size+1+(cE (d.es.map aE) ⟨#[44]⟩).size+1<=9223372036854775807:=ga
   have s6:(dL d.st).size+1+(aE m).size+1+(cE (d.es.map aE) ⟨#[44]⟩).size+1+t.size<=9223372036854775807:=ga
   have c0:=(jg (w:=w4) (a:=⟨w.heap.size,2,none⟩) (ae.block _ (o9 _ _ m2))).trans m2;clear hj aa ae;go_wp2_with (first
    | (go_at_call 64;refine az.o.mono ?_;rintro e w6 ⟨rfl,af⟩)
    | (go_at_call 48;refine(HJ.o _ af).mono ?_;rintro e w7 ⟨rfl,bg⟩))
   have bo:BB w w7:=by
    have h1:=ag.trans (aq.mono ag.size);have h2:=h1.trans (af.mono h1.size);exact h2.trans (bg.mono h2.size)
   exact ig (v:=.tuple #[Sv (aO3 d t),I6 0]) (by simp[results,results37,go_sem,aO3,a8.o]) rfl ⟨rfl,bo⟩
end Go.Proofs.YtoodnaghjpkjfaaGreatDoor
